/- FenceNew returns true whatever the arguments are, and they read behind the call as they read before: the tied card. Condition: the listed variables of strings and unicode hold what the program's text lays (the card ties them). -/
import Derived.Test.YtboapdcmaeojgaaGreatDoorPN5
import Derived.Test.YtboapdcmaeojgaaGreatDoorCards
import Derived.Test.YtboapdcmaeojgaaGreatDoorTie
import Derived.Deep.DeepHandedRow
import Derived.Deep.DeepWitnessRowRef
import Derived.Lib.LaidTab
set_option linter.unusedVariables false
set_option linter.unusedSimpArgs false
set_option linter.unusedSectionVars false
/- FenceNew. Written by program (walk2.py). -/
namespace Go.Proofs.YtboapdcmaeojgaaGreatDoor
open SL Cat Fen
set_option linter.unusedVariables false
set_option linter.unusedSimpArgs false
theorem ent18 : Ent Tryz.prog 18 := ⟨_, _, Tryz.func18, by kernel_rfl, rfl⟩
theorem ent12 : Ent Tryz.prog 12 := ⟨_, _, Tryz.func12, by kernel_rfl, rfl⟩
theorem ent20 : Ent Tryz.prog 20 := ⟨_, _, Tryz.func20, by kernel_rfl, rfl⟩
theorem ent22 : Ent Tryz.prog 22 := ⟨_, _, Tryz.func22, by kernel_rfl, rfl⟩
theorem ent21 : Ent Tryz.prog 21 := ⟨_, _, Tryz.func21, by kernel_rfl, rfl⟩
theorem ent17 : Ent Tryz.prog 17 := ⟨_, _, Tryz.func17, by kernel_rfl, rfl⟩
set_option maxRecDepth 100000 in
set_option maxHeartbeats 6400000 in
theorem few14_ct (m : Md) (H1 : PH) (hM : m.In H1) : Ct Tryz.prog 18 [.agg [.slice m.psi m.si.length m.csi, .slice m.pfe m.fe.length m.cfe, .slice m.prk m.rk.length m.crk, .slice m.pmc m.mc.length m.cmc, .slice m.pln m.ln.length m.cln, .slice m.pis m.is.length m.cis, .int .i64 m.da, .int .i64 m.sl, .int .i64 m.re, .int .i64 m.fa, .slice m.prl m.rl.length m.crl].toArray] [H1] (fun v Hs => ∃ b, v = .bool b ∧ Hs = [H1]) := by
  refine Ct.body Tryz.func18 rfl Tryz.ntmps18 rfl ?_
  intro E F
  have hsi := hM.si
  have hqsi := hsi.len_le
  have hfe := hM.fe
  have hqfe := hfe.len_le
  have hrk := hM.rk
  have hqrk := hrk.len_le
  have hmc := hM.mc
  have hqmc := hmc.len_le
  have his := hM.is
  have hqis := his.len_le
  have hrl := hM.rl
  have hqrl := hrl.len_le
  simp only [List.length_map, tz_len, maxLen] at hqsi hqfe hqrk hqmc hqis hqrl
  refine W.seq ?_
  refine W.region ?_
  refine RL.e (Eff.box 101 _ rfl rfl) rfl ?_
  rintro _ _ ⟨b1, rfl, rfl⟩
  refine RL.q (Yld.assign rfl) rfl ?_
  refine RL.nil ?_
  refine N.next ?_
  refine W.seq ?_
  refine W.seq ?_
  refine W.region ?_
  refine RL.q (Yld.fieldAddr fo29_0 rfl) rfl ?_
  refine RL.q (Yld.ld 101 Tryz.underlying22 rfl rfl rfl rfl) rfl ?_
  refine RL.q (Yld.lenSl Tryz.underlying22 rfl) rfl ?_
  refine RL.q (Yld.bin rfl rfl BinV.gtr) rfl ?_
  refine RL.q (Yld.move rfl) rfl ?_
  refine' RL.or (t := 14) (d := 19) 5 rfl (.of [0, 1, 2, 10, 11, 12, 13] rfl) (.of [0, 1, 101] rfl) ?_ ?_ ?_
  rotate_left 1
  ·
   intro hg14
   refine RL.gq rfl rfl (Yld.fieldAddr fo29_1 rfl) rfl ?_
   refine RL.gq rfl rfl (Yld.ld 101 Tryz.underlying22 rfl rfl rfl rfl) rfl ?_
   refine RL.gq rfl rfl (Yld.lenSl Tryz.underlying22 rfl) rfl ?_
   refine RL.gq rfl rfl (Yld.bin rfl rfl BinV.gtr) rfl ?_
   refine RL.q Yld.pk rfl ?_
   exact RL.nil (N.meet (.to rfl) (.to rfl))
  ·
   intro hg14
   refine RL.gskip rfl rfl rfl rfl ?_
   refine RL.gskip rfl rfl rfl rfl ?_
   refine RL.gskip rfl rfl rfl rfl ?_
   refine RL.gskip rfl rfl rfl rfl ?_
   refine RL.q Yld.pk rfl ?_
   exact RL.nil (N.meet (.to rfl) (.to rfl))
  refine RL.q (Yld.move rfl) rfl ?_
  refine' RL.or (t := 20) (d := 25) 5 rfl (.of [0, 1, 2, 10, 11, 12, 13, 19] rfl) (.of [0, 1, 101] rfl) ?_ ?_ ?_
  rotate_left 1
  ·
   intro hg20
   refine RL.gq rfl rfl (Yld.fieldAddr fo29_2 rfl) rfl ?_
   refine RL.gq rfl rfl (Yld.ld 101 Tryz.underlying23 rfl rfl rfl rfl) rfl ?_
   refine RL.gq rfl rfl (Yld.lenSl Tryz.underlying23 rfl) rfl ?_
   refine RL.gq rfl rfl (Yld.bin rfl rfl BinV.gtr) rfl ?_
   refine RL.q Yld.pk rfl ?_
   exact RL.nil (N.meet (.to rfl) (.to rfl))
  ·
   intro hg20
   refine RL.gskip rfl rfl rfl rfl ?_
   refine RL.gskip rfl rfl rfl rfl ?_
   refine RL.gskip rfl rfl rfl rfl ?_
   refine RL.gskip rfl rfl rfl rfl ?_
   refine RL.q Yld.pk rfl ?_
   exact RL.nil (N.meet (.to rfl) (.to rfl))
  refine RL.q (Yld.move rfl) rfl ?_
  refine' RL.or (t := 26) (d := 31) 5 rfl (.of [0, 1, 2, 10, 11, 12, 13, 19, 25] rfl) (.of [0, 1, 101] rfl) ?_ ?_ ?_
  rotate_left 1
  ·
   intro hg26
   refine RL.gq rfl rfl (Yld.fieldAddr fo29_3 rfl) rfl ?_
   refine RL.gq rfl rfl (Yld.ld 101 Tryz.underlying24 rfl rfl rfl rfl) rfl ?_
   refine RL.gq rfl rfl (Yld.lenSl Tryz.underlying24 rfl) rfl ?_
   refine RL.gq rfl rfl (Yld.bin rfl rfl BinV.gtr) rfl ?_
   refine RL.q Yld.pk rfl ?_
   exact RL.nil (N.meet (.to rfl) (.to rfl))
  ·
   intro hg26
   refine RL.gskip rfl rfl rfl rfl ?_
   refine RL.gskip rfl rfl rfl rfl ?_
   refine RL.gskip rfl rfl rfl rfl ?_
   refine RL.gskip rfl rfl rfl rfl ?_
   refine RL.q Yld.pk rfl ?_
   exact RL.nil (N.meet (.to rfl) (.to rfl))
  refine RL.q (Yld.move rfl) rfl ?_
  refine' RL.or (t := 32) (d := 37) 5 rfl (.of [0, 1, 2, 10, 11, 12, 13, 19, 25, 31] rfl) (.of [0, 1, 101] rfl) ?_ ?_ ?_
  rotate_left 1
  ·
   intro hg32
   refine RL.gq rfl rfl (Yld.fieldAddr fo29_4 rfl) rfl ?_
   refine RL.gq rfl rfl (Yld.ld 101 Tryz.underlying25 rfl rfl rfl rfl) rfl ?_
   refine RL.gq rfl rfl (Yld.lenSl Tryz.underlying25 rfl) rfl ?_
   refine RL.gq rfl rfl (Yld.bin rfl rfl BinV.gtr) rfl ?_
   refine RL.q Yld.pk rfl ?_
   exact RL.nil (N.meet (.to rfl) (.to rfl))
  ·
   intro hg32
   refine RL.gskip rfl rfl rfl rfl ?_
   refine RL.gskip rfl rfl rfl rfl ?_
   refine RL.gskip rfl rfl rfl rfl ?_
   refine RL.gskip rfl rfl rfl rfl ?_
   refine RL.q Yld.pk rfl ?_
   exact RL.nil (N.meet (.to rfl) (.to rfl))
  refine RL.q (Yld.move rfl) rfl ?_
  refine' RL.or (t := 38) (d := 43) 5 rfl (.of [0, 1, 2, 10, 11, 12, 13, 19, 25, 31, 37] rfl) (.of [0, 1, 101] rfl) ?_ ?_ ?_
  rotate_left 1
  ·
   intro hg38
   refine RL.gq rfl rfl (Yld.fieldAddr fo29_5 rfl) rfl ?_
   refine RL.gq rfl rfl (Yld.ld 101 Tryz.underlying26 rfl rfl rfl rfl) rfl ?_
   refine RL.gq rfl rfl (Yld.lenSl Tryz.underlying26 rfl) rfl ?_
   refine RL.gq rfl rfl (Yld.bin rfl rfl BinV.gtr) rfl ?_
   refine RL.q Yld.pk rfl ?_
   exact RL.nil (N.meet (.to rfl) (.to rfl))
  ·
   intro hg38
   refine RL.gskip rfl rfl rfl rfl ?_
   refine RL.gskip rfl rfl rfl rfl ?_
   refine RL.gskip rfl rfl rfl rfl ?_
   refine RL.gskip rfl rfl rfl rfl ?_
   refine RL.q Yld.pk rfl ?_
   exact RL.nil (N.meet (.to rfl) (.to rfl))
  refine RL.q (Yld.move rfl) rfl ?_
  refine' RL.or (t := 44) (d := 49) 5 rfl (.of [0, 1, 2, 10, 11, 12, 13, 19, 25, 31, 37, 43] rfl) (.of [0, 1, 101] rfl) ?_ ?_ ?_
  rotate_left 1
  ·
   intro hg44
   refine RL.gq rfl rfl (Yld.fieldAddr fo29_10 rfl) rfl ?_
   refine RL.gq rfl rfl (Yld.ld 101 Tryz.underlying27 rfl rfl rfl rfl) rfl ?_
   refine RL.gq rfl rfl (Yld.lenSl Tryz.underlying27 rfl) rfl ?_
   refine RL.gq rfl rfl (Yld.bin rfl rfl BinV.gtr) rfl ?_
   refine RL.q Yld.pk rfl ?_
   exact RL.nil (N.meet (.to rfl) (.to rfl))
  ·
   intro hg44
   refine RL.gskip rfl rfl rfl rfl ?_
   refine RL.gskip rfl rfl rfl rfl ?_
   refine RL.gskip rfl rfl rfl rfl ?_
   refine RL.gskip rfl rfl rfl rfl ?_
   refine RL.q Yld.pk rfl ?_
   exact RL.nil (N.meet (.to rfl) (.to rfl))
  refine RL.nil ?_
  refine N.next ?_
  refine W.keep (.of [1, 49] rfl) (.of [0, 1, 101] rfl) ?_
  refine W.cond rfl (fun hc49 => ?_) (fun hc49 => ?_)
  ·
   refine W.seq ?_
   refine W.region ?_
   refine RL.q (Yld.assign rfl) rfl ?_
   refine RL.nil ?_
   refine N.next ?_
   refine W.ret ?_
   refine N.then_ret ?_
   exact N.retBy [1] (.cons (.tmp rfl) .nil) rfl rfl rfl rfl ⟨false, rfl, rfl⟩
  ·
   refine W.skip ?_
   refine N.next ?_
   refine W.seq ?_
   refine W.region ?_
   refine RL.q (Yld.assign rfl) rfl ?_
   refine RL.nil ?_
   refine N.next ?_
   refine W.seq ?_
   refine W.seq ?_
   refine W.region ?_
   refine RL.q (Yld.assign rfl) rfl ?_
   refine RL.nil ?_
   refine N.next ?_
   refine W.block ?_
   refine W.loopK (ι := Nat × Int) (fun y => (y.1 ≤ m.si.length)) (fun y => [(3, .int .i64 y.2), (4, .int .i64 (y.1 : Nat))]) (fun y => []) (fun y => m.si.length - y.1) (.of [1] rfl) (.of [0, 1, 101] rfl) (0, 0) ?_ ?_ ?_ ?_
   · exact Nat.zero_le _
   · exact (.as rfl (by first | rfl | (simp; done) | (congr 1; simp; done) | (congr 1; omega)) (.as rfl (by first | rfl | (simp; done) | (congr 1; simp; done) | (congr 1; omega)) .nil))
   · exact .nil
   rintro y hy
   refine W.keep (.of [3, 4, 1] rfl) (.of [0, 1, 101] rfl) ?_
   refine W.seq ?_
   refine W.seq ?_
   refine W.region ?_
   refine RL.q (Yld.move rfl) rfl ?_
   refine RL.q (Yld.fieldAddr fo29_0 rfl) rfl ?_
   refine RL.q (Yld.ld 101 Tryz.underlying22 rfl rfl rfl rfl) rfl ?_
   refine RL.q (Yld.lenSl Tryz.underlying22 rfl) rfl ?_
   refine RL.q (Yld.bin rfl rfl BinV.lss) rfl ?_
   refine RL.nil ?_
   refine N.next ?_
   refine W.keep (.of [1, 3, 4, 54] rfl) (.of [0, 1, 101] rfl) ?_
   first | refine W.condD rfl (fun hc54 => ?_) (fun hc54 => ?_) | (refine W.cond rfl (fun hc54 => ?_) (fun hc54 => ?_) <;> try simp only [Bool.or_eq_true, Bool.and_eq_true, Bool.not_eq_true', Bool.not_eq_false', decide_eq_true_eq, Bool.or_eq_false_iff, Bool.and_eq_false_iff, decide_eq_false_iff_not, beq_iff_eq, beq_eq_false_iff_ne, ne_eq, Decidable.not_not] at hc54)
   ·
    obtain ⟨s, hs, hls⟩ := tz_at (show y.1 < m.si.length by omega)
    refine W.skip ?_
    refine N.next ?_
    refine W.seq ?_
    refine W.block ?_
    refine W.region ?_
    refine RL.q (Yld.move rfl) rfl ?_
    refine RL.q (Yld.fieldAddr fo29_0 rfl) rfl ?_
    refine RL.q (Yld.ld 101 Tryz.underlying22 rfl rfl rfl rfl) rfl ?_
    refine RL.q (Yld.move rfl) rfl ?_
    refine RL.q (Yld.ixr Tryz.underlying22 sz9 rfl rfl) rfl ?_
    refine RL.q (by first | exact (by first | exact Yld.loadRow1 (cl := 1) Tryz.underlying9 rfl rfl rfl (by first | assumption | exact Own.sl (by assumption)) (by assumption) | exact Yld.loadRow1 (cl := 101) Tryz.underlying9 rfl rfl rfl (by first | assumption | exact Own.sl (by assumption)) (by assumption)) | exact (by first | exact Yld.lrF 1 0 Tryz.underlying9 rfl rfl rfl rfl | exact Yld.lrF 101 0 Tryz.underlying9 rfl rfl rfl rfl)) rfl ?_
    refine RL.q (Yld.lenS Tryz.underlying9 rfl) rfl ?_
    refine RL.q (Yld.max2 rfl rfl) rfl ?_
    refine RL.q (Yld.assign rfl) rfl ?_
    refine RL.nil ?_
    refine N.block_normal ?_
    refine N.next ?_
    refine W.keep (.of [1, 3, 4] rfl) (.of [0, 1, 101] rfl) ?_
    refine W.region ?_
    refine RL.q (Yld.move rfl) rfl ?_
    refine RL.q (Yld.bin rfl rfl (by first | exact BinV.add (by omega) (by omega) | exact BinV.addW)) rfl ?_
    refine RL.q (Yld.assign rfl) rfl ?_
    refine RL.nil ?_
    exact N.famK (y.1 + 1, max y.2 (s.size : Nat)) ⟨by dsimp only; omega, by dsimp only; omega⟩ (.as rfl (by first | rfl | (simp; done) | (congr 1; simp; done) | (congr 1; omega)) (.as rfl (by first | rfl | (simp; done) | (congr 1; simp; done) | (congr 1; omega)) .nil)) (.to rfl) .nil (.to rfl)
   ·
    refine W.exit ?_
    refine N.then_exit ?_
    refine N.then_exit ?_
    refine N.block_eq ?_
    refine N.next ?_
    refine W.seq ?_
    refine W.seq ?_
    refine W.region ?_
    refine RL.q (Yld.assign rfl) rfl ?_
    refine RL.nil ?_
    refine N.next ?_
    refine W.block ?_
    refine W.loopK (ι := Nat × Int) (fun y => (y.1 ≤ m.fe.length)) (fun y => [(3, .int .i64 y.2), (5, .int .i64 (y.1 : Nat))]) (fun y => []) (fun y => m.fe.length - y.1) (.of [1] rfl) (.of [0, 1, 101] rfl) (0, y.2) ?_ ?_ ?_ ?_
    · exact Nat.zero_le _
    · exact (.as rfl (by first | rfl | (simp; done) | (congr 1; simp; done) | (congr 1; omega)) (.as rfl (by first | rfl | (simp; done) | (congr 1; simp; done) | (congr 1; omega)) .nil))
    · exact .nil
    rintro y hy
    refine W.keep (.of [3, 5, 1] rfl) (.of [0, 1, 101] rfl) ?_
    refine W.seq ?_
    refine W.seq ?_
    refine W.region ?_
    refine RL.q (Yld.move rfl) rfl ?_
    refine RL.q (Yld.fieldAddr fo29_1 rfl) rfl ?_
    refine RL.q (Yld.ld 101 Tryz.underlying22 rfl rfl rfl rfl) rfl ?_
    refine RL.q (Yld.lenSl Tryz.underlying22 rfl) rfl ?_
    refine RL.q (Yld.bin rfl rfl BinV.lss) rfl ?_
    refine RL.nil ?_
    refine N.next ?_
    refine W.keep (.of [1, 3, 5, 69] rfl) (.of [0, 1, 101] rfl) ?_
    first | refine W.condD rfl (fun hc69 => ?_) (fun hc69 => ?_) | (refine W.cond rfl (fun hc69 => ?_) (fun hc69 => ?_) <;> try simp only [Bool.or_eq_true, Bool.and_eq_true, Bool.not_eq_true', Bool.not_eq_false', decide_eq_true_eq, Bool.or_eq_false_iff, Bool.and_eq_false_iff, decide_eq_false_iff_not, beq_iff_eq, beq_eq_false_iff_ne, ne_eq, Decidable.not_not] at hc69)
    ·
     obtain ⟨s, hs, hls⟩ := tz_at (show y.1 < m.fe.length by omega)
     refine W.skip ?_
     refine N.next ?_
     refine W.seq ?_
     refine W.block ?_
     refine W.region ?_
     refine RL.q (Yld.move rfl) rfl ?_
     refine RL.q (Yld.fieldAddr fo29_1 rfl) rfl ?_
     refine RL.q (Yld.ld 101 Tryz.underlying22 rfl rfl rfl rfl) rfl ?_
     refine RL.q (Yld.move rfl) rfl ?_
     refine RL.q (Yld.ixr Tryz.underlying22 sz9 rfl rfl) rfl ?_
     refine RL.q (by first | exact (by first | exact Yld.loadRow1 (cl := 1) Tryz.underlying9 rfl rfl rfl (by first | assumption | exact Own.sl (by assumption)) (by assumption) | exact Yld.loadRow1 (cl := 101) Tryz.underlying9 rfl rfl rfl (by first | assumption | exact Own.sl (by assumption)) (by assumption)) | exact (by first | exact Yld.lrF 1 0 Tryz.underlying9 rfl rfl rfl rfl | exact Yld.lrF 101 0 Tryz.underlying9 rfl rfl rfl rfl)) rfl ?_
     refine RL.q (Yld.lenS Tryz.underlying9 rfl) rfl ?_
     refine RL.q (Yld.max2 rfl rfl) rfl ?_
     refine RL.q (Yld.assign rfl) rfl ?_
     refine RL.nil ?_
     refine N.block_normal ?_
     refine N.next ?_
     refine W.keep (.of [1, 3, 5] rfl) (.of [0, 1, 101] rfl) ?_
     refine W.region ?_
     refine RL.q (Yld.move rfl) rfl ?_
     refine RL.q (Yld.bin rfl rfl (by first | exact BinV.add (by omega) (by omega) | exact BinV.addW)) rfl ?_
     refine RL.q (Yld.assign rfl) rfl ?_
     refine RL.nil ?_
     exact N.famK (y.1 + 1, max y.2 (s.size : Nat)) ⟨by dsimp only; omega, by dsimp only; omega⟩ (.as rfl (by first | rfl | (simp; done) | (congr 1; simp; done) | (congr 1; omega)) (.as rfl (by first | rfl | (simp; done) | (congr 1; simp; done) | (congr 1; omega)) .nil)) (.to rfl) .nil (.to rfl)
    ·
     refine W.exit ?_
     refine N.then_exit ?_
     refine N.then_exit ?_
     refine N.block_eq ?_
     refine N.next ?_
     refine W.seq ?_
     refine W.seq ?_
     refine W.region ?_
     refine RL.q (Yld.assign rfl) rfl ?_
     refine RL.nil ?_
     refine N.next ?_
     refine W.block ?_
     refine W.loopK (ι := Nat × Int) (fun y => (y.1 ≤ m.rk.length)) (fun y => [(3, .int .i64 y.2), (6, .int .i64 (y.1 : Nat))]) (fun y => []) (fun y => m.rk.length - y.1) (.of [1] rfl) (.of [0, 1, 101] rfl) (0, y.2) ?_ ?_ ?_ ?_
     · exact Nat.zero_le _
     · exact (.as rfl (by first | rfl | (simp; done) | (congr 1; simp; done) | (congr 1; omega)) (.as rfl (by first | rfl | (simp; done) | (congr 1; simp; done) | (congr 1; omega)) .nil))
     · exact .nil
     rintro y hy
     refine W.keep (.of [3, 6, 1] rfl) (.of [0, 1, 101] rfl) ?_
     refine W.seq ?_
     refine W.seq ?_
     refine W.region ?_
     refine RL.q (Yld.move rfl) rfl ?_
     refine RL.q (Yld.fieldAddr fo29_2 rfl) rfl ?_
     refine RL.q (Yld.ld 101 Tryz.underlying23 rfl rfl rfl rfl) rfl ?_
     refine RL.q (Yld.lenSl Tryz.underlying23 rfl) rfl ?_
     refine RL.q (Yld.bin rfl rfl BinV.lss) rfl ?_
     refine RL.nil ?_
     refine N.next ?_
     refine W.keep (.of [1, 3, 6, 84] rfl) (.of [0, 1, 101] rfl) ?_
     first | refine W.condD rfl (fun hc84 => ?_) (fun hc84 => ?_) | (refine W.cond rfl (fun hc84 => ?_) (fun hc84 => ?_) <;> try simp only [Bool.or_eq_true, Bool.and_eq_true, Bool.not_eq_true', Bool.not_eq_false', decide_eq_true_eq, Bool.or_eq_false_iff, Bool.and_eq_false_iff, decide_eq_false_iff_not, beq_iff_eq, beq_eq_false_iff_ne, ne_eq, Decidable.not_not] at hc84)
     ·
      obtain ⟨s, hs⟩ : ∃ s, m.rk[y.1]? = some s := ⟨_, List.getElem?_eq_getElem (show y.1 < m.rk.length by first | omega | (simp only [List.length_map] at *; omega))⟩
      have hls : (m.rk.map Rk.c)[y.1]? = some s.c := by simp [hs]
      refine W.skip ?_
      refine N.next ?_
      refine W.seq ?_
      refine W.block ?_
      refine W.region ?_
      refine RL.q (Yld.move rfl) rfl ?_
      refine RL.q (Yld.fieldAddr fo29_2 rfl) rfl ?_
      refine RL.q (Yld.ld 101 Tryz.underlying23 rfl rfl rfl rfl) rfl ?_
      refine RL.q (Yld.move rfl) rfl ?_
      refine RL.q (Yld.ixr Tryz.underlying23 sz93 rfl rfl) rfl ?_
      refine RL.q (Yld.fieldAddr fo93_0 rfl) rfl ?_
      refine RL.q (by first | exact (by first | exact Yld.loadRow1 (cl := 1) Tryz.underlying9 rfl rfl rfl (by first | assumption | exact Own.sl (by assumption)) (by assumption) | exact Yld.loadRow1 (cl := 101) Tryz.underlying9 rfl rfl rfl (by first | assumption | exact Own.sl (by assumption)) (by assumption)) | exact (by first | exact Yld.lrF 1 0 Tryz.underlying9 rfl rfl rfl rfl | exact Yld.lrF 101 0 Tryz.underlying9 rfl rfl rfl rfl)) rfl ?_
      refine RL.q (Yld.lenS Tryz.underlying9 rfl) rfl ?_
      refine RL.q (Yld.max2 rfl rfl) rfl ?_
      refine RL.q (Yld.assign rfl) rfl ?_
      refine RL.nil ?_
      refine N.block_normal ?_
      refine N.next ?_
      refine W.keep (.of [1, 3, 6] rfl) (.of [0, 1, 101] rfl) ?_
      refine W.region ?_
      refine RL.q (Yld.move rfl) rfl ?_
      refine RL.q (Yld.bin rfl rfl (by first | exact BinV.add (by omega) (by omega) | exact BinV.addW)) rfl ?_
      refine RL.q (Yld.assign rfl) rfl ?_
      refine RL.nil ?_
      exact N.famK (y.1 + 1, max y.2 (s.nm.size : Nat)) ⟨by dsimp only; omega, by dsimp only; omega⟩ (.as rfl (by first | rfl | (simp; done) | (congr 1; simp; done) | (congr 1; omega)) (.as rfl (by first | rfl | (simp; done) | (congr 1; simp; done) | (congr 1; omega)) .nil)) (.to rfl) .nil (.to rfl)
     ·
      refine W.exit ?_
      refine N.then_exit ?_
      refine N.then_exit ?_
      refine N.block_eq ?_
      refine N.next ?_
      refine W.seq ?_
      refine W.seq ?_
      refine W.region ?_
      refine RL.q (Yld.assign rfl) rfl ?_
      refine RL.nil ?_
      refine N.next ?_
      refine W.block ?_
      refine W.loopK (ι := Nat × Int) (fun y => (y.1 ≤ m.mc.length)) (fun y => [(3, .int .i64 y.2), (7, .int .i64 (y.1 : Nat))]) (fun y => []) (fun y => m.mc.length - y.1) (.of [1] rfl) (.of [0, 1, 101] rfl) (0, y.2) ?_ ?_ ?_ ?_
      · exact Nat.zero_le _
      · exact (.as rfl (by first | rfl | (simp; done) | (congr 1; simp; done) | (congr 1; omega)) (.as rfl (by first | rfl | (simp; done) | (congr 1; simp; done) | (congr 1; omega)) .nil))
      · exact .nil
      rintro y hy
      refine W.keep (.of [3, 7, 1] rfl) (.of [0, 1, 101] rfl) ?_
      refine W.seq ?_
      refine W.seq ?_
      refine W.region ?_
      refine RL.q (Yld.move rfl) rfl ?_
      refine RL.q (Yld.fieldAddr fo29_3 rfl) rfl ?_
      refine RL.q (Yld.ld 101 Tryz.underlying24 rfl rfl rfl rfl) rfl ?_
      refine RL.q (Yld.lenSl Tryz.underlying24 rfl) rfl ?_
      refine RL.q (Yld.bin rfl rfl BinV.lss) rfl ?_
      refine RL.nil ?_
      refine N.next ?_
      refine W.keep (.of [1, 3, 7, 100] rfl) (.of [0, 1, 101] rfl) ?_
      first | refine W.condD rfl (fun hc100 => ?_) (fun hc100 => ?_) | (refine W.cond rfl (fun hc100 => ?_) (fun hc100 => ?_) <;> try simp only [Bool.or_eq_true, Bool.and_eq_true, Bool.not_eq_true', Bool.not_eq_false', decide_eq_true_eq, Bool.or_eq_false_iff, Bool.and_eq_false_iff, decide_eq_false_iff_not, beq_iff_eq, beq_eq_false_iff_ne, ne_eq, Decidable.not_not] at hc100)
      ·
       obtain ⟨s, hs⟩ : ∃ s, m.mc[y.1]? = some s := ⟨_, List.getElem?_eq_getElem (show y.1 < m.mc.length by first | omega | (simp only [List.length_map] at *; omega))⟩
       have hls : (m.mc.map Mc.c)[y.1]? = some s.c := by simp [hs]
       refine W.skip ?_
       refine N.next ?_
       refine W.seq ?_
       refine W.block ?_
       refine W.region ?_
       refine RL.q (Yld.move rfl) rfl ?_
       refine RL.q (Yld.fieldAddr fo29_3 rfl) rfl ?_
       refine RL.q (Yld.ld 101 Tryz.underlying24 rfl rfl rfl rfl) rfl ?_
       refine RL.q (Yld.move rfl) rfl ?_
       refine RL.q (Yld.ixr Tryz.underlying24 sz95 rfl rfl) rfl ?_
       refine RL.q (Yld.fieldAddr fo95_0 rfl) rfl ?_
       refine RL.q (by first | exact (by first | exact Yld.loadRow1 (cl := 1) Tryz.underlying9 rfl rfl rfl (by first | assumption | exact Own.sl (by assumption)) (by assumption) | exact Yld.loadRow1 (cl := 101) Tryz.underlying9 rfl rfl rfl (by first | assumption | exact Own.sl (by assumption)) (by assumption)) | exact (by first | exact Yld.lrF 1 0 Tryz.underlying9 rfl rfl rfl rfl | exact Yld.lrF 101 0 Tryz.underlying9 rfl rfl rfl rfl)) rfl ?_
       refine RL.q (Yld.lenS Tryz.underlying9 rfl) rfl ?_
       refine RL.q (Yld.max2 rfl rfl) rfl ?_
       refine RL.q (Yld.assign rfl) rfl ?_
       refine RL.nil ?_
       refine N.block_normal ?_
       refine N.next ?_
       refine W.keep (.of [1, 3, 7] rfl) (.of [0, 1, 101] rfl) ?_
       refine W.region ?_
       refine RL.q (Yld.move rfl) rfl ?_
       refine RL.q (Yld.bin rfl rfl (by first | exact BinV.add (by omega) (by omega) | exact BinV.addW)) rfl ?_
       refine RL.q (Yld.assign rfl) rfl ?_
       refine RL.nil ?_
       exact N.famK (y.1 + 1, max y.2 (s.nm.size : Nat)) ⟨by dsimp only; omega, by dsimp only; omega⟩ (.as rfl (by first | rfl | (simp; done) | (congr 1; simp; done) | (congr 1; omega)) (.as rfl (by first | rfl | (simp; done) | (congr 1; simp; done) | (congr 1; omega)) .nil)) (.to rfl) .nil (.to rfl)
      ·
       refine W.exit ?_
       refine N.then_exit ?_
       refine N.then_exit ?_
       refine N.block_eq ?_
       refine N.next ?_
       refine W.seq ?_
       refine W.seq ?_
       refine W.region ?_
       refine RL.q (Yld.assign rfl) rfl ?_
       refine RL.nil ?_
       refine N.next ?_
       refine W.block ?_
       refine W.loopK (ι := Nat × Int) (fun y => (y.1 ≤ m.is.length)) (fun y => [(3, .int .i64 y.2), (8, .int .i64 (y.1 : Nat))]) (fun y => []) (fun y => m.is.length - y.1) (.of [1] rfl) (.of [0, 1, 101] rfl) (0, y.2) ?_ ?_ ?_ ?_
       · exact Nat.zero_le _
       · exact (.as rfl (by first | rfl | (simp; done) | (congr 1; simp; done) | (congr 1; omega)) (.as rfl (by first | rfl | (simp; done) | (congr 1; simp; done) | (congr 1; omega)) .nil))
       · exact .nil
       rintro y hy
       refine W.keep (.of [3, 8, 1] rfl) (.of [0, 1, 101] rfl) ?_
       refine W.seq ?_
       refine W.seq ?_
       refine W.region ?_
       refine RL.q (Yld.move rfl) rfl ?_
       refine RL.q (Yld.fieldAddr fo29_5 rfl) rfl ?_
       refine RL.q (Yld.ld 101 Tryz.underlying26 rfl rfl rfl rfl) rfl ?_
       refine RL.q (Yld.lenSl Tryz.underlying26 rfl) rfl ?_
       refine RL.q (Yld.bin rfl rfl BinV.lss) rfl ?_
       refine RL.nil ?_
       refine N.next ?_
       refine W.keep (.of [1, 3, 8, 116] rfl) (.of [0, 1, 101] rfl) ?_
       first | refine W.condD rfl (fun hc116 => ?_) (fun hc116 => ?_) | (refine W.cond rfl (fun hc116 => ?_) (fun hc116 => ?_) <;> try simp only [Bool.or_eq_true, Bool.and_eq_true, Bool.not_eq_true', Bool.not_eq_false', decide_eq_true_eq, Bool.or_eq_false_iff, Bool.and_eq_false_iff, decide_eq_false_iff_not, beq_iff_eq, beq_eq_false_iff_ne, ne_eq, Decidable.not_not] at hc116)
       ·
        obtain ⟨s, hs⟩ : ∃ s, m.is[y.1]? = some s := ⟨_, List.getElem?_eq_getElem (show y.1 < m.is.length by first | omega | (simp only [List.length_map] at *; omega))⟩
        have hls : (m.is.map It.c)[y.1]? = some s.c := by simp [hs]
        refine W.skip ?_
        refine N.next ?_
        refine W.seq ?_
        refine W.block ?_
        refine W.draw (.q 0 (.q 1 (.q 2 (.q 3 (.q 4 (.q 5 (.q 6 (.q 7 (.q 8 (.q 9 (.q 10 (.q 11 (.q 12 (.q 13 (.q 14 (.q 15 (.q 16 (.q 17 .done)))))))))))))))))) (.of [0, 1, 101] rfl) mix (by kernel_rfl) (by kernel_rfl) ?_
        refine DL.q rfl (Yld.move rfl) rfl ?_
        refine DL.q rfl (Yld.fieldAddr fo29_5 rfl) rfl ?_
        refine DL.q rfl (Yld.ld 101 Tryz.underlying26 rfl rfl rfl rfl) rfl ?_
        refine DL.q rfl (Yld.move rfl) rfl ?_
        refine DL.q rfl (Yld.ixr Tryz.underlying26 sz64 rfl rfl) rfl ?_
        refine DL.q rfl (Yld.fieldAddr fo64_0 rfl) rfl ?_
        refine DL.q rfl (by first | exact (by first | exact Yld.loadRow1 (cl := 1) Tryz.underlying9 rfl rfl rfl (by first | assumption | exact Own.sl (by assumption)) (by assumption) | exact Yld.loadRow1 (cl := 101) Tryz.underlying9 rfl rfl rfl (by first | assumption | exact Own.sl (by assumption)) (by assumption)) | exact (by first | exact Yld.lrF 1 0 Tryz.underlying9 rfl rfl rfl rfl | exact Yld.lrF 101 0 Tryz.underlying9 rfl rfl rfl rfl)) rfl ?_
        refine DL.q rfl (Yld.lenS Tryz.underlying9 rfl) rfl ?_
        refine DL.q rfl (Yld.fieldAddr fo29_5 rfl) rfl ?_
        refine DL.q rfl (Yld.ld 101 Tryz.underlying26 rfl rfl rfl rfl) rfl ?_
        refine DL.q rfl (Yld.move rfl) rfl ?_
        refine DL.q rfl (Yld.ixr Tryz.underlying26 sz64 rfl rfl) rfl ?_
        refine DL.q rfl (Yld.fieldAddr fo64_6 rfl) rfl ?_
        refine DL.q rfl (by first | exact Yld.lrF 1 6 Tryz.underlying55 rfl rfl rfl rfl | exact Yld.lrF 101 6 Tryz.underlying55 rfl rfl rfl rfl) rfl ?_
        refine DL.q rfl (Yld.lenSl Tryz.underlying55 rfl) rfl ?_
        refine DL.q rfl (Yld.bin rfl rfl BinV.mulW) rfl ?_
        refine DL.q rfl (Yld.max3 rfl rfl rfl) rfl ?_
        refine DL.q rfl (Yld.assign rfl) rfl ?_
        refine DL.done ?_
        refine N.block_normal ?_
        refine N.next ?_
        refine W.keep (.of [1, 3, 8] rfl) (.of [0, 1, 101] rfl) ?_
        refine W.region ?_
        refine RL.q (Yld.move rfl) rfl ?_
        refine RL.q (Yld.bin rfl rfl (by first | exact BinV.add (by omega) (by omega) | exact BinV.addW)) rfl ?_
        refine RL.q (Yld.assign rfl) rfl ?_
        refine RL.nil ?_
        exact N.famK (y.1 + 1, max (max y.2 (s.nm.size : Nat)) (IntKind.wrap .i64 (4 * (s.on.length : Nat)))) ⟨by dsimp only; omega, by dsimp only; omega⟩ (.as rfl (by first | rfl | (simp; done) | (congr 1; simp; done) | (congr 1; omega)) (.as rfl (by first | rfl | (simp; done) | (congr 1; simp; done) | (congr 1; omega)) .nil)) (.to rfl) .nil (.to rfl)
       ·
        refine W.exit ?_
        refine N.then_exit ?_
        refine N.then_exit ?_
        refine N.block_eq ?_
        refine N.next ?_
        refine W.seq ?_
        refine W.seq ?_
        refine W.region ?_
        refine RL.q (Yld.assign rfl) rfl ?_
        refine RL.nil ?_
        refine N.next ?_
        refine W.block ?_
        refine W.loopK (ι := Nat × Int) (fun y => (y.1 ≤ m.rl.length)) (fun y => [(3, .int .i64 y.2), (9, .int .i64 (y.1 : Nat))]) (fun y => []) (fun y => m.rl.length - y.1) (.of [1] rfl) (.of [0, 1, 101] rfl) (0, y.2) ?_ ?_ ?_ ?_
        · exact Nat.zero_le _
        · exact (.as rfl (by first | rfl | (simp; done) | (congr 1; simp; done) | (congr 1; omega)) (.as rfl (by first | rfl | (simp; done) | (congr 1; simp; done) | (congr 1; omega)) .nil))
        · exact .nil
        rintro y hy
        refine W.keep (.of [3, 9, 1] rfl) (.of [0, 1, 101] rfl) ?_
        refine W.seq ?_
        refine W.seq ?_
        refine W.region ?_
        refine RL.q (Yld.move rfl) rfl ?_
        refine RL.q (Yld.fieldAddr fo29_10 rfl) rfl ?_
        refine RL.q (Yld.ld 101 Tryz.underlying27 rfl rfl rfl rfl) rfl ?_
        refine RL.q (Yld.lenSl Tryz.underlying27 rfl) rfl ?_
        refine RL.q (Yld.bin rfl rfl BinV.lss) rfl ?_
        refine RL.nil ?_
        refine N.next ?_
        refine W.keep (.of [1, 3, 9, 140] rfl) (.of [0, 1, 101] rfl) ?_
        first | refine W.condD rfl (fun hc140 => ?_) (fun hc140 => ?_) | (refine W.cond rfl (fun hc140 => ?_) (fun hc140 => ?_) <;> try simp only [Bool.or_eq_true, Bool.and_eq_true, Bool.not_eq_true', Bool.not_eq_false', decide_eq_true_eq, Bool.or_eq_false_iff, Bool.and_eq_false_iff, decide_eq_false_iff_not, beq_iff_eq, beq_eq_false_iff_ne, ne_eq, Decidable.not_not] at hc140)
        ·
         obtain ⟨s, hs⟩ : ∃ s, m.rl[y.1]? = some s := ⟨_, List.getElem?_eq_getElem (show y.1 < m.rl.length by first | omega | (simp only [List.length_map] at *; omega))⟩
         have hls : (m.rl.map Rl.c)[y.1]? = some s.c := by simp [hs]
         refine W.skip ?_
         refine N.next ?_
         refine W.seq ?_
         refine W.block ?_
         refine W.region ?_
         refine RL.q (Yld.move rfl) rfl ?_
         refine RL.q (Yld.fieldAddr fo29_10 rfl) rfl ?_
         refine RL.q (Yld.ld 101 Tryz.underlying27 rfl rfl rfl rfl) rfl ?_
         refine RL.q (Yld.move rfl) rfl ?_
         refine RL.q (Yld.ixr Tryz.underlying27 sz97 rfl rfl) rfl ?_
         refine RL.q (Yld.fieldAddr fo97_6 rfl) rfl ?_
         refine RL.q (by first | exact Yld.lrF 1 6 Tryz.underlying55 rfl rfl rfl rfl | exact Yld.lrF 101 6 Tryz.underlying55 rfl rfl rfl rfl) rfl ?_
         refine RL.q (Yld.lenSl Tryz.underlying55 rfl) rfl ?_
         refine RL.q (Yld.bin rfl rfl BinV.mulW) rfl ?_
         refine RL.q (Yld.max2 rfl rfl) rfl ?_
         refine RL.q (Yld.assign rfl) rfl ?_
         refine RL.nil ?_
         refine N.block_normal ?_
         refine N.next ?_
         refine W.keep (.of [1, 3, 9] rfl) (.of [0, 1, 101] rfl) ?_
         refine W.region ?_
         refine RL.q (Yld.move rfl) rfl ?_
         refine RL.q (Yld.bin rfl rfl (by first | exact BinV.add (by omega) (by omega) | exact BinV.addW)) rfl ?_
         refine RL.q (Yld.assign rfl) rfl ?_
         refine RL.nil ?_
         exact N.famK (y.1 + 1, max y.2 (IntKind.wrap .i64 (4 * (s.ms.length : Nat)))) ⟨by dsimp only; omega, by dsimp only; omega⟩ (.as rfl (by first | rfl | (simp; done) | (congr 1; simp; done) | (congr 1; omega)) (.as rfl (by first | rfl | (simp; done) | (congr 1; simp; done) | (congr 1; omega)) .nil)) (.to rfl) .nil (.to rfl)
        ·
         refine W.exit ?_
         refine N.then_exit ?_
         refine N.then_exit ?_
         refine N.block_eq ?_
         refine N.next ?_
         refine W.seq ?_
         refine W.region ?_
         refine RL.q (Yld.move rfl) rfl ?_
         refine RL.q (Yld.bin rfl rfl BinV.leq) rfl ?_
         refine RL.q (Yld.assign rfl) rfl ?_
         refine RL.nil ?_
         refine N.next ?_
         refine W.keep (.of [2] rfl) (.of [0, 1, 101] rfl) ?_
         refine W.ret ?_
         exact N.retBy [1] (.cons (.tmp rfl) .nil) rfl rfl rfl rfl ⟨_, rfl, rfl⟩

set_option maxRecDepth 100000 in
set_option maxHeartbeats 6400000 in
theorem fenceNewN_ct (m : Md) (H1 : PH) (hM : m.In H1) (hT : TabS H1) (mach : Int) (c : Cl) (hn : ¬ (MdV m ∧ 1 ≤ mach ∧ mach ≤ m.mc.length)) : Ct Tryz.prog 5 [.agg [.slice m.psi m.si.length m.csi, .slice m.pfe m.fe.length m.cfe, .slice m.prk m.rk.length m.crk, .slice m.pmc m.mc.length m.cmc, .slice m.pln m.ln.length m.cln, .slice m.pis m.is.length m.cis, .int .i64 m.da, .int .i64 m.sl, .int .i64 m.re, .int .i64 m.fa, .slice m.prl m.rl.length m.crl].toArray, .int .i64 mach, .agg [.int .i64 c.it, .int .i64 c.cl, .int .i64 c.nu, .int .i64 c.va].toArray] [H1] (fun v Hs => v = .bool true ∧ Hs = [H1]) := by
  refine Ct.body Tryz.func5 rfl Tryz.ntmps5 rfl ?_
  intro E F
  refine W.seq ?_
  refine W.region ?_
  refine RL.e (Eff.box 103 _ rfl rfl) rfl ?_
  rintro _ _ ⟨b3, rfl, rfl⟩
  refine RL.e (Eff.box 105 _ rfl rfl) rfl ?_
  rintro _ _ ⟨b5, rfl, rfl⟩
  refine RL.q (Yld.assign rfl) rfl ?_
  refine RL.nil ?_
  refine N.next ?_
  refine W.seq ?_
  refine W.seq ?_
  refine W.region ?_
  refine RL.q (Yld.ldW 103 Tryz.underlying29 sz29 rfl rfl rfl rfl) rfl ?_
  refine RL.e (Eff.call ent18 [1] [1] (.cons rfl .nil) (few14_ct m H1 hM) rfl rfl rfl rfl (by rintro _ _ ⟨_, _, _, rfl⟩; rfl)) rfl ?_
  rintro _ _ ⟨_, ⟨fb, rfl, rfl⟩, rfl⟩
  refine RL.q Yld.nt rfl ?_
  refine RL.nil ?_
  refine N.next ?_
  refine W.keep (.of [1, 3, 5, 10] rfl) (.of [0, 1, 103, 105] rfl) ?_
  first | refine W.condD rfl (fun hc10 => ?_) (fun hc10 => ?_) | (refine W.cond rfl (fun hc10 => ?_) (fun hc10 => ?_) <;> try simp only [Bool.or_eq_true, Bool.and_eq_true, Bool.not_eq_true', Bool.not_eq_false', decide_eq_true_eq, Bool.or_eq_false_iff, Bool.and_eq_false_iff, decide_eq_false_iff_not, beq_iff_eq, beq_eq_false_iff_ne, ne_eq, Decidable.not_not] at hc10)
  ·
   refine W.seq ?_
   refine W.region ?_
   refine RL.e (Eff.call ent12 [1] [1] .nil (awake_ct H1 hT) rfl rfl rfl rfl (by rintro _ _ ⟨_, rfl⟩; rfl)) rfl ?_
   rintro _ _ ⟨_, ⟨rfl, rfl⟩, rfl⟩
   refine RL.q (Yld.assign rfl) rfl ?_
   refine RL.nil ?_
   refine N.next ?_
   refine W.keep (.of [6] rfl) (.of [0, 1, 103, 105] rfl) ?_
   refine W.ret ?_
   refine N.then_ret ?_
   exact N.retBy [1] (.cons (.tmp rfl) .nil) rfl rfl rfl rfl ⟨rfl, rfl⟩
  ·
   refine W.skip ?_
   refine N.next ?_
   refine W.seq ?_
   refine W.region ?_
   refine RL.q (Yld.ldW 103 Tryz.underlying29 sz29 rfl rfl rfl rfl) rfl ?_
   refine RL.q (Yld.move rfl) rfl ?_
   refine RL.e (Eff.call ent13 [1] [1] (.cons rfl (.cons rfl .nil)) (newNo_ct m H1 hM hT mach hn) rfl rfl rfl rfl (by rintro _ _ ⟨_, rfl⟩; rfl)) rfl ?_
   rintro _ _ ⟨_, ⟨rfl, rfl⟩, rfl⟩
   refine RL.q (Yld.assign rfl) rfl ?_
   refine RL.nil ?_
   refine N.next ?_
   refine W.keep (.of [1, 3, 5, 7] rfl) (.of [0, 1, 103, 105] rfl) ?_
   refine W.seq ?_
   refine W.seq ?_
   refine W.draw (.q 0 (.q 1 (.q 2 (.one 3 (.q 4 (.q 5 (.q 6 (.q 7 (.q 8 (.q 9 (.q 10 (.q 11 (.q 12 (.q 13 (.q 14 (.q 15 (.q 16 (.q 17 (.q 19 (.q 20 (.q 21 (.q 22 (.q 23 (.q 24 (.one 18 (.q 25 (.q 26 .done))))))))))))))))))))))))))) (.of [0, 103, 105] rfl) mix (by kernel_rfl) (by kernel_rfl) ?_
   refine DL.q rfl (Yld.move rfl) rfl ?_
   refine DL.q rfl (Yld.bin rfl rfl (BinV.neqPN Tryz.underlying33)) rfl ?_
   refine DL.q rfl (Yld.ldW 103 Tryz.underlying29 sz29 rfl rfl rfl rfl) rfl ?_
   refine DL.one rfl (Eff.call ent19 [1] [1] (.cons rfl .nil) (rvalid_ct m H1 hM) rfl rfl rfl rfl (by rintro _ _ ⟨_, rfl⟩; rfl)) rfl (by rintro _ _ ⟨_, ⟨rfl, rfl⟩, rfl⟩; repeat (first | exact .nil | refine .cons rfl ?_)) ?_
   rintro _ _ ⟨_, ⟨rfl, rfl⟩, rfl⟩
   refine DL.q rfl (Yld.move rfl) rfl ?_
   refine' DL.and (t := 19) (d := 22) 3 rfl (.of [1, 3, 5, 7, 15, 16, 17, 18] rfl) (.of [0, 1, 103, 105] rfl) ?_ ?_ ?_
   rotate_left 1
   ·
    intro hg19
    refine DL.gq rfl rfl rfl (Yld.move rfl) rfl ?_
    refine DL.gq rfl rfl rfl (Yld.bin rfl rfl BinV.geq) rfl ?_
    refine DL.q rfl Yld.pk rfl ?_
    exact DL.meet (.to rfl) (.to rfl)
   ·
    intro hg19
    refine DL.gskip rfl rfl rfl rfl rfl ?_
    refine DL.gskip rfl rfl rfl rfl rfl ?_
    refine DL.q rfl Yld.pk rfl ?_
    exact DL.meet (.to rfl) (.to rfl)
   refine DL.q rfl (Yld.move rfl) rfl ?_
   refine' DL.and (t := 23) (d := 29) 6 rfl (.of [1, 3, 5, 7, 15, 16, 17, 18, 22] rfl) (.of [0, 1, 103, 105] rfl) ?_ ?_ ?_
   rotate_left 1
   ·
    intro hg23
    refine DL.gq rfl rfl rfl (Yld.move rfl) rfl ?_
    refine DL.gq rfl rfl rfl (Yld.fieldAddr fo29_3 rfl) rfl ?_
    refine DL.gq rfl rfl rfl (Yld.ld 103 Tryz.underlying24 rfl rfl rfl rfl) rfl ?_
    refine DL.gq rfl rfl rfl (Yld.lenSl Tryz.underlying24 rfl) rfl ?_
    refine DL.gq rfl rfl rfl (Yld.bin rfl rfl BinV.leq) rfl ?_
    refine DL.q rfl Yld.pk rfl ?_
    exact DL.meet (.to rfl) (.to rfl)
   ·
    intro hg23
    refine DL.gskip rfl rfl rfl rfl rfl ?_
    refine DL.gskip rfl rfl rfl rfl rfl ?_
    refine DL.gskip rfl rfl rfl rfl rfl ?_
    refine DL.gskip rfl rfl rfl rfl rfl ?_
    refine DL.gskip rfl rfl rfl rfl rfl ?_
    refine DL.q rfl Yld.pk rfl ?_
    exact DL.meet (.to rfl) (.to rfl)
   refine DL.q rfl (Yld.bin rfl rfl (BinV.neqB Tryz.underlying4)) rfl ?_
   refine DL.q rfl (Yld.move rfl) rfl ?_
   refine' DL.or (t := 31) (d := 41) 10 rfl (.of [1, 3, 5, 7, 15, 16, 17, 18, 22, 29, 30] rfl) (.of [0, 1, 103, 105] rfl) ?_ ?_ ?_
   rotate_left 1
   ·
    intro hg31
    refine DL.gq rfl rfl rfl (Yld.ldW 105 Tryz.underlying38 sz38 rfl rfl rfl rfl) rfl ?_
    refine DL.gq rfl rfl rfl (Yld.fieldAddr fo38_3 rfl) rfl ?_
    refine DL.gq rfl rfl rfl (Yld.ld 105 Tryz.underlying2 rfl rfl rfl rfl) rfl ?_
    refine DL.gq rfl rfl rfl (Yld.bin rfl rfl BinV.mulW) rfl ?_
    refine DL.gq rfl rfl rfl (Yld.fieldAddr fo38_0 rfl) rfl ?_
    refine DL.gq rfl rfl rfl (Yld.ld 105 Tryz.underlying3 rfl rfl rfl rfl) rfl ?_
    refine DL.gq rfl rfl rfl (Yld.bin rfl rfl BinV.addW) rfl ?_
    refine DL.gone rfl rfl rfl (Eff.call ent20 [] [] (.cons rfl .nil) (serve_ct c) rfl rfl rfl rfl (by rintro _ _ ⟨_, rfl⟩; rfl)) rfl (by rintro _ _ ⟨_, ⟨rfl, rfl⟩, rfl⟩; repeat (first | exact .nil | refine .cons rfl ?_)) ?_
    rintro _ _ ⟨_, ⟨rfl, rfl⟩, rfl⟩
    refine DL.gq rfl rfl rfl (Yld.bin rfl rfl BinV.neq) rfl ?_
    refine DL.q rfl Yld.pk rfl ?_
    exact DL.meet (.to rfl) (.to rfl)
   ·
    intro hg31
    refine DL.gskip rfl rfl rfl rfl rfl ?_
    refine DL.gskip rfl rfl rfl rfl rfl ?_
    refine DL.gskip rfl rfl rfl rfl rfl ?_
    refine DL.gskip rfl rfl rfl rfl rfl ?_
    refine DL.gskip rfl rfl rfl rfl rfl ?_
    refine DL.gskip rfl rfl rfl rfl rfl ?_
    refine DL.gskip rfl rfl rfl rfl rfl ?_
    refine DL.gskip1 rfl rfl rfl rfl rfl ?_
    refine DL.gskip rfl rfl rfl rfl rfl ?_
    refine DL.q rfl Yld.pk rfl ?_
    exact DL.meet (.to rfl) (.to rfl)
   refine DL.done ?_
   refine N.next ?_
   refine W.keep (.of [1, 3, 7, 41] rfl) (.of [0, 1, 103, 105] rfl) ?_
   refine W.cond rfl (fun hc41 => ?_) (fun hc41 => ?_)
   ·
    exfalso
    have hb : (pB (MdV m) && decide (1 ≤ mach) && decide (mach ≤ (m.mc.length : Int))) = false := by
      rw [Bool.eq_false_iff]
      intro h
      simp only [Bool.and_eq_true, pB_iff, decide_eq_true_eq] at h
      exact hn ⟨h.1.1, h.1.2, h.2⟩
    rw [hb] at hc41
    simp [w64] at hc41 --stop
   ·
    refine W.skip ?_
    refine N.next ?_
    refine W.seq ?_
    refine W.draw (.q 0 (.q 1 (.q 2 (.q 3 (.q 5 (.q 6 (.one 4 (.one 7 (.one 8 (.one 9 (.q 10 (.q 11 (.one 12 (.q 13 (.q 14 .done))))))))))))))) (.of [0, 103, 105] rfl) mix (by kernel_rfl) (by kernel_rfl) ?_
    refine DL.q rfl (Yld.move rfl) rfl ?_
    refine DL.q rfl (Yld.bin rfl rfl (BinV.eqlPN Tryz.underlying33)) rfl ?_
    refine DL.q rfl (Yld.move rfl) rfl ?_
    first | refine DL.as (t := 44) rfl (boolT (by first | assumption | omega | (simp; done))) ?_ | refine DL.as (t := 44) (v := .bool true) rfl rfl ?_
    refine DL.gskip rfl rfl rfl rfl rfl ?_
    refine DL.gskip rfl rfl rfl rfl rfl ?_
    refine DL.gskip rfl rfl rfl rfl rfl ?_
    refine DL.gskip1 rfl rfl rfl rfl rfl ?_
    refine DL.gskip1 rfl rfl rfl rfl rfl ?_
    refine DL.gskip1 rfl rfl rfl rfl rfl ?_
    refine DL.gskip1 rfl rfl rfl rfl rfl ?_
    refine DL.q rfl Yld.pk rfl ?_
    refine DL.q rfl (Yld.move rfl) rfl ?_
    first | refine DL.as (t := 53) rfl (boolT (by first | assumption | omega | (simp; done))) ?_ | refine DL.as (t := 53) (v := .bool true) rfl rfl ?_
    refine DL.gone rfl rfl rfl (Eff.call ent12 [1] [1] .nil (awake_ct H1 hT) rfl rfl rfl rfl (by rintro _ _ ⟨_, rfl⟩; rfl)) rfl (by rintro _ _ ⟨_, ⟨rfl, rfl⟩, rfl⟩; repeat (first | exact .nil | refine .cons rfl ?_)) ?_
    rintro _ _ ⟨_, ⟨rfl, rfl⟩, rfl⟩
    refine DL.q rfl Yld.pk rfl ?_
    refine DL.q rfl (Yld.assign rfl) rfl ?_
    refine DL.done ?_
    refine N.next ?_
    refine W.keep (.of [6] rfl) (.of [0, 1, 103, 105] rfl) ?_
    refine W.ret ?_
    exact N.retBy [1] (.cons (.tmp rfl) .nil) rfl rfl rfl rfl ⟨rfl, rfl⟩

set_option maxRecDepth 100000 in
set_option maxHeartbeats 6400000 in
theorem fenceNewY_ct (m : Md) (H1 : PH) (hM : m.In H1) (hT : TabS H1) (mach : Int) (c : Cl) (hv : MdV m) (hm1 : 1 ≤ mach) (hm2 : mach ≤ m.mc.length) : Ct Tryz.prog 5 [.agg [.slice m.psi m.si.length m.csi, .slice m.pfe m.fe.length m.cfe, .slice m.prk m.rk.length m.crk, .slice m.pmc m.mc.length m.cmc, .slice m.pln m.ln.length m.cln, .slice m.pis m.is.length m.cis, .int .i64 m.da, .int .i64 m.sl, .int .i64 m.re, .int .i64 m.fa, .slice m.prl m.rl.length m.crl].toArray, .int .i64 mach, .agg [.int .i64 c.it, .int .i64 c.cl, .int .i64 c.nu, .int .i64 c.va].toArray] [H1] (fun v Hs => v = .bool true ∧ Hs = [H1]) := by
  refine Ct.body Tryz.func5 rfl Tryz.ntmps5 rfl ?_
  intro E F
  refine W.seq ?_
  refine W.region ?_
  refine RL.e (Eff.box 103 _ rfl rfl) rfl ?_
  rintro _ _ ⟨b3, rfl, rfl⟩
  refine RL.e (Eff.box 105 _ rfl rfl) rfl ?_
  rintro _ _ ⟨b5, rfl, rfl⟩
  refine RL.q (Yld.assign rfl) rfl ?_
  refine RL.nil ?_
  refine N.next ?_
  refine W.seq ?_
  refine W.seq ?_
  refine W.region ?_
  refine RL.q (Yld.ldW 103 Tryz.underlying29 sz29 rfl rfl rfl rfl) rfl ?_
  refine RL.e (Eff.call ent18 [1] [1] (.cons rfl .nil) (few14_ct m H1 hM) rfl rfl rfl rfl (by rintro _ _ ⟨_, _, _, rfl⟩; rfl)) rfl ?_
  rintro _ _ ⟨_, ⟨fb, rfl, rfl⟩, rfl⟩
  refine RL.q Yld.nt rfl ?_
  refine RL.nil ?_
  refine N.next ?_
  refine W.keep (.of [1, 3, 5, 10] rfl) (.of [0, 1, 103, 105] rfl) ?_
  first | refine W.condD rfl (fun hc10 => ?_) (fun hc10 => ?_) | (refine W.cond rfl (fun hc10 => ?_) (fun hc10 => ?_) <;> try simp only [Bool.or_eq_true, Bool.and_eq_true, Bool.not_eq_true', Bool.not_eq_false', decide_eq_true_eq, Bool.or_eq_false_iff, Bool.and_eq_false_iff, decide_eq_false_iff_not, beq_iff_eq, beq_eq_false_iff_ne, ne_eq, Decidable.not_not] at hc10)
  ·
   refine W.seq ?_
   refine W.region ?_
   refine RL.e (Eff.call ent12 [1] [1] .nil (awake_ct H1 hT) rfl rfl rfl rfl (by rintro _ _ ⟨_, rfl⟩; rfl)) rfl ?_
   rintro _ _ ⟨_, ⟨rfl, rfl⟩, rfl⟩
   refine RL.q (Yld.assign rfl) rfl ?_
   refine RL.nil ?_
   refine N.next ?_
   refine W.keep (.of [6] rfl) (.of [0, 1, 103, 105] rfl) ?_
   refine W.ret ?_
   refine N.then_ret ?_
   exact N.retBy [1] (.cons (.tmp rfl) .nil) rfl rfl rfl rfl ⟨rfl, rfl⟩
  ·
   refine W.skip ?_
   refine N.next ?_
   refine W.seq ?_
   refine W.region ?_
   refine RL.q (Yld.ldW 103 Tryz.underlying29 sz29 rfl rfl rfl rfl) rfl ?_
   refine RL.q (Yld.move rfl) rfl ?_
   refine RL.e (Eff.call ent13 [1] [1, 150, 151, 152, 153] (.cons rfl (.cons rfl .nil)) (new_ct m H1 hM hT mach hv hm1 hm2) rfl rfl rfl rfl (by rintro _ _ ⟨_, _, _, _, rfl⟩; rfl)) rfl ?_
   rintro _ _ ⟨_, ⟨bt, x0, rfl, hx0, rfl⟩, rfl⟩
   have hn0 : (newT m mach).us.length ≤ 8 := Nat.le_trans (newN_le _) hv.n5
   refine RL.q (Yld.assign rfl) rfl ?_
   refine RL.nil ?_
   refine N.next ?_
   refine W.keep (.of [1, 3, 5, 7] rfl) (.of [0, 1, 103, 105, 150, 151, 152, 153] rfl) ?_
   refine W.seq ?_
   refine W.seq ?_
   refine W.draw (.q 0 (.q 1 (.q 2 (.one 3 (.q 4 (.q 5 (.q 6 (.q 7 (.q 8 (.q 9 (.q 10 (.q 11 (.q 12 (.q 13 (.q 14 (.q 15 (.q 16 (.q 17 (.q 19 (.q 20 (.q 21 (.q 22 (.q 23 (.q 24 (.one 18 (.q 25 (.q 26 .done))))))))))))))))))))))))))) (.of [0, 103, 105, 150, 151, 152, 153] rfl) mix (by kernel_rfl) (by kernel_rfl) ?_
   refine DL.q rfl (Yld.move rfl) rfl ?_
   refine DL.q rfl (Yld.bin rfl rfl (BinV.neqPN Tryz.underlying33)) rfl ?_
   refine DL.q rfl (Yld.ldW 103 Tryz.underlying29 sz29 rfl rfl rfl rfl) rfl ?_
   refine DL.one rfl (Eff.call ent19 [1] [1] (.cons rfl .nil) (rvalid_ct m H1 hM) rfl rfl rfl rfl (by rintro _ _ ⟨_, rfl⟩; rfl)) rfl (by rintro _ _ ⟨_, ⟨rfl, rfl⟩, rfl⟩; repeat (first | exact .nil | refine .cons rfl ?_)) ?_
   rintro _ _ ⟨_, ⟨rfl, rfl⟩, rfl⟩
   refine DL.q rfl (Yld.move rfl) rfl ?_
   refine' DL.and (t := 19) (d := 22) 3 rfl (.of [1, 3, 5, 7, 15, 16, 17, 18] rfl) (.of [0, 1, 103, 105, 150, 151, 152, 153] rfl) ?_ ?_ ?_
   rotate_left 1
   ·
    intro hg19
    refine DL.gq rfl rfl rfl (Yld.move rfl) rfl ?_
    refine DL.gq rfl rfl rfl (Yld.bin rfl rfl BinV.geq) rfl ?_
    refine DL.q rfl Yld.pk rfl ?_
    exact DL.meet (.to rfl) (.to rfl)
   ·
    intro hg19
    refine DL.gskip rfl rfl rfl rfl rfl ?_
    refine DL.gskip rfl rfl rfl rfl rfl ?_
    refine DL.q rfl Yld.pk rfl ?_
    exact DL.meet (.to rfl) (.to rfl)
   refine DL.q rfl (Yld.move rfl) rfl ?_
   refine' DL.and (t := 23) (d := 29) 6 rfl (.of [1, 3, 5, 7, 15, 16, 17, 18, 22] rfl) (.of [0, 1, 103, 105, 150, 151, 152, 153] rfl) ?_ ?_ ?_
   rotate_left 1
   ·
    intro hg23
    refine DL.gq rfl rfl rfl (Yld.move rfl) rfl ?_
    refine DL.gq rfl rfl rfl (Yld.fieldAddr fo29_3 rfl) rfl ?_
    refine DL.gq rfl rfl rfl (Yld.ld 103 Tryz.underlying24 rfl rfl rfl rfl) rfl ?_
    refine DL.gq rfl rfl rfl (Yld.lenSl Tryz.underlying24 rfl) rfl ?_
    refine DL.gq rfl rfl rfl (Yld.bin rfl rfl BinV.leq) rfl ?_
    refine DL.q rfl Yld.pk rfl ?_
    exact DL.meet (.to rfl) (.to rfl)
   ·
    intro hg23
    refine DL.gskip rfl rfl rfl rfl rfl ?_
    refine DL.gskip rfl rfl rfl rfl rfl ?_
    refine DL.gskip rfl rfl rfl rfl rfl ?_
    refine DL.gskip rfl rfl rfl rfl rfl ?_
    refine DL.gskip rfl rfl rfl rfl rfl ?_
    refine DL.q rfl Yld.pk rfl ?_
    exact DL.meet (.to rfl) (.to rfl)
   refine DL.q rfl (Yld.bin rfl rfl (BinV.neqB Tryz.underlying4)) rfl ?_
   refine DL.q rfl (Yld.move rfl) rfl ?_
   refine' DL.or (t := 31) (d := 41) 10 rfl (.of [1, 3, 5, 7, 15, 16, 17, 18, 22, 29, 30] rfl) (.of [0, 1, 103, 105, 150, 151, 152, 153] rfl) ?_ ?_ ?_
   rotate_left 1
   ·
    intro hg31
    refine DL.gq rfl rfl rfl (Yld.ldW 105 Tryz.underlying38 sz38 rfl rfl rfl rfl) rfl ?_
    refine DL.gq rfl rfl rfl (Yld.fieldAddr fo38_3 rfl) rfl ?_
    refine DL.gq rfl rfl rfl (Yld.ld 105 Tryz.underlying2 rfl rfl rfl rfl) rfl ?_
    refine DL.gq rfl rfl rfl (Yld.bin rfl rfl BinV.mulW) rfl ?_
    refine DL.gq rfl rfl rfl (Yld.fieldAddr fo38_0 rfl) rfl ?_
    refine DL.gq rfl rfl rfl (Yld.ld 105 Tryz.underlying3 rfl rfl rfl rfl) rfl ?_
    refine DL.gq rfl rfl rfl (Yld.bin rfl rfl BinV.addW) rfl ?_
    refine DL.gone rfl rfl rfl (Eff.call ent20 [] [] (.cons rfl .nil) (serve_ct c) rfl rfl rfl rfl (by rintro _ _ ⟨_, rfl⟩; rfl)) rfl (by rintro _ _ ⟨_, ⟨rfl, rfl⟩, rfl⟩; repeat (first | exact .nil | refine .cons rfl ?_)) ?_
    rintro _ _ ⟨_, ⟨rfl, rfl⟩, rfl⟩
    refine DL.gq rfl rfl rfl (Yld.bin rfl rfl BinV.neq) rfl ?_
    refine DL.q rfl Yld.pk rfl ?_
    exact DL.meet (.to rfl) (.to rfl)
   ·
    intro hg31
    refine DL.gskip rfl rfl rfl rfl rfl ?_
    refine DL.gskip rfl rfl rfl rfl rfl ?_
    refine DL.gskip rfl rfl rfl rfl rfl ?_
    refine DL.gskip rfl rfl rfl rfl rfl ?_
    refine DL.gskip rfl rfl rfl rfl rfl ?_
    refine DL.gskip rfl rfl rfl rfl rfl ?_
    refine DL.gskip rfl rfl rfl rfl rfl ?_
    refine DL.gskip1 rfl rfl rfl rfl rfl ?_
    refine DL.gskip rfl rfl rfl rfl rfl ?_
    refine DL.q rfl Yld.pk rfl ?_
    exact DL.meet (.to rfl) (.to rfl)
   refine DL.done ?_
   refine N.next ?_
   refine W.keep (.of [1, 3, 7, 41] rfl) (.of [0, 1, 103, 105, 150, 151, 152, 153] rfl) ?_
   refine W.cond rfl (fun hc41 => ?_) (fun hc41 => ?_)
   ·
    exfalso
    have hb : (pB (MdV m) && decide (1 ≤ mach) && decide (mach ≤ (m.mc.length : Int))) = true := by
      simp only [Bool.and_eq_true, pB_iff, decide_eq_true_eq]
      exact ⟨⟨hv, hm1⟩, hm2⟩
    rw [hb] at hc41
    simp [w64] at hc41 --stop
   ·
    refine W.skip ?_
    refine N.next ?_
    refine W.seq ?_
    refine W.draw (.q 0 (.q 1 (.q 2 (.q 3 (.q 5 (.q 6 (.one 4 (.one 7 (.one 8 (.one 9 (.q 10 (.q 11 (.one 12 (.q 13 (.q 14 .done))))))))))))))) (.of [0, 103, 105] rfl) mix (by kernel_rfl) (by kernel_rfl) ?_
    refine DL.q rfl (Yld.move rfl) rfl ?_
    refine DL.q rfl (Yld.bin rfl rfl (BinV.eqlPN Tryz.underlying33)) rfl ?_
    refine DL.q rfl (Yld.move rfl) rfl ?_
    first | refine DL.as (t := 44) rfl (boolF (by first | assumption | omega | (simp; done))) ?_ | refine DL.as (t := 44) (v := .bool false) rfl rfl ?_
    refine DL.gq rfl rfl rfl (Yld.move rfl) rfl ?_
    refine DL.gq rfl rfl rfl (Yld.ldW 103 Tryz.underlying29 sz29 rfl rfl rfl rfl) rfl ?_
    refine DL.gq rfl rfl rfl (Yld.move rfl) rfl ?_
    refine DL.gone rfl rfl rfl (Eff.call ent14 [1, 150, 151, 152, 153] [1, 150, 151, 152, 153, 160] (.cons rfl .nil) (units_ct m H1 hM mach bt (newT m mach) x0 hx0 (by omega)) rfl rfl rfl rfl (by rintro _ _ ⟨_, _, _, _, _, rfl⟩; rfl)) rfl (by rintro _ _ ⟨_, ⟨Hu, pu, cu, rfl, hOu, rfl⟩, rfl⟩; repeat (first | exact .nil | refine .cons rfl ?_)) ?_
    rintro _ _ ⟨_, ⟨Hu, pu, cu, rfl, hOu, rfl⟩, rfl⟩
    refine DL.gone rfl rfl rfl (Eff.call ent22 [1] [1, 161, 162, 163, 164] (.cons rfl (.cons rfl .nil)) (rnew_ct m H1 hM mach hv) rfl rfl rfl rfl (by rintro _ _ ⟨_, _, _, _, rfl⟩; rfl)) rfl (by rintro _ _ ⟨_, ⟨y0, rfl, hy0, hys, rfl⟩, rfl⟩; repeat (first | exact .nil | refine .cons rfl ?_)) ?_
    rintro _ _ ⟨_, ⟨y0, rfl, hy0, hys, rfl⟩, rfl⟩
    have hyl : y0.us.length ≤ 900000 := by rw [hys.us]; omega
    refine DL.gone rfl rfl rfl (Eff.call ent21 [161, 164] [161, 164, 165] (.cons rfl .nil) (rlist_ct y0 mach hy0 hyl) rfl rfl rfl rfl (by rintro _ _ ⟨_, _, _, _, _, _, rfl⟩; rfl)) rfl (by rintro _ _ ⟨_, ⟨Hl, pl, cl, rfl, hOl, rfl⟩, rfl⟩; repeat (first | exact .nil | refine .cons rfl ?_)) ?_
    rintro _ _ ⟨_, ⟨Hl, pl, cl, rfl, hOl, rfl⟩, rfl⟩
    rw [hys.us, hys.cl] at hOl ⊢
    refine DL.gone rfl rfl rfl (Eff.call ent17 [160, 165] [160, 165] (.cons rfl (.cons rfl .nil)) (sameU_ct _ _ _ _ _ _ _ _ _ _ (listP_len _ _).symm (listP_len _ _).symm hOu.sl hOl.sl) rfl rfl rfl rfl (by rintro _ _ ⟨_, rfl⟩; rfl)) rfl (by rintro _ _ ⟨_, ⟨rfl, rfl⟩, rfl⟩; repeat (first | exact .nil | refine .cons rfl ?_)) ?_
    rintro _ _ ⟨_, ⟨rfl, rfl⟩, rfl⟩
    refine DL.q rfl Yld.pk rfl ?_
    refine DL.q rfl (Yld.move rfl) rfl ?_
    first | refine DL.as (t := 53) rfl (boolT (by first | assumption | omega | (simp; done))) ?_ | refine DL.as (t := 53) (v := .bool true) rfl rfl ?_
    refine DL.gone rfl rfl rfl (Eff.call ent12 [1] [1] .nil (awake_ct H1 hT) rfl rfl rfl rfl (by rintro _ _ ⟨_, rfl⟩; rfl)) rfl (by rintro _ _ ⟨_, ⟨rfl, rfl⟩, rfl⟩; repeat (first | exact .nil | refine .cons rfl ?_)) ?_
    rintro _ _ ⟨_, ⟨rfl, rfl⟩, rfl⟩
    refine DL.q rfl Yld.pk rfl ?_
    refine DL.q rfl (Yld.assign rfl) rfl ?_
    refine DL.done ?_
    refine N.next ?_
    refine W.keep (.of [6] rfl) (.of [0, 1, 103, 105, 150, 151, 152, 153, 160, 161, 162, 163, 164, 165] rfl) ?_
    refine W.ret ?_
    exact N.retBy [1] (.cons (.tmp rfl) .nil) rfl rfl rfl rfl ⟨rfl, rfl⟩

theorem fenceNew_ct (m : Md) (H1 : PH) (hM : m.In H1) (hT : TabS H1) (mach : Int) (c : Cl) : Ct Tryz.prog 5 [.agg [.slice m.psi m.si.length m.csi, .slice m.pfe m.fe.length m.cfe, .slice m.prk m.rk.length m.crk, .slice m.pmc m.mc.length m.cmc, .slice m.pln m.ln.length m.cln, .slice m.pis m.is.length m.cis, .int .i64 m.da, .int .i64 m.sl, .int .i64 m.re, .int .i64 m.fa, .slice m.prl m.rl.length m.crl].toArray, .int .i64 mach, .agg [.int .i64 c.it, .int .i64 c.cl, .int .i64 c.nu, .int .i64 c.va].toArray] [H1] (fun v Hs => v = .bool true ∧ Hs = [H1]) := by
  by_cases h : MdV m ∧ 1 ≤ mach ∧ mach ≤ m.mc.length
  · exact fenceNewY_ct m H1 hM hT mach c h.1 h.2.1 h.2.2
  · exact fenceNewN_ct m H1 hM hT mach c h

end Go.Proofs.YtboapdcmaeojgaaGreatDoor
/- FenceNew returns true whatever the arguments are, and they read behind the call as they read before: the tied card. Condition: the listed variables of strings and unicode hold what the program's text lays (the card ties them). -/
namespace Go.Proofs.YtboapdcmaeojgaaGreatDoor
open SL Cat Fen Go.ChangeShapes Go.WideShapes Go.ChangeAt Go.RowKit
set_option linter.unusedVariables false
set_option maxRecDepth 100000
theorem own : ownKnob Tryz.prog.godebug = none := by kernel_rfl
theorem laidOut : laidOutB Tryz.prog = true := by kernel_rfl
theorem cl_kds : kds Tryz.prog 6 38 = some [.int .i64, .int .i64, .int .i64, .int .i64] := by kernel_rfl
theorem cl_arg {H : Type} {enc : TypeId × Value → H} {W : World} {base : Nat} {v : Value} {d : DataW H} {p : List MemPlace} (hok : Value.okWide Tryz.prog W .any base 38 v) (h : DataW.Trod enc Tryz.prog W 0 (fun _ => true) true 38 v d p) : ∃ c : Cl, v = .agg [.int .i64 c.it, .int .i64 c.cl, .int .i64 c.nu, .int .i64 c.va].toArray := by
  obtain ⟨cs, rfl, hf⟩ := struct_arg (m := 6) Tryz.underlying38 cl_kds hok h
  obtain ⟨_, _, rfl, ⟨f0, rfl, w0⟩, g1⟩ := hf.uncons
  obtain ⟨_, _, rfl, ⟨f1, rfl, w1⟩, g2⟩ := g1.uncons
  obtain ⟨_, _, rfl, ⟨f2, rfl, w2⟩, g3⟩ := g2.uncons
  obtain ⟨_, _, rfl, ⟨f3, rfl, w3⟩, g4⟩ := g3.uncons
  cases g4.nil'
  exact ⟨⟨f0, f1, f2, f3⟩, by simp⟩
theorem law_contract (H : Type) (enc : TypeId × Value → H) (W : World) (base : Nat) (args : Array Value) (ds gs : List (DataW H)) (before : List MemPlace)
    (hval : ∀ (j : Nat) t v, Tryz.f5.params[j]? = some t → args[j]? = some v → Value.okWide Tryz.prog W .any base t v)
    (hW : DataW.Whole enc Tryz.prog Tryz.f5.params.toList Rows.fenceNewSpec.vars false W args.toList ds gs before) (hT : TabS (oldH W)) :
    Calls Tryz.prog 5 args W fun e W' => ∃ v, e = .returned v ∧ Rows.fenceNewSpec.post enc Tryz.prog Tryz.f5 false true false false W args v W' := by
  have hW' := hW
  obtain ⟨p, q, hA0, hV, rfl, hfz, hnd⟩ := hW
  have hA : DataW.TrodAll enc Tryz.prog W 0 (fun _ => true) true Tryz.f5.params.toList args.toList ds p := hA0
  rw [Tryz.params5] at hA hval
  obtain ⟨v0, vs0, d0, ds0, p0, q0, hargs, rfl, rfl, h0, r0⟩ := trodAll_cons hA
  obtain ⟨v1, vs1, d1, ds1, p1, q1, rfl, rfl, rfl, h1, r1⟩ := trodAll_cons r0
  obtain ⟨v2, vs2, d2, ds2, p2, q2, rfl, rfl, rfl, h2, r2⟩ := trodAll_cons r1
  obtain ⟨rfl, rfl, rfl⟩ := trodAll_nil r2
  obtain rfl : args = #[v0, v1, v2] := by cases args; simp_all
  obtain ⟨m, rfl, hM⟩ := md_arg (hval 0 29 v0 rfl rfl) h0
  obtain ⟨mach, rfl, rfl, rfl, wm⟩ := open_int Tryz.underlying3 (hval 1 3 v1 rfl rfl) h1
  obtain ⟨c, rfl⟩ := cl_arg (hval 2 38 v2 rfl rfl) h2
  refine (fenceNew_ct m (oldH W) hM hT mach c (W.os, W.output) emp W (mem_old W)).mono ?_
  rintro e W' ⟨v, Hs, rfl, ⟨rfl, rfl⟩, hm⟩
  exact ⟨_, rfl, law_post laidOut (by kernel_rfl) hW' rfl rfl Tryz.underlying4 rfl hm (c := 1) rfl⟩
def layObj (cs : Array Value) : Obj → Obj
  | .cells _ t fr => .cells cs t fr
  | o => o
noncomputable def laidWorld (os : Os) : World :=
  { World.holding Tryz.prog os ⟨#[], #[], []⟩ with heap := ((((((World.holding Tryz.prog os ⟨#[], #[], []⟩).heap).modify 0 (layObj #[.int .u8 0, .int .u8 0, .int .u8 0, .int .u8 0, .int .u8 0, .int .u8 0, .int .u8 0, .int .u8 0, .int .u8 0, .int .u8 1, .int .u8 1, .int .u8 1, .int .u8 1, .int .u8 1, .int .u8 0, .int .u8 0, .int .u8 0, .int .u8 0, .int .u8 0, .int .u8 0, .int .u8 0, .int .u8 0, .int .u8 0, .int .u8 0, .int .u8 0, .int .u8 0, .int .u8 0, .int .u8 0, .int .u8 0, .int .u8 0, .int .u8 0, .int .u8 0, .int .u8 1, .int .u8 0, .int .u8 0, .int .u8 0, .int .u8 0, .int .u8 0, .int .u8 0, .int .u8 0, .int .u8 0, .int .u8 0, .int .u8 0, .int .u8 0, .int .u8 0, .int .u8 0, .int .u8 0, .int .u8 0, .int .u8 0, .int .u8 0, .int .u8 0, .int .u8 0, .int .u8 0, .int .u8 0, .int .u8 0, .int .u8 0, .int .u8 0, .int .u8 0, .int .u8 0, .int .u8 0, .int .u8 0, .int .u8 0, .int .u8 0, .int .u8 0, .int .u8 0, .int .u8 0, .int .u8 0, .int .u8 0, .int .u8 0, .int .u8 0, .int .u8 0, .int .u8 0, .int .u8 0, .int .u8 0, .int .u8 0, .int .u8 0, .int .u8 0, .int .u8 0, .int .u8 0, .int .u8 0, .int .u8 0, .int .u8 0, .int .u8 0, .int .u8 0, .int .u8 0, .int .u8 0, .int .u8 0, .int .u8 0, .int .u8 0, .int .u8 0, .int .u8 0, .int .u8 0, .int .u8 0, .int .u8 0, .int .u8 0, .int .u8 0, .int .u8 0, .int .u8 0, .int .u8 0, .int .u8 0, .int .u8 0, .int .u8 0, .int .u8 0, .int .u8 0, .int .u8 0, .int .u8 0, .int .u8 0, .int .u8 0, .int .u8 0, .int .u8 0, .int .u8 0, .int .u8 0, .int .u8 0, .int .u8 0, .int .u8 0, .int .u8 0, .int .u8 0, .int .u8 0, .int .u8 0, .int .u8 0, .int .u8 0, .int .u8 0, .int .u8 0, .int .u8 0, .int .u8 0, .int .u8 0, .int .u8 0, .int .u8 0, .int .u8 0, .int .u8 0, .int .u8 0, .int .u8 0, .int .u8 0, .int .u8 0, .int .u8 0, .int .u8 0, .int .u8 0, .int .u8 0, .int .u8 0, .int .u8 0, .int .u8 0, .int .u8 0, .int .u8 0, .int .u8 0, .int .u8 0, .int .u8 0, .int .u8 0, .int .u8 0, .int .u8 0, .int .u8 0, .int .u8 0, .int .u8 0, .int .u8 0, .int .u8 0, .int .u8 0, .int .u8 0, .int .u8 0, .int .u8 0, .int .u8 0, .int .u8 0, .int .u8 0, .int .u8 0, .int .u8 0, .int .u8 0, .int .u8 0, .int .u8 0, .int .u8 0, .int .u8 0, .int .u8 0, .int .u8 0, .int .u8 0, .int .u8 0, .int .u8 0, .int .u8 0, .int .u8 0, .int .u8 0, .int .u8 0, .int .u8 0, .int .u8 0, .int .u8 0, .int .u8 0, .int .u8 0, .int .u8 0, .int .u8 0, .int .u8 0, .int .u8 0, .int .u8 0, .int .u8 0, .int .u8 0, .int .u8 0, .int .u8 0, .int .u8 0, .int .u8 0, .int .u8 0, .int .u8 0, .int .u8 0, .int .u8 0, .int .u8 0, .int .u8 0, .int .u8 0, .int .u8 0, .int .u8 0, .int .u8 0, .int .u8 0, .int .u8 0, .int .u8 0, .int .u8 0, .int .u8 0, .int .u8 0, .int .u8 0, .int .u8 0, .int .u8 0, .int .u8 0, .int .u8 0, .int .u8 0, .int .u8 0, .int .u8 0, .int .u8 0, .int .u8 0, .int .u8 0, .int .u8 0, .int .u8 0, .int .u8 0, .int .u8 0, .int .u8 0, .int .u8 0, .int .u8 0, .int .u8 0, .int .u8 0, .int .u8 0, .int .u8 0, .int .u8 0, .int .u8 0, .int .u8 0, .int .u8 0, .int .u8 0, .int .u8 0, .int .u8 0, .int .u8 0, .int .u8 0, .int .u8 0, .int .u8 0, .int .u8 0, .int .u8 0, .int .u8 0, .int .u8 0, .int .u8 0, .int .u8 0, .int .u8 0, .int .u8 0, .int .u8 0, .int .u8 0, .int .u8 0, .int .u8 0, .int .u8 0, .int .u8 0])).modify 1 (layObj #[.pointer (some ⟨8, 0, none⟩)])).push (.cells #[.slice (some ⟨9, 0, none⟩) 7 7, .slice none 0 0, .int .i64 2] 237 (0, 0))).push (.cells #[.int .u16 9, .int .u16 13, .int .u16 1, .int .u16 32, .int .u16 133, .int .u16 101, .int .u16 160, .int .u16 5760, .int .u16 5600, .int .u16 8192, .int .u16 8202, .int .u16 1, .int .u16 8232, .int .u16 8233, .int .u16 1, .int .u16 8239, .int .u16 8287, .int .u16 48, .int .u16 12288, .int .u16 12288, .int .u16 1] 240 (0, 0))) }
theorem laid_met (os : Os) : laidMet Tryz.prog Rows.fenceNewRow.laid ((laidWorld os).forCall (fun _ _ => 0) ⟨#[], #[.agg #[.slice none 0 0, .slice none 0 0, .slice none 0 0, .slice none 0 0, .slice none 0 0, .slice none 0 0, .int .i64 0, .int .i64 0, .int .i64 0, .int .i64 0, .slice none 0 0], .int .i64 0, .agg #[.int .i64 0, .int .i64 0, .int .i64 0, .int .i64 0]], []⟩).memory :=
  laidMet_of_run' 8 (by kernel_rfl) (by kernel_rfl)
theorem law_reads (os : Os) {H : Type} (enc : TypeId × Value → H) : ∃ places, DataW.whole enc Tryz.prog ((laidWorld os).forCall (fun _ _ => 0) ⟨#[], #[.agg #[.slice none 0 0, .slice none 0 0, .slice none 0 0, .slice none 0 0, .slice none 0 0, .slice none 0 0, .int .i64 0, .int .i64 0, .int .i64 0, .int .i64 0, .slice none 0 0], .int .i64 0, .agg #[.int .i64 0, .int .i64 0, .int .i64 0, .int .i64 0]], []⟩).memory Tryz.f5.params.toList Rows.fenceNewSpec.vars false (#[.agg #[.slice none 0 0, .slice none 0 0, .slice none 0 0, .slice none 0 0, .slice none 0 0, .slice none 0 0, .int .i64 0, .int .i64 0, .int .i64 0, .int .i64 0, .slice none 0 0], .int .i64 0, .agg #[.int .i64 0, .int .i64 0, .int .i64 0, .int .i64 0]] : Array Value).toList 8 = some ([.agg [.nil, .nil, .nil, .nil, .nil, .nil, .lit (.int .i64 0), .lit (.int .i64 0), .lit (.int .i64 0), .lit (.int .i64 0), .nil], .lit (.int .i64 0), .agg [.lit (.int .i64 0), .lit (.int .i64 0), .lit (.int .i64 0), .lit (.int .i64 0)]], [], places) :=
  ⟨[], by kernel_rfl⟩
theorem law_lifted (os : Os) (started : os.Started) (H : Type) (enc : TypeId × Value → H) (F : Stop.Interp) :
    ReturnsInHanded {} Tryz.checked os 5 .any ((OpenSpec.ofChange Rows.fenceNewSpec).preRow enc Tryz.prog Tryz.f5 Rows.fenceNewRow.domain false Rows.fenceNewRow.laid) (((OpenSpec.ofChange Rows.fenceNewSpec).at F).post enc Tryz.prog Tryz.f5 false true false false) := by
  obtain ⟨places, hx⟩ := law_reads os enc
  refine returnsInHanded_of_row (C := Tryz.checked) (s := OpenSpec.ofChange Rows.fenceNewSpec) own started (by kernel_rfl) Tryz.func5
    (witness_row_atRef (enc := enc) (C := Tryz.checked) false (laidWorld os) #[.agg #[.slice none 0 0, .slice none 0 0, .slice none 0 0, .slice none 0 0, .slice none 0 0, .slice none 0 0, .int .i64 0, .int .i64 0, .int .i64 0, .int .i64 0, .slice none 0 0], .int .i64 0, .agg #[.int .i64 0, .int .i64 0, .int .i64 0, .int .i64 0]] rfl (by kernel_rfl) (by kernel_rfl) (by kernel_rfl)
      (OpenSpec.preRow_of_cond 8 hx (by kernel_rfl) (fun k hk => by cases hk) (by kernel_rfl) (laid_met os))) ?_
  intro W base args ds gs before hval hW _ _ _ hL _ _
  exact law_contract H enc W base args ds gs before hval hW (tab_second hL)
theorem law_said : Rows.FenceNewSaid :=
  OpenClaim.holds_of_cond 5 Tryz.f5 rfl rfl rfl rfl rfl rfl rfl ⟨rfl, rfl, rfl, rfl, rfl⟩ rfl rfl rfl rfl rfl (by kernel_rfl) Tryz.func5 (by kernel_rfl)
    (of_decide_eq_true (by kernel_rfl)) (by unfold Func.isWrapper; first | (rw [if_pos (by decide +kernel)]; kernel_rfl) | (rw [if_neg (by decide +kernel)]; exact ⟨rfl, rfl⟩))
    (fun os started H enc _ F => by rw [OpenClaim.pre_eq_preRow]; exact law_lifted os started H enc F)
theorem law_plain (f : FuncId) (fn : Func) (hf : Tryz.pinned.checked.prog.funcNamed Rows.fenceNewRow.func = some f) (hfn : Tryz.pinned.checked.prog.funcs[f]? = some fn) :
    false = Tryz.pinned.checked.prog.looks [] ∧ ∀ (j : Nat) t, fn.params[j]? = some t → Tryz.pinned.checked.prog.wantsStandIn t = false := by
  obtain rfl : f = 5 := Option.some.inj ((show Tryz.prog.funcNamed Rows.fenceNewRow.func = some 5 by kernel_rfl).symm.trans hf) |>.symm
  obtain rfl : fn = Tryz.f5 := (Option.some.inj (Tryz.func5.symm.trans hfn)).symm
  refine ⟨by kernel_rfl, fun j t ht => ?_⟩
  rw [Tryz.params5] at ht
  have h : t = 29 ∨ t = 3 ∨ t = 38 := by
    have := Array.mem_of_getElem? ht
    simp at this
    first | omega | exact this | ((repeat (refine Or.elim this (fun h => by simp [h]) (fun this => ?_))); simp [this])
  rcases h with rfl | rfl | rfl
  · exact (show Tryz.prog.wantsStandIn 29 = false by kernel_rfl)
  · exact (show Tryz.prog.wantsStandIn 3 = false by kernel_rfl)
  · exact (show Tryz.prog.wantsStandIn 38 = false by kernel_rfl)
theorem fenceNew_card : Rows.FenceNewCardSaid :=
  Claim7.holds_tied_plain_at .later [] _ _ _ _ law_said (fun _ h => by cases h) (by kernel_rfl) (fun _ h => by cases h) fenceNew_row_tie rfl ⟨rfl, rfl⟩ (by kernel_rfl) rfl law_plain (by kernel_rfl)
end Go.Proofs.YtboapdcmaeojgaaGreatDoor
