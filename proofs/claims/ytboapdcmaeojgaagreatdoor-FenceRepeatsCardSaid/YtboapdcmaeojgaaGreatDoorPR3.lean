/- Several texts in one, in their build order: what the proofs of this seat share. -/
import Derived.Test.YtboapdcmaeojgaaGreatDoorPR2
import Derived.Shelf.Small.Bits
import Derived.Shelf.Strconv.Itoa0
import Derived.Shelf.Sort.Plain
import Derived.Shelf.Strings.Fields
import Derived.Shelf.Unicode.Latin
import Derived.Shelf.Unicode.Is16White
import Derived.Shelf.Unicode.IsSpaceAny
import Derived.Shelf.Unicode.Is16Any
import Derived.Shelf.Unicode.Is32Any
import Derived.Shelf.Unicode.ExclAny
import Derived.Shelf.Slices.In.SortNone
import Derived.Test.YtboapdcmaeojgaaGreatDoorProg
import Derived.Test.YtboapdcmaeojgaaGreatDoorPR1
import Derived.Shelf.SlSortCmp.WholeK
import Derived.Shelf.SlGeneric
import Derived.WalkKit
set_option linter.unusedVariables false
set_option linter.unusedSimpArgs false
set_option linter.unusedSectionVars false
namespace Go.Proofs.YtboapdcmaeojgaaGreatDoor
open SL Cat
set_option linter.unusedVariables false
set_option linter.unusedSimpArgs false
theorem ent133 : Ent Tryz.prog 133 := ⟨_, _, Tryz.func133, by kernel_rfl, rfl⟩
theorem ent134 : Ent Tryz.prog 134 := ⟨_, _, Tryz.func134, by kernel_rfl, rfl⟩
theorem ent88 : Ent Tryz.prog 88 := ⟨_, _, Tryz.func88, by kernel_rfl, rfl⟩
theorem ent135 : Ent Tryz.prog 135 := ⟨_, _, Tryz.func135, by kernel_rfl, rfl⟩
theorem ent86 : Ent Tryz.prog 86 := ⟨_, _, Tryz.func86, by kernel_rfl, rfl⟩
theorem ent87 : Ent Tryz.prog 87 := ⟨_, _, Tryz.func87, by kernel_rfl, rfl⟩
theorem Cat.bq3 {z : Int} : (2 ≤ z ∧ z ≤ 4) ↔ (z = 2 ∨ z = 3 ∨ z = 4) := by omega
theorem Cat.name_no1 {s : Ky} (h : (decide ((s.size : Int) < 1) || decide (31 < (s.size : Int)) || !(decide (97 ≤ at_ s 0) && decide (at_ s 0 ≤ 122)) || pB (s ∈ kws)) = true) : ¬ NameOK s := fun hn => by
  obtain ⟨h1, h2, ⟨h3, h4⟩, h5, _⟩ := hn
  rw [decide_eq_false (show ¬ (s.size : Int) < 1 by omega), decide_eq_false (show ¬ (31 : Int) < s.size by omega), decide_eq_true h3, decide_eq_true h4, pB_not h5] at h
  cases h
theorem Cat.name_yes1 {s : Ky} (h : (decide ((s.size : Int) < 1) || decide (31 < (s.size : Int)) || !(decide (97 ≤ at_ s 0) && decide (at_ s 0 ≤ 122)) || pB (s ∈ kws)) = false) : 1 ≤ s.size ∧ s.size ≤ 31 ∧ (97 ≤ at_ s 0 ∧ at_ s 0 ≤ 122) ∧ s ∉ kws := by
  simp only [Bool.or_eq_false_iff, Bool.not_eq_false', Bool.and_eq_true, decide_eq_true_eq, decide_eq_false_iff_not, pB_f] at h
  exact ⟨by omega, by omega, h.1.2, h.2⟩
theorem Cat.good_iff {c : Int} : (!(decide (97 ≤ c) && decide (c ≤ 122)) && !(decide (48 ≤ c) && decide (c ≤ 57)) && decide (c ≠ 95)) = decide (¬ goodC c) := by
  rw [Bool.eq_iff_iff]
  simp only [Bool.and_eq_true, Bool.not_eq_true', Bool.and_eq_false_iff, decide_eq_true_eq, decide_eq_false_iff_not]
  unfold goodC
  omega
set_option maxRecDepth 100000 in
set_option maxHeartbeats 400000 in
theorem letter_ct (c : Int) : Ct Tryz.prog 133 [.int .u8 c] [] (fun v Hs => v = .bool (decide (97 ≤ c) && decide (c ≤ 122)) ∧ Hs = []) := by
  refine Ct.body Tryz.func133 rfl Tryz.ntmps133 rfl ?_
  intro E F
  refine W.seq (W.region ?_)
  refine RL.q (Yld.assign rfl) rfl (RL.nil (N.next ?_))
  refine W.seq (W.region ?_)
  refine RL.q (Yld.move rfl) rfl ?_
  refine RL.q (Yld.bin rfl rfl BinV.geq) rfl ?_
  refine RL.q (Yld.move rfl) rfl ?_
  refine' RL.and (t := 5) (d := 8) 3 rfl (.of [0, 2, 3, 4] rfl) (.of [0] rfl) ?_ ?_ ?_
  rotate_left 1
  ·
   intro hg5
   refine RL.gq rfl rfl (Yld.move rfl) rfl ?_
   refine RL.gq rfl rfl (Yld.bin rfl rfl BinV.leq) rfl ?_
   refine RL.q Yld.pk rfl ?_
   exact RL.nil (N.meet (.to rfl) (.to rfl))
  ·
   intro hg5
   refine RL.gskip rfl rfl rfl rfl ?_
   refine RL.gskip rfl rfl rfl rfl ?_
   refine RL.q Yld.pk rfl ?_
   exact RL.nil (N.meet (.to rfl) (.to rfl))
  refine RL.q (Yld.assign rfl) rfl (RL.nil (N.next ?_))
  refine W.keep (.of [2] rfl) (.of [0] rfl) ?_
  refine W.ret ?_
  exact N.retBy [] (.cons (.tmp rfl) .nil) rfl rfl rfl rfl ⟨rfl, rfl⟩
set_option maxRecDepth 100000 in
set_option maxHeartbeats 400000 in
theorem digit_ct (c : Int) : Ct Tryz.prog 135 [.int .u8 c] [] (fun v Hs => v = .bool (decide (48 ≤ c) && decide (c ≤ 57)) ∧ Hs = []) := by
  refine Ct.body Tryz.func135 rfl Tryz.ntmps135 rfl ?_
  intro E F
  refine W.seq (W.region ?_)
  refine RL.q (Yld.assign rfl) rfl (RL.nil (N.next ?_))
  refine W.seq (W.region ?_)
  refine RL.q (Yld.move rfl) rfl ?_
  refine RL.q (Yld.bin rfl rfl BinV.geq) rfl ?_
  refine RL.q (Yld.move rfl) rfl ?_
  refine' RL.and (t := 5) (d := 8) 3 rfl (.of [0, 2, 3, 4] rfl) (.of [0] rfl) ?_ ?_ ?_
  rotate_left 1
  ·
   intro hg5
   refine RL.gq rfl rfl (Yld.move rfl) rfl ?_
   refine RL.gq rfl rfl (Yld.bin rfl rfl BinV.leq) rfl ?_
   refine RL.q Yld.pk rfl ?_
   exact RL.nil (N.meet (.to rfl) (.to rfl))
  ·
   intro hg5
   refine RL.gskip rfl rfl rfl rfl ?_
   refine RL.gskip rfl rfl rfl rfl ?_
   refine RL.q Yld.pk rfl ?_
   exact RL.nil (N.meet (.to rfl) (.to rfl))
  refine RL.q (Yld.assign rfl) rfl (RL.nil (N.next ?_))
  refine W.keep (.of [2] rfl) (.of [0] rfl) ?_
  refine W.ret ?_
  exact N.retBy [] (.cons (.tmp rfl) .nil) rfl rfl rfl rfl ⟨rfl, rfl⟩
set_option maxRecDepth 100000 in
set_option maxHeartbeats 1600000 in
theorem rkeywords_ct  : Ct Tryz.prog 134 [] [] (fun v Hs => ∃ H' p', v = .slice p' kws.length kws.length ∧ Sl H' p' kws.length 1 (tz kws) ∧ Hs = [H']) := by
  refine Ct.body Tryz.func134 rfl Tryz.ntmps134 rfl ?_
  intro E F
  refine W.seq (W.region ?_)
  refine RL.q (Yld.assign rfl) rfl (RL.nil (N.next ?_))
  refine W.seq (W.region ?_)
  refine RL.e (Eff.buildSlice 101 Tryz.underlying22 sz9 zc9 rfl rfl (.cons rfl rfl (.cons rfl rfl (.cons rfl rfl (.cons rfl rfl (.cons rfl rfl (.cons rfl rfl (.cons rfl rfl (.cons rfl rfl (.cons rfl rfl (.cons rfl rfl (.cons rfl rfl (.cons rfl rfl (.cons rfl rfl (.cons rfl rfl (.cons rfl rfl (.cons rfl rfl (.cons rfl rfl (.cons rfl rfl (.cons rfl rfl (.cons rfl rfl (.cons rfl rfl (.cons rfl rfl (.cons rfl rfl (.cons rfl rfl (.cons rfl rfl (.cons rfl rfl (.cons rfl rfl (.cons rfl rfl .nil)))))))))))))))))))))))))))) rfl) rfl ?_
  rintro _ _ ⟨b1, rfl, rfl⟩
  refine RL.q (Yld.assign rfl) rfl (RL.nil (N.next ?_))
  refine W.ret ?_
  exact N.retBy [101] (.cons (.tmp rfl) .nil) rfl rfl rfl rfl ⟨_, _, rfl, (Own.mk (e := 9) (n := 1) (c := kws.length) (ls := tz kws) [] (by intro l hl; simp only [tz, List.mem_map] at hl; obtain ⟨s, _, rfl⟩ := hl; exact ⟨rfl, by simp [Value.oneCell']⟩) (Nat.le_refl _) (by rw [kws_len]; simp [maxLen]) (by kernel_rfl) (by kernel_rfl)).sl, rfl⟩
set_option maxRecDepth 100000 in
set_option maxHeartbeats 1600000 in
theorem risName_ct (s : Ky) : Ct Tryz.prog 87 [.string s] [] (fun v Hs => v = .bool (nameB s) ∧ Hs = []) := by
  refine Ct.body Tryz.func87 rfl Tryz.ntmps87 rfl ?_
  intro E F
  refine W.seq (W.region ?_)
  refine RL.q (Yld.assign rfl) rfl (RL.nil (N.next ?_))
  refine W.seq ?_
  refine W.seq (W.region ?_)
  refine RL.q (Yld.move rfl) rfl ?_
  refine RL.q (Yld.lenS Tryz.underlying9 rfl) rfl ?_
  refine RL.q (Yld.bin rfl rfl BinV.lss) rfl ?_
  refine RL.q (Yld.move rfl) rfl ?_
  refine' RL.or (t := 7) (d := 11) 4 rfl (.of [0, 2, 4, 5, 6] rfl) (.of [0] rfl) ?_ ?_ ?_
  rotate_left 1
  ·
   intro hg7
   refine RL.gq rfl rfl (Yld.move rfl) rfl ?_
   refine RL.gq rfl rfl (Yld.lenS Tryz.underlying9 rfl) rfl ?_
   refine RL.gq rfl rfl (Yld.bin rfl rfl BinV.gtr) rfl ?_
   refine RL.q Yld.pk rfl ?_
   exact RL.nil (N.meet (.to rfl) (.to rfl))
  ·
   intro hg7
   refine RL.gskip rfl rfl rfl rfl ?_
   refine RL.gskip rfl rfl rfl rfl ?_
   refine RL.gskip rfl rfl rfl rfl ?_
   refine RL.q Yld.pk rfl ?_
   exact RL.nil (N.meet (.to rfl) (.to rfl))
  refine RL.q (Yld.move rfl) rfl ?_
  refine' RL.or (t := 12) (d := 17) 5 rfl (.of [0, 2, 4, 5, 6, 11] rfl) (.of [0] rfl) ?_ ?_ ?_
  rotate_left 1
  ·
   intro hg12
   have hsz : 0 < s.size := by
     simp only [Bool.or_eq_false_iff, decide_eq_false_iff_not] at hg12
     omega
   refine RL.gq rfl rfl (Yld.move rfl) rfl ?_
   refine RL.gq rfl rfl (Yld.indexS Tryz.underlying9 rfl rfl (by first | rfl | omega) (by first | omega | assumption)) rfl ?_
   refine RL.ge rfl rfl (Eff.call ent133 [] [] (.cons rfl .nil) (letter_ct (at_ s 0)) rfl rfl rfl rfl (by rintro _ _ ⟨_, rfl⟩; rfl)) rfl ?_
   rintro _ _ ⟨_, ⟨rfl, rfl⟩, rfl⟩
   refine RL.gq rfl rfl Yld.nt rfl ?_
   refine RL.q Yld.pk rfl ?_
   exact RL.nil (N.meet (.to rfl) (.to rfl))
  ·
   intro hg12
   refine RL.gskip rfl rfl rfl rfl ?_
   refine RL.gskip rfl rfl rfl rfl ?_
   refine RL.gskip rfl rfl rfl rfl ?_
   refine RL.gskip rfl rfl rfl rfl ?_
   refine RL.q Yld.pk rfl ?_
   exact RL.nil (N.meet (.to rfl) (.to rfl))
  refine RL.q (Yld.move rfl) rfl ?_
  refine' RL.or (t := 18) (d := 22) 4 rfl (.of [0, 2, 4, 5, 6, 11, 17] rfl) (.of [0] rfl) ?_ ?_ ?_
  rotate_left 1
  ·
   intro hg18
   refine RL.ge rfl rfl (Eff.call ent134 [] [160] .nil rkeywords_ct rfl rfl rfl rfl (by rintro _ _ ⟨_, _, _, _, rfl⟩; rfl)) rfl ?_
   rintro _ _ ⟨_, ⟨Hk, pk, rfl, hSk, rfl⟩, rfl⟩
   refine RL.gq rfl rfl (Yld.move rfl) rfl ?_
   refine RL.ge rfl rfl (Eff.call ent88 [160] [160] (.cons rfl (.cons rfl .nil)) (rhas_ct kws Hk pk _ _ rfl hSk s) rfl rfl rfl rfl (by rintro _ _ ⟨_, rfl⟩; rfl)) rfl ?_
   rintro _ _ ⟨_, ⟨rfl, rfl⟩, rfl⟩
   refine RL.q Yld.pk rfl ?_
   exact RL.nil (N.meet (.to rfl) (.to rfl))
  ·
   intro hg18
   refine RL.gskip rfl rfl rfl rfl ?_
   refine RL.gskip rfl rfl rfl rfl ?_
   refine RL.gskip rfl rfl rfl rfl ?_
   refine RL.q Yld.pk rfl ?_
   exact RL.nil (N.meet (.to rfl) (.to rfl))
  refine RL.nil (N.next ?_)
  refine W.keep (.of [0, 22] rfl) (.of [0] rfl) ?_
  refine W.cond rfl (fun hc22 => ?_) (fun hc22 => ?_)
  ·
   have hbad := name_no1 hc22
   refine W.seq (W.region ?_)
   refine RL.q (Yld.assign rfl) rfl (RL.nil (N.next ?_))
   refine W.ret ?_
   refine N.then_ret ?_
   exact N.retBy [] (.cons (.tmp rfl) .nil) rfl rfl rfl rfl ⟨by rw [nameB_not hbad]; rfl, rfl⟩
  ·
   have hgd := name_yes1 hc22
   refine W.skip ?_
   refine N.next ?_
   refine W.seq ?_
   refine W.seq (W.region ?_)
   refine RL.q (Yld.assign rfl) rfl (RL.nil (N.next ?_))
   refine W.block ?_
   refine W.loopK (ι := Nat) (fun i => (i ≤ s.size ∧ AllGood s i)) (fun i => [(3, .int .i64 (i : Nat))]) (fun i => []) (fun i => s.size - i) (.of [0] rfl) (.of [0] rfl) 0 ?_ ?_ ?_ ?_
   · exact ⟨Nat.zero_le _, fun _ h => absurd h (Nat.not_lt_zero _)⟩
   · exact (.as rfl (by first | rfl | (simp; done) | (congr 1; simp; done) | (congr 1; omega)) .nil)
   · exact .nil
   rintro i ⟨hi, hI⟩
   refine W.keep (.of [3, 0] rfl) (.of [0] rfl) ?_
   refine W.seq ?_
   refine W.seq (W.region ?_)
   refine RL.q (Yld.move rfl) rfl (RL.q (Yld.move rfl) rfl ?_)
   refine RL.q (Yld.lenS Tryz.underlying9 rfl) rfl ?_
   refine RL.q (Yld.bin rfl rfl BinV.lss) rfl ?_
   refine RL.nil (N.next ?_)
   first | refine W.condD rfl (fun hc26 => ?_) (fun hc26 => ?_) | (refine W.cond rfl (fun hc26 => ?_) (fun hc26 => ?_) <;> try simp only [Bool.or_eq_true, Bool.and_eq_true, Bool.not_eq_true', Bool.not_eq_false', decide_eq_true_eq, Bool.or_eq_false_iff, Bool.and_eq_false_iff, decide_eq_false_iff_not, beq_iff_eq, beq_eq_false_iff_ne, ne_eq, Decidable.not_not] at hc26)
   ·
    refine W.skip ?_
    refine N.next ?_
    refine W.keep (.of [0, 3] rfl) (.of [0] rfl) ?_
    refine W.seq ?_
    refine W.block ?_
    refine W.seq (W.region ?_)
    refine RL.q (Yld.move rfl) rfl (RL.q (Yld.move rfl) rfl ?_)
    refine RL.q (Yld.indexS Tryz.underlying9 rfl rfl (by first | rfl | omega) (by first | omega | assumption)) rfl ?_
    refine RL.e (Eff.call ent133 [] [] (.cons rfl .nil) (letter_ct (at_ s i)) rfl rfl rfl rfl (by rintro _ _ ⟨_, rfl⟩; rfl)) rfl ?_
    rintro _ _ ⟨_, ⟨rfl, rfl⟩, rfl⟩
    refine RL.q Yld.nt rfl (RL.q (Yld.move rfl) rfl ?_)
    refine' RL.and (t := 34) (d := 40) 6 rfl (.of [0, 3, 29, 30, 31, 32, 33] rfl) (.of [0] rfl) ?_ ?_ ?_
    rotate_left 1
    ·
     intro hg34
     refine RL.gq rfl rfl (Yld.move rfl) rfl ?_
     refine RL.gq rfl rfl (Yld.move rfl) rfl ?_
     refine RL.gq rfl rfl (Yld.indexS Tryz.underlying9 rfl rfl (by first | rfl | omega) (by first | omega | assumption)) rfl ?_
     refine RL.ge rfl rfl (Eff.call ent135 [] [] (.cons rfl .nil) (digit_ct (at_ s i)) rfl rfl rfl rfl (by rintro _ _ ⟨_, rfl⟩; rfl)) rfl ?_
     rintro _ _ ⟨_, ⟨rfl, rfl⟩, rfl⟩
     refine RL.gq rfl rfl Yld.nt rfl ?_
     refine RL.q Yld.pk rfl ?_
     exact RL.nil (N.meet (.to rfl) (.to rfl))
    ·
     intro hg34
     refine RL.gskip rfl rfl rfl rfl ?_
     refine RL.gskip rfl rfl rfl rfl ?_
     refine RL.gskip rfl rfl rfl rfl ?_
     refine RL.gskip rfl rfl rfl rfl ?_
     refine RL.gskip rfl rfl rfl rfl ?_
     refine RL.q Yld.pk rfl ?_
     exact RL.nil (N.meet (.to rfl) (.to rfl))
    refine RL.q (Yld.move rfl) rfl ?_
    refine' RL.and (t := 41) (d := 46) 5 rfl (.of [0, 3, 29, 30, 31, 32, 33, 40] rfl) (.of [0] rfl) ?_ ?_ ?_
    rotate_left 1
    ·
     intro hg41
     refine RL.gq rfl rfl (Yld.move rfl) rfl ?_
     refine RL.gq rfl rfl (Yld.move rfl) rfl ?_
     refine RL.gq rfl rfl (Yld.indexS Tryz.underlying9 rfl rfl (by first | rfl | omega) (by first | omega | assumption)) rfl ?_
     refine RL.gq rfl rfl (Yld.bin rfl rfl BinV.neq) rfl ?_
     refine RL.q Yld.pk rfl ?_
     exact RL.nil (N.meet (.to rfl) (.to rfl))
    ·
     intro hg41
     refine RL.gskip rfl rfl rfl rfl ?_
     refine RL.gskip rfl rfl rfl rfl ?_
     refine RL.gskip rfl rfl rfl rfl ?_
     refine RL.gskip rfl rfl rfl rfl ?_
     refine RL.q Yld.pk rfl ?_
     exact RL.nil (N.meet (.to rfl) (.to rfl))
    refine RL.nil (N.next ?_)
    refine W.keep (.of [0, 3, 46] rfl) (.of [0] rfl) ?_
    refine W.cond rfl (fun hc46 => ?_) (fun hc46 => ?_)
    ·
     have hbad : ¬ NameOK s := fun h => by
       have h1 : decide (¬ goodC (at_ s i)) = true := good_iff.symm.trans hc46
       exact of_decide_eq_true h1 (h.2.2.2.2 i (by omega))
     refine W.seq (W.region ?_)
     refine RL.q (Yld.assign rfl) rfl (RL.nil (N.next ?_))
     refine W.ret ?_
     refine N.block_ret ?_
     refine N.then_ret ?_
     refine N.then_ret ?_
     refine N.block_ret ?_
     refine N.then_ret ?_
     exact N.retBy [] (.cons (.tmp rfl) .nil) rfl rfl rfl rfl ⟨by rw [nameB_not hbad]; rfl, rfl⟩
    ·
     have hgc : goodC (at_ s i) := by
       have h1 : decide (¬ goodC (at_ s i)) = false := good_iff.symm.trans hc46
       exact Classical.not_not.1 (of_decide_eq_false h1)
     refine W.skip ?_
     refine N.block_normal ?_
     refine N.next ?_
     refine W.region ?_
     refine RL.q (Yld.move rfl) rfl ?_
     refine RL.q (Yld.bin rfl rfl (by first | exact BinV.add (by omega) (by omega) | exact BinV.addW)) rfl ?_
     refine RL.q (Yld.assign rfl) rfl (RL.nil ?_)
     exact N.famK (i + 1) ⟨⟨by omega, hI.step hgc⟩, by omega⟩ (.as rfl (by first | rfl | (simp; done) | (congr 1; simp; done) | (congr 1; omega)) .nil) (.to rfl) .nil (.to rfl)
   ·
    refine W.exit ?_
    refine N.then_exit ?_
    refine N.then_exit ?_
    refine N.block_eq ?_
    refine N.next ?_
    refine W.keep .nil (.of [0] rfl) ?_
    refine W.seq (W.region ?_)
    refine RL.q (Yld.assign rfl) rfl (RL.nil (N.next ?_))
    refine W.ret ?_
    exact N.retBy [] (.cons (.tmp rfl) .nil) rfl rfl rfl rfl ⟨by rw [nameB_iff.2 ⟨hgd.1, hgd.2.1, hgd.2.2.1, hgd.2.2.2, by rw [show s.size = i by omega]; exact hI⟩]; rfl, rfl⟩
structure Cat.NI where
  k : Nat
  H : PH
  p : Option Addr
  c : Nat
set_option maxRecDepth 100000 in
set_option maxHeartbeats 3200000 in
theorem rnames_ct (m : Md) (H1 : PH) (hM : m.In H1) (hn : (namesOf m).length ≤ 10000) : Ct Tryz.prog 86 [.agg [.slice m.psi m.si.length m.csi, .slice m.pfe m.fe.length m.cfe, .slice m.prk m.rk.length m.crk, .slice m.pmc m.mc.length m.cmc, .slice m.pln m.ln.length m.cln, .slice m.pis m.is.length m.cis, .int .i64 m.da, .int .i64 m.sl, .int .i64 m.re, .int .i64 m.fa, .slice m.prl m.rl.length m.crl].toArray] [H1] (fun v Hs => ∃ H' p' c', v = .slice p' (namesOf m).length c' ∧ Own H' p' c' 9 1 (tz (namesOf m)) ∧ Hs = [H1, H']) := by
  refine Ct.body Tryz.func86 rfl Tryz.ntmps86 rfl ?_
  intro E F
  have hnl := ns_len m
  have hMrk := hM.rk
  have hMmc := hM.mc
  have hMis := hM.is
  have hm0 := hM.si.len_le
  simp only [tz_len, List.length_map, maxLen] at hm0
  have hm1 := hM.fe.len_le
  simp only [tz_len, List.length_map, maxLen] at hm1
  have hm2 := hM.rk.len_le
  simp only [tz_len, List.length_map, maxLen] at hm2
  have hm3 := hM.mc.len_le
  simp only [tz_len, List.length_map, maxLen] at hm3
  have hm4 := hM.is.len_le
  simp only [tz_len, List.length_map, maxLen] at hm4
  
  refine W.seq (W.region ?_)
  refine RL.e (Eff.box 101 _ rfl rfl) rfl ?_
  rintro _ _ ⟨b1, rfl, rfl⟩
  refine RL.q (Yld.assign rfl) rfl (RL.nil (N.next ?_))
  refine W.seq ?_
  refine W.draw (.q 1 (.q 2 (.q 4 (.q 5 (.one 0 (.one 3 (.one 6 (.q 7 .done)))))))) (.of [0, 1, 101] rfl) mix (by kernel_rfl) (by kernel_rfl) ?_
  refine DL.q rfl (Yld.fieldAddr fo29_0 rfl) rfl ?_
  refine DL.q rfl (Yld.ld 101 Tryz.underlying22 rfl rfl rfl rfl) rfl ?_
  refine DL.q rfl (Yld.fieldAddr fo29_1 rfl) rfl ?_
  refine DL.q rfl (Yld.ld 101 Tryz.underlying22 rfl rfl rfl rfl) rfl ?_
  refine DL.one rfl (Eff.buildSlice 107 Tryz.underlying22 sz9 zc9 rfl rfl .nil rfl) rfl (by rintro _ _ ⟨b7, rfl, rfl⟩; repeat (first | exact .nil | refine .cons rfl ?_)) ?_
  rintro _ _ ⟨b7, rfl, rfl⟩
  refine DL.one rfl (Eff.appendE (tc := 107) (sc := 1) (ms := m.si) (ls := ([] : List Ky)) (fun s : Ky => [Value.string s]) Tryz.underlying22 el9 rfl rfl rfl rfl (Own.none0 rfl : Own _ _ 0 9 1 (([] : List Ky).map (fun s : Ky => [Value.string s]))) rfl hM.si rfl (tz_one1 _) (by decide) (by simp; omega) (by simp [maxLen]; omega)) rfl (by rintro _ _ ⟨Ha, pa, ca, rfl, hOa, rfl⟩; repeat (first | exact .nil | refine .cons rfl ?_)) ?_
  rintro _ _ ⟨Ha, pa, ca, rfl, hOa, rfl⟩
  refine DL.one rfl (Eff.appendE (tc := 107) (sc := 1) (ms := m.fe) (fun s : Ky => [Value.string s]) Tryz.underlying22 el9 rfl rfl rfl rfl hOa rfl hM.fe rfl (tz_one1 _) (by decide) (by simp; omega) (by simp [maxLen]; omega)) rfl (by rintro _ _ ⟨Hb, pb, cb, rfl, hOb, rfl⟩; repeat (first | exact .nil | refine .cons rfl ?_)) ?_
  rintro _ _ ⟨Hb, pb, cb, rfl, hOb, rfl⟩
  refine DL.q rfl (Yld.assign rfl) rfl ?_
  refine DL.done ?_
  refine N.next ?_
  refine W.keep (.of [1, 3] rfl) (.of [0, 1, 101, 107] rfl) ?_
  refine W.seq ?_
  refine W.seq (W.region ?_)
  refine RL.q (Yld.assign rfl) rfl (RL.nil (N.next ?_))
  refine W.block ?_
  refine W.loopK (ι := NI) (fun x => (x.k ≤ m.rk.length ∧ Own x.H x.p x.c 9 1 (tz ((m.si ++ m.fe) ++ (m.rk.take x.k).map (·.nm))))) (fun x => [(3, .slice x.p ((m.si ++ m.fe) ++ (m.rk.take x.k).map (·.nm)).length x.c), (4, .int .i64 (x.k : Nat))]) (fun x => [(107, x.H)]) (fun x => m.rk.length - x.k) (.of [1] rfl) (.of [0, 1, 101] rfl) ⟨0, Hb, pb, cb⟩ ?_ ?_ ?_ ?_
  · exact ⟨Nat.zero_le _, by rw [List.take_zero, List.map_nil, List.append_nil]; exact hOb⟩
  · exact (.as rfl (by simp) (.as rfl (by first | rfl | (simp; done) | (congr 1; simp; done) | (congr 1; omega)) .nil))
  · exact (.to rfl)
  rintro x ⟨hk, hO⟩
  refine W.keep (.of [3, 4, 1] rfl) (.of [107, 0, 1, 101] rfl) ?_
  refine W.seq ?_
  refine W.seq (W.region ?_)
  refine RL.q (Yld.move rfl) rfl ?_
  refine RL.q (Yld.fieldAddr fo29_2 rfl) rfl ?_
  refine RL.q (Yld.ld 101 Tryz.underlying23 rfl rfl rfl rfl) rfl ?_
  refine RL.q (Yld.lenSl Tryz.underlying23 rfl) rfl ?_
  refine RL.q (Yld.bin rfl rfl BinV.lss) rfl ?_
  refine RL.nil (N.next ?_)
  refine W.keep (.of [1, 3, 4, 18] rfl) (.of [0, 1, 101, 107] rfl) ?_
  first | refine W.condD rfl (fun hc18 => ?_) (fun hc18 => ?_) | (refine W.cond rfl (fun hc18 => ?_) (fun hc18 => ?_) <;> try simp only [Bool.or_eq_true, Bool.and_eq_true, Bool.not_eq_true', Bool.not_eq_false', decide_eq_true_eq, Bool.or_eq_false_iff, Bool.and_eq_false_iff, decide_eq_false_iff_not, beq_iff_eq, beq_eq_false_iff_ne, ne_eq, Decidable.not_not] at hc18)
  ·
   obtain ⟨x0, he⟩ : ∃ x0, m.rk[x.k]? = some x0 := ⟨_, List.getElem?_eq_getElem (show x.k < m.rk.length by first | omega | (simp only [List.length_map] at *; omega))⟩
   have hle : (m.rk.map Rk.c)[x.k]? = some x0.c := by simp [he]
   have hsx : (m.si ++ m.fe) ++ (m.rk.take (x.k + 1)).map (·.nm) = ((m.si ++ m.fe) ++ (m.rk.take x.k).map (·.nm)) ++ [x0.nm] := by rw [List.take_add_one, he]; simp
   have hlo : ((m.si ++ m.fe) ++ (m.rk.take x.k).map (·.nm)).length ≤ 10000 := by simp only [List.length_append, List.length_map, List.length_take]; omega
   refine W.skip ?_
   refine N.next ?_
   refine W.seq ?_
   refine W.block ?_
   refine W.region ?_
   refine RL.q (Yld.move rfl) rfl ?_
   refine RL.q (Yld.fieldAddr fo29_2 rfl) rfl ?_
   refine RL.q (Yld.ld 101 Tryz.underlying23 rfl rfl rfl rfl) rfl ?_
   refine RL.q (Yld.move rfl) rfl ?_
   refine RL.q (Yld.ixr Tryz.underlying23 sz93 rfl rfl) rfl ?_
   refine RL.q (Yld.fieldAddr fo93_0 rfl) rfl ?_
   refine RL.q (by first | exact (by first | exact Yld.loadRow1 (cl := 1) Tryz.underlying9 rfl rfl rfl (by first | assumption | exact Own.sl (by assumption)) (by assumption) | exact Yld.loadRow1 (cl := 101) Tryz.underlying9 rfl rfl rfl (by first | assumption | exact Own.sl (by assumption)) (by assumption) | exact Yld.loadRow1 (cl := 107) Tryz.underlying9 rfl rfl rfl (by first | assumption | exact Own.sl (by assumption)) (by assumption)) | exact (by first | exact Yld.lrF 1 0 Tryz.underlying9 rfl rfl rfl rfl | exact Yld.lrF 101 0 Tryz.underlying9 rfl rfl rfl rfl | exact Yld.lrF 107 0 Tryz.underlying9 rfl rfl rfl rfl)) rfl ?_
   refine RL.e (Eff.buildSlice 128 Tryz.underlying22 sz9 zc9 rfl rfl (.cons rfl rfl .nil) rfl) rfl ?_
   rintro _ _ ⟨b28, rfl, rfl⟩
   refine RL.e (Eff.appendE (tc := 107) (sc := 128) (ms := [x0.nm]) (fun s : Ky => [Value.string s]) Tryz.underlying22 el9 rfl rfl rfl rfl hO rfl (Own.one (l := [Value.string x0.nm]) rfl (by simp [Value.oneCell']) rfl).sl rfl (tz_one1 _) (by decide) (by simp; omega) (by simp [maxLen]; omega)) rfl ?_
   rintro _ _ ⟨Ha, pa, ca, rfl, hOa, rfl⟩
   refine RL.q (Yld.assign rfl) rfl (RL.nil ?_)
   refine N.block_normal ?_
   refine N.next ?_
   refine W.keep (.of [1, 3, 4] rfl) (.of [0, 1, 101, 107, 128] rfl) ?_
   refine W.region ?_
   refine RL.q (Yld.move rfl) rfl ?_
   refine RL.q (Yld.bin rfl rfl (by first | exact BinV.add (by omega) (by omega) | exact BinV.addW)) rfl ?_
   refine RL.q (Yld.assign rfl) rfl (RL.nil ?_)
   exact N.famK ⟨x.k + 1, Ha, pa, ca⟩ ⟨⟨by dsimp only; omega, by dsimp only; rw [hsx]; exact hOa⟩, by dsimp only; omega⟩ (.as rfl (by rw [hsx]) (.as rfl (by first | rfl | (simp; done) | (congr 1; simp; done) | (congr 1; omega)) .nil)) (.to rfl) (.to rfl) (.to rfl)
  ·
   have hend : x.k = m.rk.length := by omega
   rw [hend, List.take_length] at hO ⊢
   refine W.exit ?_
   refine N.then_exit ?_
   refine N.then_exit ?_
   refine N.block_eq ?_
   refine N.next ?_
   refine W.seq ?_
   refine W.seq (W.region ?_)
   refine RL.q (Yld.assign rfl) rfl (RL.nil (N.next ?_))
   refine W.block ?_
   refine W.loopK (ι := NI) (fun y => (y.k ≤ m.mc.length ∧ Own y.H y.p y.c 9 1 (tz ((m.si ++ m.fe ++ m.rk.map (·.nm)) ++ (m.mc.take y.k).map (·.nm))))) (fun y => [(3, .slice y.p ((m.si ++ m.fe ++ m.rk.map (·.nm)) ++ (m.mc.take y.k).map (·.nm)).length y.c), (5, .int .i64 (y.k : Nat))]) (fun y => [(107, y.H)]) (fun y => m.mc.length - y.k) (.of [1] rfl) (.of [0, 1, 101] rfl) ⟨0, x.H, x.p, x.c⟩ ?_ ?_ ?_ ?_
   · exact ⟨Nat.zero_le _, by rw [List.take_zero, List.map_nil, List.append_nil]; exact hO⟩
   · exact (.as rfl (by simp) (.as rfl (by first | rfl | (simp; done) | (congr 1; simp; done) | (congr 1; omega)) .nil))
   · exact (.to rfl)
   rintro y ⟨hk, hO⟩
   refine W.keep (.of [3, 5, 1] rfl) (.of [107, 0, 1, 101] rfl) ?_
   refine W.seq ?_
   refine W.seq (W.region ?_)
   refine RL.q (Yld.move rfl) rfl ?_
   refine RL.q (Yld.fieldAddr fo29_3 rfl) rfl ?_
   refine RL.q (Yld.ld 101 Tryz.underlying24 rfl rfl rfl rfl) rfl ?_
   refine RL.q (Yld.lenSl Tryz.underlying24 rfl) rfl ?_
   refine RL.q (Yld.bin rfl rfl BinV.lss) rfl ?_
   refine RL.nil (N.next ?_)
   refine W.keep (.of [1, 3, 5, 34] rfl) (.of [0, 1, 101, 107] rfl) ?_
   first | refine W.condD rfl (fun hc34 => ?_) (fun hc34 => ?_) | (refine W.cond rfl (fun hc34 => ?_) (fun hc34 => ?_) <;> try simp only [Bool.or_eq_true, Bool.and_eq_true, Bool.not_eq_true', Bool.not_eq_false', decide_eq_true_eq, Bool.or_eq_false_iff, Bool.and_eq_false_iff, decide_eq_false_iff_not, beq_iff_eq, beq_eq_false_iff_ne, ne_eq, Decidable.not_not] at hc34)
   ·
    obtain ⟨y0, he⟩ : ∃ y0, m.mc[y.k]? = some y0 := ⟨_, List.getElem?_eq_getElem (show y.k < m.mc.length by first | omega | (simp only [List.length_map] at *; omega))⟩
    have hle : (m.mc.map Mc.c)[y.k]? = some y0.c := by simp [he]
    have hsx : (m.si ++ m.fe ++ m.rk.map (·.nm)) ++ (m.mc.take (y.k + 1)).map (·.nm) = ((m.si ++ m.fe ++ m.rk.map (·.nm)) ++ (m.mc.take y.k).map (·.nm)) ++ [y0.nm] := by rw [List.take_add_one, he]; simp
    have hlo : ((m.si ++ m.fe ++ m.rk.map (·.nm)) ++ (m.mc.take y.k).map (·.nm)).length ≤ 10000 := by simp only [List.length_append, List.length_map, List.length_take]; omega
    refine W.skip ?_
    refine N.next ?_
    refine W.seq ?_
    refine W.block ?_
    refine W.region ?_
    refine RL.q (Yld.move rfl) rfl ?_
    refine RL.q (Yld.fieldAddr fo29_3 rfl) rfl ?_
    refine RL.q (Yld.ld 101 Tryz.underlying24 rfl rfl rfl rfl) rfl ?_
    refine RL.q (Yld.move rfl) rfl ?_
    refine RL.q (Yld.ixr Tryz.underlying24 sz95 rfl rfl) rfl ?_
    refine RL.q (Yld.fieldAddr fo95_0 rfl) rfl ?_
    refine RL.q (by first | exact (by first | exact Yld.loadRow1 (cl := 1) Tryz.underlying9 rfl rfl rfl (by first | assumption | exact Own.sl (by assumption)) (by assumption) | exact Yld.loadRow1 (cl := 101) Tryz.underlying9 rfl rfl rfl (by first | assumption | exact Own.sl (by assumption)) (by assumption) | exact Yld.loadRow1 (cl := 107) Tryz.underlying9 rfl rfl rfl (by first | assumption | exact Own.sl (by assumption)) (by assumption)) | exact (by first | exact Yld.lrF 1 0 Tryz.underlying9 rfl rfl rfl rfl | exact Yld.lrF 101 0 Tryz.underlying9 rfl rfl rfl rfl | exact Yld.lrF 107 0 Tryz.underlying9 rfl rfl rfl rfl)) rfl ?_
    refine RL.e (Eff.buildSlice 144 Tryz.underlying22 sz9 zc9 rfl rfl (.cons rfl rfl .nil) rfl) rfl ?_
    rintro _ _ ⟨b44, rfl, rfl⟩
    refine RL.e (Eff.appendE (tc := 107) (sc := 144) (ms := [y0.nm]) (fun s : Ky => [Value.string s]) Tryz.underlying22 el9 rfl rfl rfl rfl hO rfl (Own.one (l := [Value.string y0.nm]) rfl (by simp [Value.oneCell']) rfl).sl rfl (tz_one1 _) (by decide) (by simp; omega) (by simp [maxLen]; omega)) rfl ?_
    rintro _ _ ⟨Ha, pa, ca, rfl, hOa, rfl⟩
    refine RL.q (Yld.assign rfl) rfl (RL.nil ?_)
    refine N.block_normal ?_
    refine N.next ?_
    refine W.keep (.of [1, 3, 5] rfl) (.of [0, 1, 101, 107, 144] rfl) ?_
    refine W.region ?_
    refine RL.q (Yld.move rfl) rfl ?_
    refine RL.q (Yld.bin rfl rfl (by first | exact BinV.add (by omega) (by omega) | exact BinV.addW)) rfl ?_
    refine RL.q (Yld.assign rfl) rfl (RL.nil ?_)
    exact N.famK ⟨y.k + 1, Ha, pa, ca⟩ ⟨⟨by dsimp only; omega, by dsimp only; rw [hsx]; exact hOa⟩, by dsimp only; omega⟩ (.as rfl (by rw [hsx]) (.as rfl (by first | rfl | (simp; done) | (congr 1; simp; done) | (congr 1; omega)) .nil)) (.to rfl) (.to rfl) (.to rfl)
   ·
    have hend : y.k = m.mc.length := by omega
    rw [hend, List.take_length] at hO ⊢
    refine W.exit ?_
    refine N.then_exit ?_
    refine N.then_exit ?_
    refine N.block_eq ?_
    refine N.next ?_
    refine W.seq ?_
    refine W.seq (W.region ?_)
    refine RL.q (Yld.assign rfl) rfl (RL.nil (N.next ?_))
    refine W.block ?_
    refine W.loopK (ι := NI) (fun w => (w.k ≤ m.is.length ∧ Own w.H w.p w.c 9 1 (tz ((m.si ++ m.fe ++ m.rk.map (·.nm) ++ m.mc.map (·.nm)) ++ (m.is.take w.k).map (·.nm))))) (fun w => [(3, .slice w.p ((m.si ++ m.fe ++ m.rk.map (·.nm) ++ m.mc.map (·.nm)) ++ (m.is.take w.k).map (·.nm)).length w.c), (6, .int .i64 (w.k : Nat))]) (fun w => [(107, w.H)]) (fun w => m.is.length - w.k) (.of [1] rfl) (.of [0, 1, 101] rfl) ⟨0, y.H, y.p, y.c⟩ ?_ ?_ ?_ ?_
    · exact ⟨Nat.zero_le _, by rw [List.take_zero, List.map_nil, List.append_nil]; exact hO⟩
    · exact (.as rfl (by simp) (.as rfl (by first | rfl | (simp; done) | (congr 1; simp; done) | (congr 1; omega)) .nil))
    · exact (.to rfl)
    rintro w ⟨hk, hO⟩
    refine W.keep (.of [3, 6, 1] rfl) (.of [107, 0, 1, 101] rfl) ?_
    refine W.seq ?_
    refine W.seq (W.region ?_)
    refine RL.q (Yld.move rfl) rfl ?_
    refine RL.q (Yld.fieldAddr fo29_5 rfl) rfl ?_
    refine RL.q (Yld.ld 101 Tryz.underlying26 rfl rfl rfl rfl) rfl ?_
    refine RL.q (Yld.lenSl Tryz.underlying26 rfl) rfl ?_
    refine RL.q (Yld.bin rfl rfl BinV.lss) rfl ?_
    refine RL.nil (N.next ?_)
    refine W.keep (.of [1, 3, 6, 50] rfl) (.of [0, 1, 101, 107] rfl) ?_
    first | refine W.condD rfl (fun hc50 => ?_) (fun hc50 => ?_) | (refine W.cond rfl (fun hc50 => ?_) (fun hc50 => ?_) <;> try simp only [Bool.or_eq_true, Bool.and_eq_true, Bool.not_eq_true', Bool.not_eq_false', decide_eq_true_eq, Bool.or_eq_false_iff, Bool.and_eq_false_iff, decide_eq_false_iff_not, beq_iff_eq, beq_eq_false_iff_ne, ne_eq, Decidable.not_not] at hc50)
    ·
     obtain ⟨w0, he⟩ : ∃ w0, m.is[w.k]? = some w0 := ⟨_, List.getElem?_eq_getElem (show w.k < m.is.length by first | omega | (simp only [List.length_map] at *; omega))⟩
     have hle : (m.is.map It.c)[w.k]? = some w0.c := by simp [he]
     have hsx : (m.si ++ m.fe ++ m.rk.map (·.nm) ++ m.mc.map (·.nm)) ++ (m.is.take (w.k + 1)).map (·.nm) = ((m.si ++ m.fe ++ m.rk.map (·.nm) ++ m.mc.map (·.nm)) ++ (m.is.take w.k).map (·.nm)) ++ [w0.nm] := by rw [List.take_add_one, he]; simp
     have hlo : ((m.si ++ m.fe ++ m.rk.map (·.nm) ++ m.mc.map (·.nm)) ++ (m.is.take w.k).map (·.nm)).length ≤ 10000 := by simp only [List.length_append, List.length_map, List.length_take]; omega
     refine W.skip ?_
     refine N.next ?_
     refine W.seq ?_
     refine W.block ?_
     refine W.region ?_
     refine RL.q (Yld.move rfl) rfl ?_
     refine RL.q (Yld.fieldAddr fo29_5 rfl) rfl ?_
     refine RL.q (Yld.ld 101 Tryz.underlying26 rfl rfl rfl rfl) rfl ?_
     refine RL.q (Yld.move rfl) rfl ?_
     refine RL.q (Yld.ixr Tryz.underlying26 sz64 rfl rfl) rfl ?_
     refine RL.q (Yld.fieldAddr fo64_0 rfl) rfl ?_
     refine RL.q (by first | exact (by first | exact Yld.loadRow1 (cl := 1) Tryz.underlying9 rfl rfl rfl (by first | assumption | exact Own.sl (by assumption)) (by assumption) | exact Yld.loadRow1 (cl := 101) Tryz.underlying9 rfl rfl rfl (by first | assumption | exact Own.sl (by assumption)) (by assumption) | exact Yld.loadRow1 (cl := 107) Tryz.underlying9 rfl rfl rfl (by first | assumption | exact Own.sl (by assumption)) (by assumption)) | exact (by first | exact Yld.lrF 1 0 Tryz.underlying9 rfl rfl rfl rfl | exact Yld.lrF 101 0 Tryz.underlying9 rfl rfl rfl rfl | exact Yld.lrF 107 0 Tryz.underlying9 rfl rfl rfl rfl)) rfl ?_
     refine RL.e (Eff.buildSlice 160 Tryz.underlying22 sz9 zc9 rfl rfl (.cons rfl rfl .nil) rfl) rfl ?_
     rintro _ _ ⟨b60, rfl, rfl⟩
     refine RL.e (Eff.appendE (tc := 107) (sc := 160) (ms := [w0.nm]) (fun s : Ky => [Value.string s]) Tryz.underlying22 el9 rfl rfl rfl rfl hO rfl (Own.one (l := [Value.string w0.nm]) rfl (by simp [Value.oneCell']) rfl).sl rfl (tz_one1 _) (by decide) (by simp; omega) (by simp [maxLen]; omega)) rfl ?_
     rintro _ _ ⟨Ha, pa, ca, rfl, hOa, rfl⟩
     refine RL.q (Yld.assign rfl) rfl (RL.nil ?_)
     refine N.block_normal ?_
     refine N.next ?_
     refine W.keep (.of [1, 3, 6] rfl) (.of [0, 1, 101, 107, 160] rfl) ?_
     refine W.region ?_
     refine RL.q (Yld.move rfl) rfl ?_
     refine RL.q (Yld.bin rfl rfl (by first | exact BinV.add (by omega) (by omega) | exact BinV.addW)) rfl ?_
     refine RL.q (Yld.assign rfl) rfl (RL.nil ?_)
     exact N.famK ⟨w.k + 1, Ha, pa, ca⟩ ⟨⟨by dsimp only; omega, by dsimp only; rw [hsx]; exact hOa⟩, by dsimp only; omega⟩ (.as rfl (by rw [hsx]) (.as rfl (by first | rfl | (simp; done) | (congr 1; simp; done) | (congr 1; omega)) .nil)) (.to rfl) (.to rfl) (.to rfl)
    ·
     have hend : w.k = m.is.length := by omega
     rw [hend, List.take_length] at hO ⊢
     refine W.exit ?_
     refine N.then_exit ?_
     refine N.then_exit ?_
     refine N.block_eq ?_
     refine N.next ?_
     refine W.seq (W.region ?_)
     refine RL.q (Yld.move rfl) rfl (RL.q (Yld.assign rfl) rfl (RL.nil (N.next ?_)))
     refine W.keep (.of [2] rfl) (.of [0, 1, 101, 107] rfl) ?_
     refine W.ret ?_
     exact N.retBy [1, 107] (.cons (.tmp rfl) .nil) rfl rfl rfl rfl ⟨w.H, w.p, w.c, rfl, hO, rfl⟩
set_option maxRecDepth 100000 in
set_option maxHeartbeats 1600000 in
theorem rnamesV_ct (m : Md) (H1 : PH) (hM : m.In H1) (hn : (namesOf m).length ≤ 10000) : Ct Tryz.prog 41 [.agg [.slice m.psi m.si.length m.csi, .slice m.pfe m.fe.length m.cfe, .slice m.prk m.rk.length m.crk, .slice m.pmc m.mc.length m.cmc, .slice m.pln m.ln.length m.cln, .slice m.pis m.is.length m.cis, .int .i64 m.da, .int .i64 m.sl, .int .i64 m.re, .int .i64 m.fa, .slice m.prl m.rl.length m.crl].toArray] [H1] (fun v Hs => v = .bool (pB (NsV (namesOf m))) ∧ Hs = [H1]) := by
  refine Ct.body Tryz.func41 rfl Tryz.ntmps41 rfl ?_
  intro E F
  refine W.seq (W.region ?_)
  refine RL.e (Eff.box 101 _ rfl rfl) rfl ?_
  rintro _ _ ⟨b1, rfl, rfl⟩
  refine RL.q (Yld.assign rfl) rfl (RL.nil (N.next ?_))
  refine W.seq (W.region ?_)
  refine RL.q (Yld.ldW 101 Tryz.underlying29 sz29 rfl rfl rfl rfl) rfl ?_
  refine RL.e (Eff.call ent86 [1] [1, 160] (.cons rfl .nil) (rnames_ct m H1 hM hn) rfl rfl rfl rfl (by rintro _ _ ⟨_, _, _, _, _, rfl⟩; rfl)) rfl ?_
  rintro _ _ ⟨_, ⟨Hn, pn, cn, rfl, hOn, rfl⟩, rfl⟩
  have hSn := hOn.sl
  have hcn := hSn.len_le
  simp only [tz_len, maxLen] at hcn
  refine RL.q (Yld.assign rfl) rfl (RL.nil (N.next ?_))
  refine W.keep (.of [3] rfl) (.of [0, 1, 101, 160] rfl) ?_
  refine W.seq ?_
  refine W.seq (W.region ?_)
  refine RL.q (Yld.assign rfl) rfl (RL.nil (N.next ?_))
  refine W.block ?_
  refine W.loopK (ι := Nat) (fun j => (j ≤ (namesOf m).length ∧ NsUp (namesOf m) j)) (fun j => [(4, .int .i64 (j : Nat))]) (fun j => []) (fun j => (namesOf m).length - j) (.of [3] rfl) (.of [0, 1, 101, 160] rfl) 0 ?_ ?_ ?_ ?_
  · exact ⟨Nat.zero_le _, fun _ _ h => absurd h (Nat.not_lt_zero _)⟩
  · exact (.as rfl (by first | rfl | (simp; done) | (congr 1; simp; done) | (congr 1; omega)) .nil)
  · exact .nil
  rintro j ⟨hj, hU⟩
  refine W.keep (.of [4, 3] rfl) (.of [0, 1, 101, 160] rfl) ?_
  refine W.seq ?_
  refine W.seq (W.region ?_)
  refine RL.q (Yld.move rfl) rfl (RL.q (Yld.move rfl) rfl ?_)
  refine RL.q (Yld.lenSl Tryz.underlying22 rfl) rfl ?_
  refine RL.q (Yld.bin rfl rfl BinV.lss) rfl ?_
  refine RL.nil (N.next ?_)
  first | refine W.condD rfl (fun hc10 => ?_) (fun hc10 => ?_) | (refine W.cond rfl (fun hc10 => ?_) (fun hc10 => ?_) <;> try simp only [Bool.or_eq_true, Bool.and_eq_true, Bool.not_eq_true', Bool.not_eq_false', decide_eq_true_eq, Bool.or_eq_false_iff, Bool.and_eq_false_iff, decide_eq_false_iff_not, beq_iff_eq, beq_eq_false_iff_ne, ne_eq, Decidable.not_not] at hc10)
  ·
   obtain ⟨s, hs, hls⟩ := tz_at (show j < (namesOf m).length by omega)
   refine W.skip ?_
   refine N.next ?_
   refine W.keep (.of [3, 4] rfl) (.of [0, 1, 101, 160] rfl) ?_
   refine W.seq ?_
   refine W.block ?_
   refine W.seq ?_
   refine W.draw (.q 0 (.q 1 (.q 2 (.q 3 (.one 4 (.q 5 (.q 6 (.q 7 (.q 8 (.q 9 (.q 10 (.q 11 (.q 12 (.q 13 (.one 14 (.q 15 .done)))))))))))))))) (.of [0, 1, 101, 160] rfl) mix (by kernel_rfl) (by kernel_rfl) ?_
   refine DL.q rfl (Yld.move rfl) rfl ?_
   refine DL.q rfl (Yld.move rfl) rfl ?_
   refine DL.q rfl (Yld.ixr Tryz.underlying22 sz9 rfl rfl) rfl ?_
   refine DL.q rfl (by first | exact (by first | exact Yld.loadRow1 (cl := 1) Tryz.underlying9 rfl rfl rfl (by first | assumption | exact Own.sl (by assumption)) (by assumption) | exact Yld.loadRow1 (cl := 101) Tryz.underlying9 rfl rfl rfl (by first | assumption | exact Own.sl (by assumption)) (by assumption) | exact Yld.loadRow1 (cl := 160) Tryz.underlying9 rfl rfl rfl (by first | assumption | exact Own.sl (by assumption)) (by assumption)) | exact (by first | exact Yld.lrF 1 0 Tryz.underlying9 rfl rfl rfl rfl | exact Yld.lrF 101 0 Tryz.underlying9 rfl rfl rfl rfl | exact Yld.lrF 160 0 Tryz.underlying9 rfl rfl rfl rfl)) rfl ?_
   refine DL.one rfl (Eff.call ent87 [] [] (.cons rfl .nil) (risName_ct s) rfl rfl rfl rfl (by rintro _ _ ⟨_, rfl⟩; rfl)) rfl (by rintro _ _ ⟨_, ⟨rfl, rfl⟩, rfl⟩; repeat (first | exact .nil | refine .cons rfl ?_)) ?_
   rintro _ _ ⟨_, ⟨rfl, rfl⟩, rfl⟩
   refine DL.q rfl Yld.nt rfl ?_
   refine DL.q rfl (Yld.move rfl) rfl ?_
   refine' DL.or (t := 19) (d := 28) 9 rfl (.of [3, 4, 13, 14, 15, 16, 17, 18] rfl) (.of [0, 1, 101, 160] rfl) ?_ ?_ ?_
   rotate_left 1
   ·
    intro hg19
    refine DL.gq rfl rfl rfl (Yld.move rfl) rfl ?_
    refine DL.gq rfl rfl rfl (Yld.move rfl) rfl ?_
    refine DL.gq rfl rfl rfl (Yld.sliceH Tryz.underlying22 sz9 rfl rfl (by omega) (by first | omega | (simp; done) | (simp; omega))) rfl ?_
    refine DL.gq rfl rfl rfl (Yld.move rfl) rfl ?_
    refine DL.gq rfl rfl rfl (Yld.move rfl) rfl ?_
    refine DL.gq rfl rfl rfl (Yld.ixr Tryz.underlying22 sz9 rfl rfl) rfl ?_
    refine DL.gq rfl rfl rfl (by first | exact (by first | exact Yld.loadRow1 (cl := 1) Tryz.underlying9 rfl rfl rfl (by first | assumption | exact Own.sl (by assumption)) (by assumption) | exact Yld.loadRow1 (cl := 101) Tryz.underlying9 rfl rfl rfl (by first | assumption | exact Own.sl (by assumption)) (by assumption) | exact Yld.loadRow1 (cl := 160) Tryz.underlying9 rfl rfl rfl (by first | assumption | exact Own.sl (by assumption)) (by assumption)) | exact (by first | exact Yld.lrF 1 0 Tryz.underlying9 rfl rfl rfl rfl | exact Yld.lrF 101 0 Tryz.underlying9 rfl rfl rfl rfl | exact Yld.lrF 160 0 Tryz.underlying9 rfl rfl rfl rfl)) rfl ?_
    refine DL.gone rfl rfl rfl (Eff.call ent88 [160] [160] (.cons rfl (.cons rfl .nil)) (rhas_ct ((namesOf m).take j) Hn pn cn j (by rw [List.length_take]; omega) (by rw [tz, List.map_take]; exact hSn.take j) s) rfl rfl rfl rfl (by rintro _ _ ⟨_, rfl⟩; rfl)) rfl (by rintro _ _ ⟨_, ⟨rfl, rfl⟩, rfl⟩; repeat (first | exact .nil | refine .cons rfl ?_)) ?_
    rintro _ _ ⟨_, ⟨rfl, rfl⟩, rfl⟩
    refine DL.q rfl Yld.pk rfl ?_
    exact DL.meet (.to rfl) (.to rfl)
   ·
    intro hg19
    refine DL.gskip rfl rfl rfl rfl rfl ?_
    refine DL.gskip rfl rfl rfl rfl rfl ?_
    refine DL.gskip rfl rfl rfl rfl rfl ?_
    refine DL.gskip rfl rfl rfl rfl rfl ?_
    refine DL.gskip rfl rfl rfl rfl rfl ?_
    refine DL.gskip rfl rfl rfl rfl rfl ?_
    refine DL.gskip rfl rfl rfl rfl rfl ?_
    refine DL.gskip1 rfl rfl rfl rfl rfl ?_
    refine DL.q rfl Yld.pk rfl ?_
    exact DL.meet (.to rfl) (.to rfl)
   refine DL.done ?_
   refine N.next ?_
   refine W.keep (.of [3, 4, 28] rfl) (.of [0, 1, 101, 160] rfl) ?_
   refine W.cond rfl (fun hc28 => ?_) (fun hc28 => ?_)
   ·
    have hbad : ¬ NsV (namesOf m) := fun h => by
      obtain ⟨h1, h2⟩ := h j s (List.getElem?_eq_some_iff.1 hs).1 hs
      rw [nameB_iff.2 h1, pB_not h2] at hc28
      cases hc28
    refine W.seq (W.region ?_)
    refine RL.q (Yld.assign rfl) rfl (RL.nil (N.next ?_))
    refine W.ret ?_
    refine N.block_ret ?_
    refine N.then_ret ?_
    refine N.then_ret ?_
    refine N.block_ret ?_
    refine N.then_ret ?_
    exact N.retBy [1] (.cons (.tmp rfl) .nil) rfl rfl rfl rfl ⟨by rw [pB_not hbad]; rfl, rfl⟩
   ·
    rw [Bool.or_eq_false_iff, Bool.not_eq_false', nameB_iff, pB_f] at hc28
    refine W.skip ?_
    refine N.block_normal ?_
    refine N.next ?_
    refine W.region ?_
    refine RL.q (Yld.move rfl) rfl ?_
    refine RL.q (Yld.bin rfl rfl (by first | exact BinV.add (by omega) (by omega) | exact BinV.addW)) rfl ?_
    refine RL.q (Yld.assign rfl) rfl (RL.nil ?_)
    exact N.famK (j + 1) ⟨⟨by omega, hU.step hs hc28.1 hc28.2⟩, by omega⟩ (.as rfl (by first | rfl | (simp; done) | (congr 1; simp; done) | (congr 1; omega)) .nil) (.to rfl) .nil (.to rfl)
  ·
   refine W.exit ?_
   refine N.then_exit ?_
   refine N.then_exit ?_
   refine N.block_eq ?_
   refine N.next ?_
   refine W.keep .nil (.of [0, 1, 101, 160] rfl) ?_
   refine W.seq (W.region ?_)
   refine RL.q (Yld.assign rfl) rfl (RL.nil (N.next ?_))
   refine W.ret ?_
   exact N.retBy [1] (.cons (.tmp rfl) .nil) rfl rfl rfl rfl ⟨by rw [pB_true (show NsV (namesOf m) by unfold NsV; rw [← show j = (namesOf m).length by omega]; exact hU)]; rfl, rfl⟩
end Go.Proofs.YtboapdcmaeojgaaGreatDoor
namespace Go.Proofs.YtboapdcmaeojgaaGreatDoor
open SL Cat
set_option linter.unusedVariables false
set_option linter.unusedSimpArgs false
theorem ent89 : Ent Tryz.prog 89 := ⟨_, _, Tryz.func89, by kernel_rfl, rfl⟩
theorem ent45 : Ent Tryz.prog 45 := ⟨_, _, Tryz.func45, by kernel_rfl, rfl⟩
set_option maxRecDepth 100000 in
set_option maxHeartbeats 1600000 in
theorem rmachines_ct (m : Md) (H1 : PH) (hM : m.In H1) (l : List Int) (p : Option Addr) (c : Nat) (hl : Sl H1 p c 1 (iz l)) : Ct Tryz.prog 89 [.agg [.slice m.psi m.si.length m.csi, .slice m.pfe m.fe.length m.cfe, .slice m.prk m.rk.length m.crk, .slice m.pmc m.mc.length m.cmc, .slice m.pln m.ln.length m.cln, .slice m.pis m.is.length m.cis, .int .i64 m.da, .int .i64 m.sl, .int .i64 m.re, .int .i64 m.fa, .slice m.prl m.rl.length m.crl].toArray, .slice p l.length c] [H1] (fun v Hs => v = .bool (pB (MsV m.mc.length l)) ∧ Hs = [H1]) := by
  refine Ct.body Tryz.func89 rfl Tryz.ntmps89 rfl ?_
  intro E F
  have hmxl := hl.len_le
  simp only [iz_len, maxLen] at hmxl
  refine W.seq (W.region ?_)
  refine RL.e (Eff.box 102 _ rfl rfl) rfl ?_
  rintro _ _ ⟨b2, rfl, rfl⟩
  refine RL.q (Yld.assign rfl) rfl (RL.nil (N.next ?_))
  refine W.seq ?_
  refine W.seq (W.region ?_)
  refine RL.q (Yld.assign rfl) rfl (RL.nil (N.next ?_))
  refine W.block ?_
  refine W.loopK (ι := Nat) (fun j => (j ≤ l.length ∧ MsUp m.mc.length l j)) (fun j => [(5, .int .i64 (j : Nat))]) (fun j => []) (fun j => l.length - j) (.of [1, 2] rfl) (.of [0, 1, 102] rfl) 0 ?_ ?_ ?_ ?_
  · exact ⟨Nat.zero_le _, fun _ _ h => absurd h (Nat.not_lt_zero _)⟩
  · exact (.as rfl (by first | rfl | (simp; done) | (congr 1; simp; done) | (congr 1; omega)) .nil)
  · exact .nil
  rintro j ⟨hj, hI⟩
  refine W.keep (.of [5, 1, 2] rfl) (.of [0, 1, 102] rfl) ?_
  refine W.seq ?_
  refine W.seq (W.region ?_)
  refine RL.q (Yld.move rfl) rfl (RL.q (Yld.move rfl) rfl ?_)
  refine RL.q (Yld.lenSl Tryz.underlying55 rfl) rfl ?_
  refine RL.q (Yld.bin rfl rfl BinV.lss) rfl ?_
  refine RL.nil (N.next ?_)
  first | refine W.condD rfl (fun hc9 => ?_) (fun hc9 => ?_) | (refine W.cond rfl (fun hc9 => ?_) (fun hc9 => ?_) <;> try simp only [Bool.or_eq_true, Bool.and_eq_true, Bool.not_eq_true', Bool.not_eq_false', decide_eq_true_eq, Bool.or_eq_false_iff, Bool.and_eq_false_iff, decide_eq_false_iff_not, beq_iff_eq, beq_eq_false_iff_ne, ne_eq, Decidable.not_not] at hc9)
  ·
   obtain ⟨z, hz, hlz⟩ := iz_at (show j < l.length by omega)
   obtain ⟨y, hy⟩ : ∃ y, l[((j : Int) - 1).toNat]? = some y := ⟨_, List.getElem?_eq_getElem (by omega)⟩
   have hly : (iz l)[((j : Int) - 1).toNat]? = some [.int .i64 y] := iz_get hy
   have hyy : 0 < j → l[j - 1]? = some y := fun h => by rw [← hy]; congr 1; omega
   refine W.skip ?_
   refine N.next ?_
   refine W.keep (.of [1, 2, 5] rfl) (.of [0, 1, 102] rfl) ?_
   refine W.seq ?_
   refine W.block ?_
   refine W.seq ?_
   refine W.draw (.q 0 (.q 1 (.q 2 (.q 3 (.q 4 (.q 5 (.q 6 (.one 7 (.q 8 (.q 9 (.q 10 (.q 11 (.q 12 (.q 13 (.q 14 (.q 15 (.q 16 (.q 17 (.q 18 (.q 19 (.q 20 (.q 21 (.q 22 (.q 23 (.q 24 .done))))))))))))))))))))))))) (.of [0, 1, 102] rfl) mix (by kernel_rfl) (by kernel_rfl) ?_
   refine DL.q rfl (Yld.move rfl) rfl ?_
   refine DL.q rfl (Yld.move rfl) rfl ?_
   refine DL.q rfl (Yld.ixr Tryz.underlying55 sz3 rfl rfl) rfl ?_
   refine DL.q rfl (by first | exact (by first | exact Yld.loadRow1 (cl := 1) Tryz.underlying3 rfl rfl rfl (by first | assumption | exact Own.sl (by assumption)) (by assumption) | exact Yld.loadRow1 (cl := 102) Tryz.underlying3 rfl rfl rfl (by first | assumption | exact Own.sl (by assumption)) (by assumption)) | exact (by first | exact Yld.lrF 1 0 Tryz.underlying3 rfl rfl rfl rfl | exact Yld.lrF 102 0 Tryz.underlying3 rfl rfl rfl rfl)) rfl ?_
   refine DL.q rfl (Yld.fieldAddr fo29_3 rfl) rfl ?_
   refine DL.q rfl (Yld.ld 102 Tryz.underlying24 rfl rfl rfl rfl) rfl ?_
   refine DL.q rfl (Yld.lenSl Tryz.underlying24 rfl) rfl ?_
   refine DL.one rfl (Eff.call ent44 [] [] (.cons rfl (.cons rfl .nil)) (rexists_ct z m.mc.length) rfl rfl rfl rfl (by rintro _ _ ⟨_, rfl⟩; rfl)) rfl (by rintro _ _ ⟨_, ⟨rfl, rfl⟩, rfl⟩; repeat (first | exact .nil | refine .cons rfl ?_)) ?_
   rintro _ _ ⟨_, ⟨rfl, rfl⟩, rfl⟩
   refine DL.q rfl Yld.nt rfl ?_
   refine DL.q rfl (Yld.move rfl) rfl ?_
   refine' DL.or (t := 21) (d := 36) 15 rfl (.of [1, 2, 5, 12, 13, 14, 15, 16, 17, 18, 19, 20] rfl) (.of [0, 1, 102] rfl) ?_ ?_ ?_
   rotate_left 1
   ·
    intro hg21
    refine DL.gq rfl rfl rfl (Yld.move rfl) rfl ?_
    refine DL.gq rfl rfl rfl (Yld.bin rfl rfl BinV.gtr) rfl ?_
    refine DL.gq rfl rfl rfl (Yld.move rfl) rfl ?_
    refine' DL.and (t := 24) (d := 35) 11 rfl (.of [1, 2, 5, 12, 13, 14, 15, 16, 17, 18, 19, 20, 21, 22, 23] rfl) (.of [0, 1, 102] rfl) ?_ ?_ ?_
    rotate_left 1
    ·
     intro hg24
     have hg24 := of_decide_eq_true hg24
     refine DL.gq rfl rfl rfl (Yld.move rfl) rfl ?_
     refine DL.gq rfl rfl rfl (Yld.move rfl) rfl ?_
     refine DL.gq rfl rfl rfl (Yld.bin rfl rfl (by first | exact BinV.sub (by omega) (by omega) | exact BinV.subW)) rfl ?_
     refine DL.gq rfl rfl rfl (Yld.ixr Tryz.underlying55 sz3 rfl rfl) rfl ?_
     refine DL.gq rfl rfl rfl (by first | exact (by first | exact Yld.loadRow1 (cl := 1) Tryz.underlying3 rfl rfl rfl (by first | assumption | exact Own.sl (by assumption)) (by assumption) | exact Yld.loadRow1 (cl := 102) Tryz.underlying3 rfl rfl rfl (by first | assumption | exact Own.sl (by assumption)) (by assumption)) | exact (by first | exact Yld.lrF 1 0 Tryz.underlying3 rfl rfl rfl rfl | exact Yld.lrF 102 0 Tryz.underlying3 rfl rfl rfl rfl)) rfl ?_
     refine DL.gq rfl rfl rfl (Yld.move rfl) rfl ?_
     refine DL.gq rfl rfl rfl (Yld.move rfl) rfl ?_
     refine DL.gq rfl rfl rfl (Yld.ixr Tryz.underlying55 sz3 rfl rfl) rfl ?_
     refine DL.gq rfl rfl rfl (by first | exact (by first | exact Yld.loadRow1 (cl := 1) Tryz.underlying3 rfl rfl rfl (by first | assumption | exact Own.sl (by assumption)) (by assumption) | exact Yld.loadRow1 (cl := 102) Tryz.underlying3 rfl rfl rfl (by first | assumption | exact Own.sl (by assumption)) (by assumption)) | exact (by first | exact Yld.lrF 1 0 Tryz.underlying3 rfl rfl rfl rfl | exact Yld.lrF 102 0 Tryz.underlying3 rfl rfl rfl rfl)) rfl ?_
     refine DL.gq rfl rfl rfl (Yld.bin rfl rfl BinV.geq) rfl ?_
     refine DL.gq rfl rfl rfl Yld.pk rfl ?_
     exact DL.meet (.to rfl) (.to rfl)
    ·
     intro hg24
     refine DL.gskip rfl rfl rfl rfl rfl ?_
     refine DL.gskip rfl rfl rfl rfl rfl ?_
     refine DL.gskip rfl rfl rfl rfl rfl ?_
     refine DL.gskip rfl rfl rfl rfl rfl ?_
     refine DL.gskip rfl rfl rfl rfl rfl ?_
     refine DL.gskip rfl rfl rfl rfl rfl ?_
     refine DL.gskip rfl rfl rfl rfl rfl ?_
     refine DL.gskip rfl rfl rfl rfl rfl ?_
     refine DL.gskip rfl rfl rfl rfl rfl ?_
     refine DL.gskip rfl rfl rfl rfl rfl ?_
     refine DL.gq rfl rfl rfl Yld.pk rfl ?_
     exact DL.meet (.to rfl) (.to rfl)
    refine DL.q rfl Yld.pk rfl ?_
    exact DL.meet (.to rfl) (.to rfl)
   ·
    intro hg21
    refine DL.gskip rfl rfl rfl rfl rfl ?_
    refine DL.gskip rfl rfl rfl rfl rfl ?_
    refine DL.gskip rfl rfl rfl rfl rfl ?_
    refine DL.gskipU rfl rfl rfl rfl ?_
    refine DL.gskipU rfl rfl rfl rfl ?_
    refine DL.gskipU rfl rfl rfl rfl ?_
    refine DL.gskipU rfl rfl rfl rfl ?_
    refine DL.gskipU rfl rfl rfl rfl ?_
    refine DL.gskipU rfl rfl rfl rfl ?_
    refine DL.gskipU rfl rfl rfl rfl ?_
    refine DL.gskipU rfl rfl rfl rfl ?_
    refine DL.gskipU rfl rfl rfl rfl ?_
    refine DL.gskipU rfl rfl rfl rfl ?_
    refine DL.gskip rfl rfl rfl rfl rfl ?_
    refine DL.q rfl Yld.pk rfl ?_
    exact DL.meet (.to rfl) (.to rfl)
   refine DL.done ?_
   refine N.next ?_
   refine W.keep (.of [1, 2, 5, 36] rfl) (.of [0, 1, 102] rfl) ?_
   refine W.cond rfl (fun hc36 => ?_) (fun hc36 => ?_)
   ·
    have hnv : ¬ MsV m.mc.length l := fun h => by
      obtain ⟨h1, h2⟩ := h.2 j z (by omega) hz
      simp only [Bool.or_eq_true, Bool.and_eq_true, Bool.not_eq_true', decide_eq_true_eq, decide_eq_false_iff_not, Classical.not_not] at hc36
      rcases hc36 with h3 | ⟨h3, h4⟩
      · exact h3 h1
      · have := h2 (by omega) y (hyy (by omega)); omega
    refine W.seq (W.region ?_)
    refine RL.q (Yld.assign rfl) rfl (RL.nil (N.next ?_))
    refine W.keep (.of [4] rfl) (.of [0, 1, 102] rfl) ?_
    refine W.ret ?_
    refine N.block_ret ?_
    refine N.then_ret ?_
    refine N.then_ret ?_
    refine N.block_ret ?_
    refine N.then_ret ?_
    exact N.retBy [1] (.cons (.tmp rfl) .nil) rfl rfl rfl rfl ⟨by rw [pB_not hnv]; rfl, rfl⟩
   ·
    simp only [Bool.or_eq_false_iff, Bool.and_eq_false_iff, Bool.not_eq_false', decide_eq_true_eq, decide_eq_false_iff_not, Classical.not_not] at hc36
    have hst : MsUp m.mc.length l (j + 1) := hI.step hz hc36.1 fun h0 w hw => by
      rw [hyy h0] at hw; cases hw
      have := hc36.2; omega
    refine W.skip ?_
    refine N.block_normal ?_
    refine N.next ?_
    refine W.region ?_
    refine RL.q (Yld.move rfl) rfl ?_
    refine RL.q (Yld.bin rfl rfl (by first | exact BinV.add (by omega) (by omega) | exact BinV.addW)) rfl ?_
    refine RL.q (Yld.assign rfl) rfl (RL.nil ?_)
    exact N.famK (j + 1) ⟨⟨by omega, hst⟩, by omega⟩ (.as rfl (by first | rfl | (simp; done) | (congr 1; simp; done) | (congr 1; omega)) .nil) (.to rfl) .nil (.to rfl)
  ·
   refine W.exit ?_
   refine N.then_exit ?_
   refine N.then_exit ?_
   refine N.block_eq ?_
   refine N.next ?_
   refine W.keep (.of [1] rfl) (.of [0, 1, 102] rfl) ?_
   refine W.seq (W.region ?_)
   refine RL.q (Yld.move rfl) rfl ?_
   refine RL.q (Yld.lenSl Tryz.underlying55 rfl) rfl ?_
   refine RL.q (Yld.bin rfl rfl BinV.gtr) rfl ?_
   refine RL.q (Yld.assign rfl) rfl (RL.nil (N.next ?_))
   refine W.keep (.of [4] rfl) (.of [0, 1, 102] rfl) ?_
   refine W.ret ?_
   exact N.retBy [1] (.cons (.tmp rfl) .nil) rfl rfl rfl rfl ⟨by show Value.bool _ = Value.bool _; congr 1; rw [Bool.eq_iff_iff]; rw [pB_iff, decide_eq_true_eq]; exact ⟨fun h => ⟨by omega, by rw [← show j = l.length by omega]; exact hI⟩, fun h => by have := h.1; omega⟩, rfl⟩
set_option maxRecDepth 100000 in
set_option maxHeartbeats 3200000 in
theorem ritem_ct (m : Md) (H1 : PH) (hM : m.In H1) (x : It) (hon : Sl H1 x.po x.co 1 (iz x.on)) : Ct Tryz.prog 42 [.agg [.slice m.psi m.si.length m.csi, .slice m.pfe m.fe.length m.cfe, .slice m.prk m.rk.length m.crk, .slice m.pmc m.mc.length m.cmc, .slice m.pln m.ln.length m.cln, .slice m.pis m.is.length m.cis, .int .i64 m.da, .int .i64 m.sl, .int .i64 m.re, .int .i64 m.fa, .slice m.prl m.rl.length m.crl].toArray, .agg [.string x.nm, .int .i64 x.kd, .int .i64 x.cnt, .int .i64 x.ld, .int .i64 x.sz, .int .i64 x.sh, .slice x.po x.on.length x.co].toArray] [H1] (fun v Hs => v = .bool (itB m x) ∧ Hs = [H1]) := by
  refine Ct.body Tryz.func42 rfl Tryz.ntmps42 rfl ?_
  intro E F
  refine W.seq (W.region ?_)
  refine RL.e (Eff.box 102 _ rfl rfl) rfl ?_
  rintro _ _ ⟨b2, rfl, rfl⟩
  refine RL.e (Eff.box 103 _ rfl rfl) rfl ?_
  rintro _ _ ⟨b3, rfl, rfl⟩
  refine RL.q (Yld.assign rfl) rfl (RL.nil (N.next ?_))
  refine W.seq ?_
  refine W.seq (W.region ?_)
  refine RL.q (Yld.ldW 102 Tryz.underlying29 sz29 rfl rfl rfl rfl) rfl ?_
  refine RL.q (Yld.fieldAddr fo64_6 rfl) rfl ?_
  refine RL.q (Yld.ld 103 Tryz.underlying55 rfl rfl rfl rfl) rfl ?_
  refine RL.e (Eff.call ent89 [1] [1] (.cons rfl (.cons rfl .nil)) (rmachines_ct m H1 hM x.on _ _ hon) rfl rfl rfl rfl (by rintro _ _ ⟨_, rfl⟩; rfl)) rfl ?_
  rintro _ _ ⟨_, ⟨rfl, rfl⟩, rfl⟩
  refine RL.q Yld.nt rfl (RL.q (Yld.move rfl) rfl ?_)
  refine' RL.or (t := 10) (d := 15) 5 rfl (.of [0, 1, 2, 3, 4, 5, 6, 7, 8, 9] rfl) (.of [0, 1, 102, 103] rfl) ?_ ?_ ?_
  rotate_left 1
  ·
   intro hg10
   refine RL.gq rfl rfl (Yld.fieldAddr fo64_3 rfl) rfl ?_
   refine RL.gq rfl rfl (Yld.ld 103 Tryz.underlying3 rfl rfl rfl rfl) rfl ?_
   refine RL.ge rfl rfl (Eff.call ent45 [] [] (.cons rfl (.cons rfl (.cons rfl .nil))) (rwithin_ct x.ld 0 1048576) rfl rfl rfl rfl (by rintro _ _ ⟨_, rfl⟩; rfl)) rfl ?_
   rintro _ _ ⟨_, ⟨rfl, rfl⟩, rfl⟩
   refine RL.gq rfl rfl Yld.nt rfl ?_
   refine RL.q Yld.pk rfl ?_
   exact RL.nil (N.meet (.to rfl) (.to rfl))
  ·
   intro hg10
   refine RL.gskip rfl rfl rfl rfl ?_
   refine RL.gskip rfl rfl rfl rfl ?_
   refine RL.gskip rfl rfl rfl rfl ?_
   refine RL.gskip rfl rfl rfl rfl ?_
   refine RL.q Yld.pk rfl ?_
   exact RL.nil (N.meet (.to rfl) (.to rfl))
  refine RL.q (Yld.move rfl) rfl ?_
  refine' RL.or (t := 16) (d := 21) 5 rfl (.of [0, 1, 2, 3, 4, 5, 6, 7, 8, 9, 15] rfl) (.of [0, 1, 102, 103] rfl) ?_ ?_ ?_
  rotate_left 1
  ·
   intro hg16
   refine RL.gq rfl rfl (Yld.fieldAddr fo64_4 rfl) rfl ?_
   refine RL.gq rfl rfl (Yld.ld 103 Tryz.underlying3 rfl rfl rfl rfl) rfl ?_
   refine RL.ge rfl rfl (Eff.call ent45 [] [] (.cons rfl (.cons rfl (.cons rfl .nil))) (rwithin_ct x.sz 0 1048576) rfl rfl rfl rfl (by rintro _ _ ⟨_, rfl⟩; rfl)) rfl ?_
   rintro _ _ ⟨_, ⟨rfl, rfl⟩, rfl⟩
   refine RL.gq rfl rfl Yld.nt rfl ?_
   refine RL.q Yld.pk rfl ?_
   exact RL.nil (N.meet (.to rfl) (.to rfl))
  ·
   intro hg16
   refine RL.gskip rfl rfl rfl rfl ?_
   refine RL.gskip rfl rfl rfl rfl ?_
   refine RL.gskip rfl rfl rfl rfl ?_
   refine RL.gskip rfl rfl rfl rfl ?_
   refine RL.q Yld.pk rfl ?_
   exact RL.nil (N.meet (.to rfl) (.to rfl))
  refine RL.q (Yld.move rfl) rfl ?_
  refine' RL.or (t := 22) (d := 27) 5 rfl (.of [0, 1, 2, 3, 4, 5, 6, 7, 8, 9, 15, 21] rfl) (.of [0, 1, 102, 103] rfl) ?_ ?_ ?_
  rotate_left 1
  ·
   intro hg22
   refine RL.gq rfl rfl (Yld.fieldAddr fo64_5 rfl) rfl ?_
   refine RL.gq rfl rfl (Yld.ld 103 Tryz.underlying3 rfl rfl rfl rfl) rfl ?_
   refine RL.ge rfl rfl (Eff.call ent45 [] [] (.cons rfl (.cons rfl (.cons rfl .nil))) (rwithin_ct x.sh 1 1048576) rfl rfl rfl rfl (by rintro _ _ ⟨_, rfl⟩; rfl)) rfl ?_
   rintro _ _ ⟨_, ⟨rfl, rfl⟩, rfl⟩
   refine RL.gq rfl rfl Yld.nt rfl ?_
   refine RL.q Yld.pk rfl ?_
   exact RL.nil (N.meet (.to rfl) (.to rfl))
  ·
   intro hg22
   refine RL.gskip rfl rfl rfl rfl ?_
   refine RL.gskip rfl rfl rfl rfl ?_
   refine RL.gskip rfl rfl rfl rfl ?_
   refine RL.gskip rfl rfl rfl rfl ?_
   refine RL.q Yld.pk rfl ?_
   exact RL.nil (N.meet (.to rfl) (.to rfl))
  refine RL.nil (N.next ?_)
  refine W.keep (.of [3, 27] rfl) (.of [0, 1, 102, 103] rfl) ?_
  refine W.cond rfl (fun hc27 => ?_) (fun hc27 => ?_)
  ·
   have hib : itB m x = false := by
     unfold itB
     simp only [Bool.or_eq_true, Bool.not_eq_true', decide_eq_true_eq] at hc27
     rcases hc27 with ((h | h) | h) | h <;> simp [h]
   refine W.seq (W.region ?_)
   refine RL.q (Yld.assign rfl) rfl (RL.nil (N.next ?_))
   refine W.ret ?_
   refine N.then_ret ?_
   exact N.retBy [1] (.cons (.tmp rfl) .nil) rfl rfl rfl rfl ⟨by rw [hib]; rfl, rfl⟩
  ·
   have hib : itB m x = countV x := by
     unfold itB
     simp only [Bool.or_eq_false_iff, Bool.not_eq_false', decide_eq_false_iff_not, Classical.not_not] at hc27
     rw [hc27.1.1.1, decide_eq_true hc27.1.1.2, decide_eq_true hc27.1.2, decide_eq_true hc27.2]; simp
   refine W.skip ?_
   refine N.next ?_
   refine W.seq ?_
   refine W.seq (W.region ?_)
   refine RL.q (Yld.fieldAddr fo64_1 rfl) rfl ?_
   refine RL.q (Yld.ld 103 Tryz.underlying3 rfl rfl rfl rfl) rfl ?_
   refine RL.nil (N.next ?_)
   refine W.block ?_
   refine W.seq (W.region ?_)
   refine RL.q (Yld.bin rfl rfl BinV.eql) rfl ?_
   refine RL.q (Yld.assign rfl) rfl (RL.nil (N.next ?_))
   first | refine W.condD rfl (fun hc30 => ?_) (fun hc30 => ?_) | (refine W.cond rfl (fun hc30 => ?_) (fun hc30 => ?_) <;> try simp only [Bool.or_eq_true, Bool.and_eq_true, Bool.not_eq_true', Bool.not_eq_false', decide_eq_true_eq, Bool.or_eq_false_iff, Bool.and_eq_false_iff, decide_eq_false_iff_not, beq_iff_eq, beq_eq_false_iff_ne, ne_eq, Decidable.not_not] at hc30)
   ·
    refine W.seq (W.region ?_)
    refine RL.q (Yld.fieldAddr fo64_2 rfl) rfl ?_
    refine RL.q (Yld.ld 103 Tryz.underlying3 rfl rfl rfl rfl) rfl ?_
    refine RL.q (Yld.bin rfl rfl BinV.eql) rfl ?_
    refine RL.q (Yld.move rfl) rfl ?_
    refine' RL.or (t := 35) (d := 39) 4 rfl (.of [3, 27, 28, 29, 30, 31, 32, 33, 34] rfl) (.of [0, 1, 102, 103] rfl) ?_ ?_ ?_
    rotate_left 1
    ·
     intro hg35
     refine RL.gq rfl rfl (Yld.fieldAddr fo64_2 rfl) rfl ?_
     refine RL.gq rfl rfl (Yld.ld 103 Tryz.underlying3 rfl rfl rfl rfl) rfl ?_
     refine RL.gq rfl rfl (Yld.bin rfl rfl BinV.eql) rfl ?_
     refine RL.q Yld.pk rfl ?_
     exact RL.nil (N.meet (.to rfl) (.to rfl))
    ·
     intro hg35
     refine RL.gskip rfl rfl rfl rfl ?_
     refine RL.gskip rfl rfl rfl rfl ?_
     refine RL.gskip rfl rfl rfl rfl ?_
     refine RL.q Yld.pk rfl ?_
     exact RL.nil (N.meet (.to rfl) (.to rfl))
    refine RL.q (Yld.move rfl) rfl ?_
    refine' RL.or (t := 40) (d := 44) 4 rfl (.of [3, 27, 28, 29, 30, 31, 32, 33, 34, 39] rfl) (.of [0, 1, 102, 103] rfl) ?_ ?_ ?_
    rotate_left 1
    ·
     intro hg40
     refine RL.gq rfl rfl (Yld.fieldAddr fo64_2 rfl) rfl ?_
     refine RL.gq rfl rfl (Yld.ld 103 Tryz.underlying3 rfl rfl rfl rfl) rfl ?_
     refine RL.gq rfl rfl (Yld.bin rfl rfl BinV.eql) rfl ?_
     refine RL.q Yld.pk rfl ?_
     exact RL.nil (N.meet (.to rfl) (.to rfl))
    ·
     intro hg40
     refine RL.gskip rfl rfl rfl rfl ?_
     refine RL.gskip rfl rfl rfl rfl ?_
     refine RL.gskip rfl rfl rfl rfl ?_
     refine RL.q Yld.pk rfl ?_
     exact RL.nil (N.meet (.to rfl) (.to rfl))
    refine RL.q (Yld.move rfl) rfl ?_
    refine' RL.and (t := 45) (d := 52) 7 rfl (.of [3, 27, 28, 29, 30, 31, 32, 33, 34, 39, 44] rfl) (.of [0, 1, 102, 103] rfl) ?_ ?_ ?_
    rotate_left 1
    ·
     intro hg45
     refine RL.gq rfl rfl (Yld.fieldAddr fo64_6 rfl) rfl ?_
     refine RL.gq rfl rfl (Yld.ld 103 Tryz.underlying55 rfl rfl rfl rfl) rfl ?_
     refine RL.gq rfl rfl (Yld.lenSl Tryz.underlying55 rfl) rfl ?_
     refine RL.gq rfl rfl (Yld.fieldAddr fo64_2 rfl) rfl ?_
     refine RL.gq rfl rfl (Yld.ld 103 Tryz.underlying3 rfl rfl rfl rfl) rfl ?_
     refine RL.gq rfl rfl (Yld.bin rfl rfl BinV.eql) rfl ?_
     refine RL.q Yld.pk rfl ?_
     exact RL.nil (N.meet (.to rfl) (.to rfl))
    ·
     intro hg45
     refine RL.gskip rfl rfl rfl rfl ?_
     refine RL.gskip rfl rfl rfl rfl ?_
     refine RL.gskip rfl rfl rfl rfl ?_
     refine RL.gskip rfl rfl rfl rfl ?_
     refine RL.gskip rfl rfl rfl rfl ?_
     refine RL.gskip rfl rfl rfl rfl ?_
     refine RL.q Yld.pk rfl ?_
     exact RL.nil (N.meet (.to rfl) (.to rfl))
    refine RL.q (Yld.assign rfl) rfl (RL.nil (N.next ?_))
    refine W.keep (.of [4] rfl) (.of [0, 1, 102, 103] rfl) ?_
    refine W.ret ?_
    refine N.block_ret ?_
    refine N.then_ret ?_
    exact N.retBy [1] (.cons (.tmp rfl) .nil) rfl rfl rfl rfl ⟨by rw [hib]; show Value.bool _ = Value.bool _; congr 1; rw [Bool.eq_iff_iff]; unfold countV; rw [if_pos hc30]; simp only [Bool.and_eq_true, Bool.or_eq_true, decide_eq_true_eq, List.mem_cons, List.not_mem_nil, or_false]; omega, rfl⟩
   ·
    refine W.seq (W.region ?_)
    refine RL.q (Yld.bin rfl rfl BinV.eql) rfl ?_
    refine RL.q (Yld.assign rfl) rfl (RL.nil (N.next ?_))
    refine W.keep (.of [3, 29, 53] rfl) (.of [0, 1, 102, 103] rfl) ?_
    first | refine W.condD rfl (fun hc53 => ?_) (fun hc53 => ?_) | (refine W.cond rfl (fun hc53 => ?_) (fun hc53 => ?_) <;> try simp only [Bool.or_eq_true, Bool.and_eq_true, Bool.not_eq_true', Bool.not_eq_false', decide_eq_true_eq, Bool.or_eq_false_iff, Bool.and_eq_false_iff, decide_eq_false_iff_not, beq_iff_eq, beq_eq_false_iff_ne, ne_eq, Decidable.not_not] at hc53)
    ·
     refine W.seq (W.region ?_)
     refine RL.q (Yld.fieldAddr fo64_2 rfl) rfl ?_
     refine RL.q (Yld.ld 103 Tryz.underlying3 rfl rfl rfl rfl) rfl ?_
     refine RL.q (Yld.bin rfl rfl BinV.eql) rfl ?_
     refine RL.q (Yld.move rfl) rfl ?_
     refine' RL.and (t := 58) (d := 63) 5 rfl (.of [3, 29, 53, 55, 56, 57] rfl) (.of [0, 1, 102, 103] rfl) ?_ ?_ ?_
     rotate_left 1
     ·
      intro hg58
      refine RL.gq rfl rfl (Yld.fieldAddr fo64_6 rfl) rfl ?_
      refine RL.gq rfl rfl (Yld.ld 103 Tryz.underlying55 rfl rfl rfl rfl) rfl ?_
      refine RL.gq rfl rfl (Yld.lenSl Tryz.underlying55 rfl) rfl ?_
      refine RL.gq rfl rfl (Yld.bin rfl rfl BinV.eql) rfl ?_
      refine RL.q Yld.pk rfl ?_
      exact RL.nil (N.meet (.to rfl) (.to rfl))
     ·
      intro hg58
      refine RL.gskip rfl rfl rfl rfl ?_
      refine RL.gskip rfl rfl rfl rfl ?_
      refine RL.gskip rfl rfl rfl rfl ?_
      refine RL.gskip rfl rfl rfl rfl ?_
      refine RL.q Yld.pk rfl ?_
      exact RL.nil (N.meet (.to rfl) (.to rfl))
     refine RL.q (Yld.assign rfl) rfl (RL.nil (N.next ?_))
     refine W.keep (.of [4] rfl) (.of [0, 1, 102, 103] rfl) ?_
     refine W.ret ?_
     refine N.block_ret ?_
     refine N.then_ret ?_
     exact N.retBy [1] (.cons (.tmp rfl) .nil) rfl rfl rfl rfl ⟨by rw [hib]; show Value.bool _ = Value.bool _; congr 1; rw [Bool.eq_iff_iff]; unfold countV; rw [if_neg hc30, if_neg (by omega), if_pos hc53], rfl⟩
    ·
     refine W.seq (W.region ?_)
     refine RL.q (Yld.bin rfl rfl BinV.eql) rfl ?_
     refine RL.q (Yld.assign rfl) rfl (RL.nil (N.next ?_))
     first | refine W.condD rfl (fun hc64 => ?_) (fun hc64 => ?_) | (refine W.cond rfl (fun hc64 => ?_) (fun hc64 => ?_) <;> try simp only [Bool.or_eq_true, Bool.and_eq_true, Bool.not_eq_true', Bool.not_eq_false', decide_eq_true_eq, Bool.or_eq_false_iff, Bool.and_eq_false_iff, decide_eq_false_iff_not, beq_iff_eq, beq_eq_false_iff_ne, ne_eq, Decidable.not_not] at hc64)
     ·
      refine W.seq (W.region ?_)
      refine RL.q (Yld.fieldAddr fo64_2 rfl) rfl ?_
      refine RL.q (Yld.ld 103 Tryz.underlying3 rfl rfl rfl rfl) rfl ?_
      refine RL.e (Eff.call ent45 [] [] (.cons rfl (.cons rfl (.cons rfl .nil))) (rwithin_ct x.cnt 1 8) rfl rfl rfl rfl (by rintro _ _ ⟨_, rfl⟩; rfl)) rfl ?_
      rintro _ _ ⟨_, ⟨rfl, rfl⟩, rfl⟩
      refine RL.q (Yld.assign rfl) rfl (RL.nil (N.next ?_))
      refine W.keep (.of [4] rfl) (.of [0, 1, 102, 103] rfl) ?_
      refine W.ret ?_
      refine N.block_ret ?_
      refine N.then_ret ?_
      exact N.retBy [1] (.cons (.tmp rfl) .nil) rfl rfl rfl rfl ⟨by rw [hib]; show Value.bool _ = Value.bool _; congr 1; rw [Bool.eq_iff_iff]; unfold countV; rw [if_neg hc30, if_pos hc64], rfl⟩
     ·
      refine W.skip ?_
      refine N.block_normal ?_
      refine N.next ?_
      refine W.keep .nil (.of [0, 1, 102, 103] rfl) ?_
      refine W.seq (W.region ?_)
      refine RL.q (Yld.assign rfl) rfl (RL.nil (N.next ?_))
      refine W.ret ?_
      exact N.retBy [1] (.cons (.tmp rfl) .nil) rfl rfl rfl rfl ⟨by rw [hib]; show Value.bool _ = Value.bool _; congr 1; rw [Bool.eq_iff_iff]; unfold countV; rw [if_neg hc30, if_neg hc64, if_neg hc53], rfl⟩
set_option maxRecDepth 100000 in
set_option maxHeartbeats 6400000 in
theorem rrule_ct (m : Md) (H1 : PH) (hM : m.In H1) (x : Rl) (hms : Sl H1 x.pm x.cm 1 (iz x.ms)) : Ct Tryz.prog 43 [.agg [.slice m.psi m.si.length m.csi, .slice m.pfe m.fe.length m.cfe, .slice m.prk m.rk.length m.crk, .slice m.pmc m.mc.length m.cmc, .slice m.pln m.ln.length m.cln, .slice m.pis m.is.length m.cis, .int .i64 m.da, .int .i64 m.sl, .int .i64 m.re, .int .i64 m.fa, .slice m.prl m.rl.length m.crl].toArray, .agg [.int .i64 x.kd, .int .i64 x.it, .int .i64 x.ot, .int .i64 x.n, .int .i64 x.bq, .bool x.al, .slice x.pm x.ms.length x.cm].toArray] [H1] (fun v Hs => v = .bool (rlB m x) ∧ Hs = [H1]) := by
  refine Ct.body Tryz.func43 rfl Tryz.ntmps43 rfl ?_
  intro E F
  have hMis := hM.is
  have hmi := hM.is.len_le
  simp only [List.length_map, maxLen] at hmi
  refine W.seq (W.region ?_)
  refine RL.e (Eff.box 102 _ rfl rfl) rfl ?_
  rintro _ _ ⟨b2, rfl, rfl⟩
  refine RL.e (Eff.box 103 _ rfl rfl) rfl ?_
  rintro _ _ ⟨b3, rfl, rfl⟩
  refine RL.q (Yld.assign rfl) rfl (RL.nil (N.next ?_))
  refine W.seq (W.region ?_)
  refine RL.q (Yld.fieldAddr fo97_1 rfl) rfl ?_
  refine RL.q (Yld.ld 103 Tryz.underlying3 rfl rfl rfl rfl) rfl ?_
  refine RL.q (Yld.fieldAddr fo29_5 rfl) rfl ?_
  refine RL.q (Yld.ld 102 Tryz.underlying26 rfl rfl rfl rfl) rfl ?_
  refine RL.q (Yld.lenSl Tryz.underlying26 rfl) rfl ?_
  refine RL.e (Eff.call ent44 [] [] (.cons rfl (.cons rfl .nil)) (rexists_ct x.it m.is.length) rfl rfl rfl rfl (by rintro _ _ ⟨_, rfl⟩; rfl)) rfl ?_
  rintro _ _ ⟨_, ⟨rfl, rfl⟩, rfl⟩
  refine RL.q (Yld.assign rfl) rfl (RL.nil (N.next ?_))
  refine W.keep (.of [2, 3, 5] rfl) (.of [0, 1, 102, 103] rfl) ?_
  refine W.seq (W.region ?_)
  refine RL.q (Yld.fieldAddr fo97_2 rfl) rfl ?_
  refine RL.q (Yld.ld 103 Tryz.underlying3 rfl rfl rfl rfl) rfl ?_
  refine RL.q (Yld.bin rfl rfl BinV.eql) rfl ?_
  refine RL.q (Yld.move rfl) rfl ?_
  refine' RL.and (t := 16) (d := 20) 4 rfl (.of [2, 3, 5, 13, 14, 15] rfl) (.of [0, 1, 102, 103] rfl) ?_ ?_ ?_
  rotate_left 1
  ·
   intro hg16
   refine RL.gq rfl rfl (Yld.fieldAddr fo97_4 rfl) rfl ?_
   refine RL.gq rfl rfl (Yld.ld 103 Tryz.underlying3 rfl rfl rfl rfl) rfl ?_
   refine RL.gq rfl rfl (Yld.bin rfl rfl BinV.eql) rfl ?_
   refine RL.q Yld.pk rfl ?_
   exact RL.nil (N.meet (.to rfl) (.to rfl))
  ·
   intro hg16
   refine RL.gskip rfl rfl rfl rfl ?_
   refine RL.gskip rfl rfl rfl rfl ?_
   refine RL.gskip rfl rfl rfl rfl ?_
   refine RL.q Yld.pk rfl ?_
   exact RL.nil (N.meet (.to rfl) (.to rfl))
  refine RL.q (Yld.move rfl) rfl ?_
  refine' RL.and (t := 21) (d := 25) 4 rfl (.of [2, 3, 5, 13, 14, 15, 20] rfl) (.of [0, 1, 102, 103] rfl) ?_ ?_ ?_
  rotate_left 1
  ·
   intro hg21
   refine RL.gq rfl rfl (Yld.fieldAddr fo97_5 rfl) rfl ?_
   refine RL.gq rfl rfl (Yld.ld 103 Tryz.underlying4 rfl rfl rfl rfl) rfl ?_
   refine RL.gq rfl rfl Yld.nt rfl ?_
   refine RL.q Yld.pk rfl ?_
   exact RL.nil (N.meet (.to rfl) (.to rfl))
  ·
   intro hg21
   refine RL.gskip rfl rfl rfl rfl ?_
   refine RL.gskip rfl rfl rfl rfl ?_
   refine RL.gskip rfl rfl rfl rfl ?_
   refine RL.q Yld.pk rfl ?_
   exact RL.nil (N.meet (.to rfl) (.to rfl))
  refine RL.q (Yld.move rfl) rfl ?_
  refine' RL.and (t := 26) (d := 31) 5 rfl (.of [2, 3, 5, 13, 14, 15, 20, 25] rfl) (.of [0, 1, 102, 103] rfl) ?_ ?_ ?_
  rotate_left 1
  ·
   intro hg26
   refine RL.gq rfl rfl (Yld.fieldAddr fo97_6 rfl) rfl ?_
   refine RL.gq rfl rfl (Yld.ld 103 Tryz.underlying55 rfl rfl rfl rfl) rfl ?_
   refine RL.gq rfl rfl (Yld.lenSl Tryz.underlying55 rfl) rfl ?_
   refine RL.gq rfl rfl (Yld.bin rfl rfl BinV.eql) rfl ?_
   refine RL.q Yld.pk rfl ?_
   exact RL.nil (N.meet (.to rfl) (.to rfl))
  ·
   intro hg26
   refine RL.gskip rfl rfl rfl rfl ?_
   refine RL.gskip rfl rfl rfl rfl ?_
   refine RL.gskip rfl rfl rfl rfl ?_
   refine RL.gskip rfl rfl rfl rfl ?_
   refine RL.q Yld.pk rfl ?_
   exact RL.nil (N.meet (.to rfl) (.to rfl))
  refine RL.q (Yld.assign rfl) rfl (RL.nil (N.next ?_))
  refine W.keep (.of [2, 3, 5, 6] rfl) (.of [0, 1, 102, 103] rfl) ?_
  refine W.seq ?_
  refine W.seq (W.region ?_)
  refine RL.q (Yld.fieldAddr fo97_0 rfl) rfl ?_
  refine RL.q (Yld.ld 103 Tryz.underlying3 rfl rfl rfl rfl) rfl ?_
  refine RL.nil (N.next ?_)
  refine W.block ?_
  refine W.seq (W.region ?_)
  refine RL.q (Yld.bin rfl rfl BinV.eql) rfl ?_
  refine RL.q (Yld.assign rfl) rfl (RL.nil (N.next ?_))
  first | refine W.condD rfl (fun hc34 => ?_) (fun hc34 => ?_) | (refine W.cond rfl (fun hc34 => ?_) (fun hc34 => ?_) <;> try simp only [Bool.or_eq_true, Bool.and_eq_true, Bool.not_eq_true', Bool.not_eq_false', decide_eq_true_eq, Bool.or_eq_false_iff, Bool.and_eq_false_iff, decide_eq_false_iff_not, beq_iff_eq, beq_eq_false_iff_ne, ne_eq, Decidable.not_not] at hc34)
  ·
   refine W.seq (W.region ?_)
   refine RL.q (Yld.move rfl) rfl (RL.q (Yld.move rfl) rfl ?_)
   refine' RL.and (t := 37) (d := 47) 10 rfl (.of [2, 3, 5, 6, 32, 33, 34, 35, 36] rfl) (.of [0, 1, 102, 103] rfl) ?_ ?_ ?_
   rotate_left 1
   ·
    intro hg37
    obtain ⟨hi1, hi2⟩ := of_decide_eq_true hg37
    obtain ⟨y, hy, hky⟩ := kdOf_in ⟨hi1, hi2⟩
    have hly : (m.is.map It.c)[(x.it - 1).toNat]? = some y.c := by rw [List.getElem?_map, hy]; rfl
    refine RL.gq rfl rfl (Yld.fieldAddr fo29_5 rfl) rfl ?_
    refine RL.gq rfl rfl (Yld.ld 102 Tryz.underlying26 rfl rfl rfl rfl) rfl ?_
    refine RL.gq rfl rfl (Yld.fieldAddr fo97_1 rfl) rfl ?_
    refine RL.gq rfl rfl (Yld.ld 103 Tryz.underlying3 rfl rfl rfl rfl) rfl ?_
    refine RL.gq rfl rfl (Yld.bin rfl rfl (by first | exact BinV.sub (by omega) (by omega) | exact BinV.subW)) rfl ?_
    refine RL.gq rfl rfl (Yld.ixr Tryz.underlying26 sz64 rfl rfl) rfl ?_
    refine RL.gq rfl rfl (Yld.fieldAddr fo64_1 rfl) rfl ?_
    refine RL.gq rfl rfl (Yld.eq (v' := .int .i64 (kdOf m x.it)) (by first | exact Yld.lrF 103 1 Tryz.underlying3 rfl rfl rfl rfl | exact Yld.lrF 102 1 Tryz.underlying3 rfl rfl rfl rfl | exact Yld.lrF 1 1 Tryz.underlying3 rfl rfl rfl rfl) (by rw [hky])) rfl ?_
    refine RL.gq rfl rfl (Yld.bin rfl rfl BinV.eql) rfl ?_
    refine RL.q Yld.pk rfl ?_
    exact RL.nil (N.meet (.to rfl) (.to rfl))
   ·
    intro hg37
    refine RL.gskip rfl rfl rfl rfl ?_
    refine RL.gskip rfl rfl rfl rfl ?_
    refine RL.gskip rfl rfl rfl rfl ?_
    refine RL.gskip rfl rfl rfl rfl ?_
    refine RL.gskip rfl rfl rfl rfl ?_
    refine RL.gskip rfl rfl rfl rfl ?_
    refine RL.gskip rfl rfl rfl rfl ?_
    refine RL.gskip rfl rfl rfl rfl ?_
    refine RL.gskip rfl rfl rfl rfl ?_
    refine RL.q Yld.pk rfl ?_
    exact RL.nil (N.meet (.to rfl) (.to rfl))
   refine RL.q (Yld.move rfl) rfl ?_
   refine' RL.and (t := 48) (d := 50) 2 rfl (.of [2, 3, 5, 6, 32, 33, 34, 35, 36, 47] rfl) (.of [0, 1, 102, 103] rfl) ?_ ?_ ?_
   rotate_left 1
   ·
    intro hg48
    refine RL.gq rfl rfl (Yld.move rfl) rfl ?_
    refine RL.q Yld.pk rfl ?_
    exact RL.nil (N.meet (.to rfl) (.to rfl))
   ·
    intro hg48
    refine RL.gskip rfl rfl rfl rfl ?_
    refine RL.q Yld.pk rfl ?_
    exact RL.nil (N.meet (.to rfl) (.to rfl))
   refine RL.q (Yld.move rfl) rfl ?_
   refine' RL.and (t := 51) (d := 55) 4 rfl (.of [2, 3, 5, 6, 32, 33, 34, 35, 36, 47, 50] rfl) (.of [0, 1, 102, 103] rfl) ?_ ?_ ?_
   rotate_left 1
   ·
    intro hg51
    refine RL.gq rfl rfl (Yld.fieldAddr fo97_3 rfl) rfl ?_
    refine RL.gq rfl rfl (Yld.ld 103 Tryz.underlying3 rfl rfl rfl rfl) rfl ?_
    refine RL.gq rfl rfl (Yld.bin rfl rfl BinV.eql) rfl ?_
    refine RL.q Yld.pk rfl ?_
    exact RL.nil (N.meet (.to rfl) (.to rfl))
   ·
    intro hg51
    refine RL.gskip rfl rfl rfl rfl ?_
    refine RL.gskip rfl rfl rfl rfl ?_
    refine RL.gskip rfl rfl rfl rfl ?_
    refine RL.q Yld.pk rfl ?_
    exact RL.nil (N.meet (.to rfl) (.to rfl))
   refine RL.q (Yld.assign rfl) rfl (RL.nil (N.next ?_))
   refine W.keep (.of [4] rfl) (.of [0, 1, 102, 103] rfl) ?_
   refine W.ret ?_
   refine N.block_ret ?_
   refine N.then_ret ?_
   exact N.retBy [1] (.cons (.tmp rfl) .nil) rfl rfl rfl rfl ⟨by show Value.bool _ = Value.bool _; congr 1; rw [Bool.eq_iff_iff]; rw [rlB_iff]; simp only [RlV, hc34, Bool.and_eq_true, Bool.not_eq_true', decide_eq_true_eq, pB_iff]; simp [List.length_eq_zero_iff, InR]; try simp only [bq3, and_assoc, and_comm, and_left_comm], rfl⟩
  ·
   refine W.seq (W.region ?_)
   refine RL.q (Yld.bin rfl rfl BinV.eql) rfl ?_
   refine RL.q (Yld.assign rfl) rfl (RL.nil (N.next ?_))
   refine W.keep (.of [2, 3, 5, 6, 33, 56] rfl) (.of [0, 1, 102, 103] rfl) ?_
   first | refine W.condD rfl (fun hc56 => ?_) (fun hc56 => ?_) | (refine W.cond rfl (fun hc56 => ?_) (fun hc56 => ?_) <;> try simp only [Bool.or_eq_true, Bool.and_eq_true, Bool.not_eq_true', Bool.not_eq_false', decide_eq_true_eq, Bool.or_eq_false_iff, Bool.and_eq_false_iff, decide_eq_false_iff_not, beq_iff_eq, beq_eq_false_iff_ne, ne_eq, Decidable.not_not] at hc56)
   ·
    refine W.seq (W.region ?_)
    refine RL.q (Yld.move rfl) rfl (RL.q (Yld.move rfl) rfl ?_)
    refine' RL.and (t := 59) (d := 63) 4 rfl (.of [2, 3, 5, 6, 33, 56, 58] rfl) (.of [0, 1, 102, 103] rfl) ?_ ?_ ?_
    rotate_left 1
    ·
     intro hg59
     refine RL.gq rfl rfl (Yld.fieldAddr fo97_2 rfl) rfl ?_
     refine RL.gq rfl rfl (Yld.ld 103 Tryz.underlying3 rfl rfl rfl rfl) rfl ?_
     refine RL.gq rfl rfl (Yld.bin rfl rfl BinV.eql) rfl ?_
     refine RL.q Yld.pk rfl ?_
     exact RL.nil (N.meet (.to rfl) (.to rfl))
    ·
     intro hg59
     refine RL.gskip rfl rfl rfl rfl ?_
     refine RL.gskip rfl rfl rfl rfl ?_
     refine RL.gskip rfl rfl rfl rfl ?_
     refine RL.q Yld.pk rfl ?_
     exact RL.nil (N.meet (.to rfl) (.to rfl))
    refine RL.q (Yld.move rfl) rfl ?_
    refine' RL.and (t := 64) (d := 68) 4 rfl (.of [2, 3, 5, 6, 33, 56, 58, 63] rfl) (.of [0, 1, 102, 103] rfl) ?_ ?_ ?_
    rotate_left 1
    ·
     intro hg64
     refine RL.gq rfl rfl (Yld.fieldAddr fo97_4 rfl) rfl ?_
     refine RL.gq rfl rfl (Yld.ld 103 Tryz.underlying3 rfl rfl rfl rfl) rfl ?_
     refine RL.gq rfl rfl (Yld.bin rfl rfl BinV.eql) rfl ?_
     refine RL.q Yld.pk rfl ?_
     exact RL.nil (N.meet (.to rfl) (.to rfl))
    ·
     intro hg64
     refine RL.gskip rfl rfl rfl rfl ?_
     refine RL.gskip rfl rfl rfl rfl ?_
     refine RL.gskip rfl rfl rfl rfl ?_
     refine RL.q Yld.pk rfl ?_
     exact RL.nil (N.meet (.to rfl) (.to rfl))
    refine RL.q (Yld.move rfl) rfl ?_
    refine' RL.and (t := 69) (d := 74) 5 rfl (.of [2, 3, 5, 6, 33, 56, 58, 63, 68] rfl) (.of [0, 1, 102, 103] rfl) ?_ ?_ ?_
    rotate_left 1
    ·
     intro hg69
     refine RL.gq rfl rfl (Yld.fieldAddr fo97_6 rfl) rfl ?_
     refine RL.gq rfl rfl (Yld.ld 103 Tryz.underlying55 rfl rfl rfl rfl) rfl ?_
     refine RL.gq rfl rfl (Yld.lenSl Tryz.underlying55 rfl) rfl ?_
     refine RL.gq rfl rfl (Yld.bin rfl rfl BinV.eql) rfl ?_
     refine RL.q Yld.pk rfl ?_
     exact RL.nil (N.meet (.to rfl) (.to rfl))
    ·
     intro hg69
     refine RL.gskip rfl rfl rfl rfl ?_
     refine RL.gskip rfl rfl rfl rfl ?_
     refine RL.gskip rfl rfl rfl rfl ?_
     refine RL.gskip rfl rfl rfl rfl ?_
     refine RL.q Yld.pk rfl ?_
     exact RL.nil (N.meet (.to rfl) (.to rfl))
    refine RL.q (Yld.move rfl) rfl ?_
    refine' RL.and (t := 75) (d := 79) 4 rfl (.of [2, 3, 5, 6, 33, 56, 58, 63, 68, 74] rfl) (.of [0, 1, 102, 103] rfl) ?_ ?_ ?_
    rotate_left 1
    ·
     intro hg75
     refine RL.gq rfl rfl (Yld.fieldAddr fo97_3 rfl) rfl ?_
     refine RL.gq rfl rfl (Yld.ld 103 Tryz.underlying3 rfl rfl rfl rfl) rfl ?_
     refine RL.ge rfl rfl (Eff.call ent45 [] [] (.cons rfl (.cons rfl (.cons rfl .nil))) (rwithin_ct x.n 0 16) rfl rfl rfl rfl (by rintro _ _ ⟨_, rfl⟩; rfl)) rfl ?_
     rintro _ _ ⟨_, ⟨rfl, rfl⟩, rfl⟩
     refine RL.q Yld.pk rfl ?_
     exact RL.nil (N.meet (.to rfl) (.to rfl))
    ·
     intro hg75
     refine RL.gskip rfl rfl rfl rfl ?_
     refine RL.gskip rfl rfl rfl rfl ?_
     refine RL.gskip rfl rfl rfl rfl ?_
     refine RL.q Yld.pk rfl ?_
     exact RL.nil (N.meet (.to rfl) (.to rfl))
    refine RL.q (Yld.assign rfl) rfl (RL.nil (N.next ?_))
    refine W.keep (.of [4] rfl) (.of [0, 1, 102, 103] rfl) ?_
    refine W.ret ?_
    refine N.block_ret ?_
    refine N.then_ret ?_
    exact N.retBy [1] (.cons (.tmp rfl) .nil) rfl rfl rfl rfl ⟨by show Value.bool _ = Value.bool _; congr 1; rw [Bool.eq_iff_iff]; rw [rlB_iff]; simp only [RlV, hc56, Bool.and_eq_true, Bool.not_eq_true', decide_eq_true_eq, pB_iff]; simp [List.length_eq_zero_iff, InR]; try simp only [bq3, and_assoc, and_comm, and_left_comm], rfl⟩
   ·
    refine W.seq (W.region ?_)
    refine RL.q (Yld.bin rfl rfl BinV.eql) rfl ?_
    refine RL.q (Yld.assign rfl) rfl (RL.nil (N.next ?_))
    first | refine W.condD rfl (fun hc80 => ?_) (fun hc80 => ?_) | (refine W.cond rfl (fun hc80 => ?_) (fun hc80 => ?_) <;> try simp only [Bool.or_eq_true, Bool.and_eq_true, Bool.not_eq_true', Bool.not_eq_false', decide_eq_true_eq, Bool.or_eq_false_iff, Bool.and_eq_false_iff, decide_eq_false_iff_not, beq_iff_eq, beq_eq_false_iff_ne, ne_eq, Decidable.not_not] at hc80)
    ·
     refine W.seq (W.region ?_)
     refine RL.q (Yld.move rfl) rfl (RL.q (Yld.move rfl) rfl ?_)
     refine' RL.and (t := 83) (d := 87) 4 rfl (.of [2, 3, 5, 6, 33, 56, 80, 81, 82] rfl) (.of [0, 1, 102, 103] rfl) ?_ ?_ ?_
     rotate_left 1
     ·
      intro hg83
      refine RL.gq rfl rfl (Yld.fieldAddr fo97_4 rfl) rfl ?_
      refine RL.gq rfl rfl (Yld.ld 103 Tryz.underlying3 rfl rfl rfl rfl) rfl ?_
      refine RL.ge rfl rfl (Eff.call ent45 [] [] (.cons rfl (.cons rfl (.cons rfl .nil))) (rwithin_ct x.bq 2 4) rfl rfl rfl rfl (by rintro _ _ ⟨_, rfl⟩; rfl)) rfl ?_
      rintro _ _ ⟨_, ⟨rfl, rfl⟩, rfl⟩
      refine RL.q Yld.pk rfl ?_
      exact RL.nil (N.meet (.to rfl) (.to rfl))
     ·
      intro hg83
      refine RL.gskip rfl rfl rfl rfl ?_
      refine RL.gskip rfl rfl rfl rfl ?_
      refine RL.gskip rfl rfl rfl rfl ?_
      refine RL.q Yld.pk rfl ?_
      exact RL.nil (N.meet (.to rfl) (.to rfl))
     refine RL.q (Yld.move rfl) rfl ?_
     refine' RL.and (t := 88) (d := 92) 4 rfl (.of [2, 3, 5, 6, 33, 56, 80, 81, 82, 87] rfl) (.of [0, 1, 102, 103] rfl) ?_ ?_ ?_
     rotate_left 1
     ·
      intro hg88
      refine RL.gq rfl rfl (Yld.fieldAddr fo97_2 rfl) rfl ?_
      refine RL.gq rfl rfl (Yld.ld 103 Tryz.underlying3 rfl rfl rfl rfl) rfl ?_
      refine RL.gq rfl rfl (Yld.bin rfl rfl BinV.eql) rfl ?_
      refine RL.q Yld.pk rfl ?_
      exact RL.nil (N.meet (.to rfl) (.to rfl))
     ·
      intro hg88
      refine RL.gskip rfl rfl rfl rfl ?_
      refine RL.gskip rfl rfl rfl rfl ?_
      refine RL.gskip rfl rfl rfl rfl ?_
      refine RL.q Yld.pk rfl ?_
      exact RL.nil (N.meet (.to rfl) (.to rfl))
     refine RL.q (Yld.move rfl) rfl ?_
     refine' RL.and (t := 93) (d := 97) 4 rfl (.of [2, 3, 5, 6, 33, 56, 80, 81, 82, 87, 92] rfl) (.of [0, 1, 102, 103] rfl) ?_ ?_ ?_
     rotate_left 1
     ·
      intro hg93
      refine RL.gq rfl rfl (Yld.fieldAddr fo97_5 rfl) rfl ?_
      refine RL.gq rfl rfl (Yld.ld 103 Tryz.underlying4 rfl rfl rfl rfl) rfl ?_
      refine RL.gq rfl rfl Yld.nt rfl ?_
      refine RL.q Yld.pk rfl ?_
      exact RL.nil (N.meet (.to rfl) (.to rfl))
     ·
      intro hg93
      refine RL.gskip rfl rfl rfl rfl ?_
      refine RL.gskip rfl rfl rfl rfl ?_
      refine RL.gskip rfl rfl rfl rfl ?_
      refine RL.q Yld.pk rfl ?_
      exact RL.nil (N.meet (.to rfl) (.to rfl))
     refine RL.q (Yld.move rfl) rfl ?_
     refine' RL.and (t := 98) (d := 103) 5 rfl (.of [2, 3, 5, 6, 33, 56, 80, 81, 82, 87, 92, 97] rfl) (.of [0, 1, 102, 103] rfl) ?_ ?_ ?_
     rotate_left 1
     ·
      intro hg98
      refine RL.gq rfl rfl (Yld.fieldAddr fo97_6 rfl) rfl ?_
      refine RL.gq rfl rfl (Yld.ld 103 Tryz.underlying55 rfl rfl rfl rfl) rfl ?_
      refine RL.gq rfl rfl (Yld.lenSl Tryz.underlying55 rfl) rfl ?_
      refine RL.gq rfl rfl (Yld.bin rfl rfl BinV.eql) rfl ?_
      refine RL.q Yld.pk rfl ?_
      exact RL.nil (N.meet (.to rfl) (.to rfl))
     ·
      intro hg98
      refine RL.gskip rfl rfl rfl rfl ?_
      refine RL.gskip rfl rfl rfl rfl ?_
      refine RL.gskip rfl rfl rfl rfl ?_
      refine RL.gskip rfl rfl rfl rfl ?_
      refine RL.q Yld.pk rfl ?_
      exact RL.nil (N.meet (.to rfl) (.to rfl))
     refine RL.q (Yld.move rfl) rfl ?_
     refine' RL.and (t := 104) (d := 108) 4 rfl (.of [2, 3, 5, 6, 33, 56, 80, 81, 82, 87, 92, 97, 103] rfl) (.of [0, 1, 102, 103] rfl) ?_ ?_ ?_
     rotate_left 1
     ·
      intro hg104
      refine RL.gq rfl rfl (Yld.fieldAddr fo97_3 rfl) rfl ?_
      refine RL.gq rfl rfl (Yld.ld 103 Tryz.underlying3 rfl rfl rfl rfl) rfl ?_
      refine RL.ge rfl rfl (Eff.call ent45 [] [] (.cons rfl (.cons rfl (.cons rfl .nil))) (rwithin_ct x.n 0 16) rfl rfl rfl rfl (by rintro _ _ ⟨_, rfl⟩; rfl)) rfl ?_
      rintro _ _ ⟨_, ⟨rfl, rfl⟩, rfl⟩
      refine RL.q Yld.pk rfl ?_
      exact RL.nil (N.meet (.to rfl) (.to rfl))
     ·
      intro hg104
      refine RL.gskip rfl rfl rfl rfl ?_
      refine RL.gskip rfl rfl rfl rfl ?_
      refine RL.gskip rfl rfl rfl rfl ?_
      refine RL.q Yld.pk rfl ?_
      exact RL.nil (N.meet (.to rfl) (.to rfl))
     refine RL.q (Yld.assign rfl) rfl (RL.nil (N.next ?_))
     refine W.keep (.of [4] rfl) (.of [0, 1, 102, 103] rfl) ?_
     refine W.ret ?_
     refine N.block_ret ?_
     refine N.then_ret ?_
     exact N.retBy [1] (.cons (.tmp rfl) .nil) rfl rfl rfl rfl ⟨by show Value.bool _ = Value.bool _; congr 1; rw [Bool.eq_iff_iff]; rw [rlB_iff]; simp only [RlV, hc80, Bool.and_eq_true, Bool.not_eq_true', decide_eq_true_eq, pB_iff]; simp [List.length_eq_zero_iff, InR]; try simp only [bq3, and_assoc, and_comm, and_left_comm], rfl⟩
    ·
     refine W.seq (W.region ?_)
     refine RL.q (Yld.bin rfl rfl BinV.eql) rfl ?_
     refine RL.q (Yld.assign rfl) rfl (RL.nil (N.next ?_))
     refine W.keep (.of [2, 3, 5, 6, 33, 109] rfl) (.of [0, 1, 102, 103] rfl) ?_
     first | refine W.condD rfl (fun hc109 => ?_) (fun hc109 => ?_) | (refine W.cond rfl (fun hc109 => ?_) (fun hc109 => ?_) <;> try simp only [Bool.or_eq_true, Bool.and_eq_true, Bool.not_eq_true', Bool.not_eq_false', decide_eq_true_eq, Bool.or_eq_false_iff, Bool.and_eq_false_iff, decide_eq_false_iff_not, beq_iff_eq, beq_eq_false_iff_ne, ne_eq, Decidable.not_not] at hc109)
     ·
      refine W.seq (W.region ?_)
      refine RL.q (Yld.move rfl) rfl (RL.q (Yld.move rfl) rfl ?_)
      refine' RL.and (t := 112) (d := 117) 5 rfl (.of [2, 3, 5, 6, 33, 109, 111] rfl) (.of [0, 1, 102, 103] rfl) ?_ ?_ ?_
      rotate_left 1
      ·
       intro hg112
       refine RL.gq rfl rfl (Yld.ldW 102 Tryz.underlying29 sz29 rfl rfl rfl rfl) rfl ?_
       refine RL.gq rfl rfl (Yld.fieldAddr fo97_6 rfl) rfl ?_
       refine RL.gq rfl rfl (Yld.ld 103 Tryz.underlying55 rfl rfl rfl rfl) rfl ?_
       refine RL.ge rfl rfl (Eff.call ent89 [1] [1] (.cons rfl (.cons rfl .nil)) (rmachines_ct m H1 hM x.ms _ _ hms) rfl rfl rfl rfl (by rintro _ _ ⟨_, rfl⟩; rfl)) rfl ?_
       rintro _ _ ⟨_, ⟨rfl, rfl⟩, rfl⟩
       refine RL.q Yld.pk rfl ?_
       exact RL.nil (N.meet (.to rfl) (.to rfl))
      ·
       intro hg112
       refine RL.gskip rfl rfl rfl rfl ?_
       refine RL.gskip rfl rfl rfl rfl ?_
       refine RL.gskip rfl rfl rfl rfl ?_
       refine RL.gskip rfl rfl rfl rfl ?_
       refine RL.q Yld.pk rfl ?_
       exact RL.nil (N.meet (.to rfl) (.to rfl))
      refine RL.q (Yld.move rfl) rfl ?_
      refine' RL.and (t := 118) (d := 122) 4 rfl (.of [2, 3, 5, 6, 33, 109, 111, 117] rfl) (.of [0, 1, 102, 103] rfl) ?_ ?_ ?_
      rotate_left 1
      ·
       intro hg118
       refine RL.gq rfl rfl (Yld.fieldAddr fo97_2 rfl) rfl ?_
       refine RL.gq rfl rfl (Yld.ld 103 Tryz.underlying3 rfl rfl rfl rfl) rfl ?_
       refine RL.gq rfl rfl (Yld.bin rfl rfl BinV.eql) rfl ?_
       refine RL.q Yld.pk rfl ?_
       exact RL.nil (N.meet (.to rfl) (.to rfl))
      ·
       intro hg118
       refine RL.gskip rfl rfl rfl rfl ?_
       refine RL.gskip rfl rfl rfl rfl ?_
       refine RL.gskip rfl rfl rfl rfl ?_
       refine RL.q Yld.pk rfl ?_
       exact RL.nil (N.meet (.to rfl) (.to rfl))
      refine RL.q (Yld.move rfl) rfl ?_
      refine' RL.and (t := 123) (d := 127) 4 rfl (.of [2, 3, 5, 6, 33, 109, 111, 117, 122] rfl) (.of [0, 1, 102, 103] rfl) ?_ ?_ ?_
      rotate_left 1
      ·
       intro hg123
       refine RL.gq rfl rfl (Yld.fieldAddr fo97_4 rfl) rfl ?_
       refine RL.gq rfl rfl (Yld.ld 103 Tryz.underlying3 rfl rfl rfl rfl) rfl ?_
       refine RL.gq rfl rfl (Yld.bin rfl rfl BinV.eql) rfl ?_
       refine RL.q Yld.pk rfl ?_
       exact RL.nil (N.meet (.to rfl) (.to rfl))
      ·
       intro hg123
       refine RL.gskip rfl rfl rfl rfl ?_
       refine RL.gskip rfl rfl rfl rfl ?_
       refine RL.gskip rfl rfl rfl rfl ?_
       refine RL.q Yld.pk rfl ?_
       exact RL.nil (N.meet (.to rfl) (.to rfl))
      refine RL.q (Yld.move rfl) rfl ?_
      refine' RL.and (t := 128) (d := 132) 4 rfl (.of [2, 3, 5, 6, 33, 109, 111, 117, 122, 127] rfl) (.of [0, 1, 102, 103] rfl) ?_ ?_ ?_
      rotate_left 1
      ·
       intro hg128
       refine RL.gq rfl rfl (Yld.fieldAddr fo97_5 rfl) rfl ?_
       refine RL.gq rfl rfl (Yld.ld 103 Tryz.underlying4 rfl rfl rfl rfl) rfl ?_
       refine RL.gq rfl rfl Yld.nt rfl ?_
       refine RL.q Yld.pk rfl ?_
       exact RL.nil (N.meet (.to rfl) (.to rfl))
      ·
       intro hg128
       refine RL.gskip rfl rfl rfl rfl ?_
       refine RL.gskip rfl rfl rfl rfl ?_
       refine RL.gskip rfl rfl rfl rfl ?_
       refine RL.q Yld.pk rfl ?_
       exact RL.nil (N.meet (.to rfl) (.to rfl))
      refine RL.q (Yld.move rfl) rfl ?_
      refine' RL.and (t := 133) (d := 137) 4 rfl (.of [2, 3, 5, 6, 33, 109, 111, 117, 122, 127, 132] rfl) (.of [0, 1, 102, 103] rfl) ?_ ?_ ?_
      rotate_left 1
      ·
       intro hg133
       refine RL.gq rfl rfl (Yld.fieldAddr fo97_3 rfl) rfl ?_
       refine RL.gq rfl rfl (Yld.ld 103 Tryz.underlying3 rfl rfl rfl rfl) rfl ?_
       refine RL.gq rfl rfl (Yld.bin rfl rfl BinV.eql) rfl ?_
       refine RL.q Yld.pk rfl ?_
       exact RL.nil (N.meet (.to rfl) (.to rfl))
      ·
       intro hg133
       refine RL.gskip rfl rfl rfl rfl ?_
       refine RL.gskip rfl rfl rfl rfl ?_
       refine RL.gskip rfl rfl rfl rfl ?_
       refine RL.q Yld.pk rfl ?_
       exact RL.nil (N.meet (.to rfl) (.to rfl))
      refine RL.q (Yld.assign rfl) rfl (RL.nil (N.next ?_))
      refine W.keep (.of [4] rfl) (.of [0, 1, 102, 103] rfl) ?_
      refine W.ret ?_
      refine N.block_ret ?_
      refine N.then_ret ?_
      exact N.retBy [1] (.cons (.tmp rfl) .nil) rfl rfl rfl rfl ⟨by show Value.bool _ = Value.bool _; congr 1; rw [Bool.eq_iff_iff]; rw [rlB_iff]; simp only [RlV, hc109, Bool.and_eq_true, Bool.not_eq_true', decide_eq_true_eq, pB_iff]; simp [List.length_eq_zero_iff, InR]; try simp only [bq3, and_assoc, and_comm, and_left_comm], rfl⟩
     ·
      refine W.seq (W.region ?_)
      refine RL.q (Yld.bin rfl rfl BinV.eql) rfl ?_
      refine RL.q (Yld.assign rfl) rfl (RL.nil (N.next ?_))
      first | refine W.condD rfl (fun hc138 => ?_) (fun hc138 => ?_) | (refine W.cond rfl (fun hc138 => ?_) (fun hc138 => ?_) <;> try simp only [Bool.or_eq_true, Bool.and_eq_true, Bool.not_eq_true', Bool.not_eq_false', decide_eq_true_eq, Bool.or_eq_false_iff, Bool.and_eq_false_iff, decide_eq_false_iff_not, beq_iff_eq, beq_eq_false_iff_ne, ne_eq, Decidable.not_not] at hc138)
      ·
       refine W.seq (W.region ?_)
       refine RL.q (Yld.move rfl) rfl (RL.q (Yld.move rfl) rfl ?_)
       refine' RL.and (t := 141) (d := 148) 7 rfl (.of [2, 3, 5, 6, 33, 109, 138, 139, 140] rfl) (.of [0, 1, 102, 103] rfl) ?_ ?_ ?_
       rotate_left 1
       ·
        intro hg141
        refine RL.gq rfl rfl (Yld.fieldAddr fo97_2 rfl) rfl ?_
        refine RL.gq rfl rfl (Yld.ld 103 Tryz.underlying3 rfl rfl rfl rfl) rfl ?_
        refine RL.gq rfl rfl (Yld.fieldAddr fo29_5 rfl) rfl ?_
        refine RL.gq rfl rfl (Yld.ld 102 Tryz.underlying26 rfl rfl rfl rfl) rfl ?_
        refine RL.gq rfl rfl (Yld.lenSl Tryz.underlying26 rfl) rfl ?_
        refine RL.ge rfl rfl (Eff.call ent44 [] [] (.cons rfl (.cons rfl .nil)) (rexists_ct x.ot m.is.length) rfl rfl rfl rfl (by rintro _ _ ⟨_, rfl⟩; rfl)) rfl ?_
        rintro _ _ ⟨_, ⟨rfl, rfl⟩, rfl⟩
        refine RL.q Yld.pk rfl ?_
        exact RL.nil (N.meet (.to rfl) (.to rfl))
       ·
        intro hg141
        refine RL.gskip rfl rfl rfl rfl ?_
        refine RL.gskip rfl rfl rfl rfl ?_
        refine RL.gskip rfl rfl rfl rfl ?_
        refine RL.gskip rfl rfl rfl rfl ?_
        refine RL.gskip rfl rfl rfl rfl ?_
        refine RL.gskip rfl rfl rfl rfl ?_
        refine RL.q Yld.pk rfl ?_
        exact RL.nil (N.meet (.to rfl) (.to rfl))
       refine RL.q (Yld.move rfl) rfl ?_
       refine' RL.and (t := 149) (d := 155) 6 rfl (.of [2, 3, 5, 6, 33, 109, 138, 139, 140, 148] rfl) (.of [0, 1, 102, 103] rfl) ?_ ?_ ?_
       rotate_left 1
       ·
        intro hg149
        refine RL.gq rfl rfl (Yld.fieldAddr fo97_1 rfl) rfl ?_
        refine RL.gq rfl rfl (Yld.ld 103 Tryz.underlying3 rfl rfl rfl rfl) rfl ?_
        refine RL.gq rfl rfl (Yld.fieldAddr fo97_2 rfl) rfl ?_
        refine RL.gq rfl rfl (Yld.ld 103 Tryz.underlying3 rfl rfl rfl rfl) rfl ?_
        refine RL.gq rfl rfl (Yld.bin rfl rfl BinV.neq) rfl ?_
        refine RL.q Yld.pk rfl ?_
        exact RL.nil (N.meet (.to rfl) (.to rfl))
       ·
        intro hg149
        refine RL.gskip rfl rfl rfl rfl ?_
        refine RL.gskip rfl rfl rfl rfl ?_
        refine RL.gskip rfl rfl rfl rfl ?_
        refine RL.gskip rfl rfl rfl rfl ?_
        refine RL.gskip rfl rfl rfl rfl ?_
        refine RL.q Yld.pk rfl ?_
        exact RL.nil (N.meet (.to rfl) (.to rfl))
       refine RL.q (Yld.move rfl) rfl ?_
       refine' RL.and (t := 156) (d := 160) 4 rfl (.of [2, 3, 5, 6, 33, 109, 138, 139, 140, 148, 155] rfl) (.of [0, 1, 102, 103] rfl) ?_ ?_ ?_
       rotate_left 1
       ·
        intro hg156
        refine RL.gq rfl rfl (Yld.fieldAddr fo97_4 rfl) rfl ?_
        refine RL.gq rfl rfl (Yld.ld 103 Tryz.underlying3 rfl rfl rfl rfl) rfl ?_
        refine RL.gq rfl rfl (Yld.bin rfl rfl BinV.eql) rfl ?_
        refine RL.q Yld.pk rfl ?_
        exact RL.nil (N.meet (.to rfl) (.to rfl))
       ·
        intro hg156
        refine RL.gskip rfl rfl rfl rfl ?_
        refine RL.gskip rfl rfl rfl rfl ?_
        refine RL.gskip rfl rfl rfl rfl ?_
        refine RL.q Yld.pk rfl ?_
        exact RL.nil (N.meet (.to rfl) (.to rfl))
       refine RL.q (Yld.move rfl) rfl ?_
       refine' RL.and (t := 161) (d := 165) 4 rfl (.of [2, 3, 5, 6, 33, 109, 138, 139, 140, 148, 155, 160] rfl) (.of [0, 1, 102, 103] rfl) ?_ ?_ ?_
       rotate_left 1
       ·
        intro hg161
        refine RL.gq rfl rfl (Yld.fieldAddr fo97_5 rfl) rfl ?_
        refine RL.gq rfl rfl (Yld.ld 103 Tryz.underlying4 rfl rfl rfl rfl) rfl ?_
        refine RL.gq rfl rfl Yld.nt rfl ?_
        refine RL.q Yld.pk rfl ?_
        exact RL.nil (N.meet (.to rfl) (.to rfl))
       ·
        intro hg161
        refine RL.gskip rfl rfl rfl rfl ?_
        refine RL.gskip rfl rfl rfl rfl ?_
        refine RL.gskip rfl rfl rfl rfl ?_
        refine RL.q Yld.pk rfl ?_
        exact RL.nil (N.meet (.to rfl) (.to rfl))
       refine RL.q (Yld.move rfl) rfl ?_
       refine' RL.and (t := 166) (d := 171) 5 rfl (.of [2, 3, 5, 6, 33, 109, 138, 139, 140, 148, 155, 160, 165] rfl) (.of [0, 1, 102, 103] rfl) ?_ ?_ ?_
       rotate_left 1
       ·
        intro hg166
        refine RL.gq rfl rfl (Yld.fieldAddr fo97_6 rfl) rfl ?_
        refine RL.gq rfl rfl (Yld.ld 103 Tryz.underlying55 rfl rfl rfl rfl) rfl ?_
        refine RL.gq rfl rfl (Yld.lenSl Tryz.underlying55 rfl) rfl ?_
        refine RL.gq rfl rfl (Yld.bin rfl rfl BinV.eql) rfl ?_
        refine RL.q Yld.pk rfl ?_
        exact RL.nil (N.meet (.to rfl) (.to rfl))
       ·
        intro hg166
        refine RL.gskip rfl rfl rfl rfl ?_
        refine RL.gskip rfl rfl rfl rfl ?_
        refine RL.gskip rfl rfl rfl rfl ?_
        refine RL.gskip rfl rfl rfl rfl ?_
        refine RL.q Yld.pk rfl ?_
        exact RL.nil (N.meet (.to rfl) (.to rfl))
       refine RL.q (Yld.move rfl) rfl ?_
       refine' RL.and (t := 172) (d := 176) 4 rfl (.of [2, 3, 5, 6, 33, 109, 138, 139, 140, 148, 155, 160, 165, 171] rfl) (.of [0, 1, 102, 103] rfl) ?_ ?_ ?_
       rotate_left 1
       ·
        intro hg172
        refine RL.gq rfl rfl (Yld.fieldAddr fo97_3 rfl) rfl ?_
        refine RL.gq rfl rfl (Yld.ld 103 Tryz.underlying3 rfl rfl rfl rfl) rfl ?_
        refine RL.gq rfl rfl (Yld.bin rfl rfl BinV.eql) rfl ?_
        refine RL.q Yld.pk rfl ?_
        exact RL.nil (N.meet (.to rfl) (.to rfl))
       ·
        intro hg172
        refine RL.gskip rfl rfl rfl rfl ?_
        refine RL.gskip rfl rfl rfl rfl ?_
        refine RL.gskip rfl rfl rfl rfl ?_
        refine RL.q Yld.pk rfl ?_
        exact RL.nil (N.meet (.to rfl) (.to rfl))
       refine RL.q (Yld.assign rfl) rfl (RL.nil (N.next ?_))
       refine W.keep (.of [4] rfl) (.of [0, 1, 102, 103] rfl) ?_
       refine W.ret ?_
       refine N.block_ret ?_
       refine N.then_ret ?_
       exact N.retBy [1] (.cons (.tmp rfl) .nil) rfl rfl rfl rfl ⟨by show Value.bool _ = Value.bool _; congr 1; rw [Bool.eq_iff_iff]; rw [rlB_iff]; simp only [RlV, hc138, Bool.and_eq_true, Bool.not_eq_true', decide_eq_true_eq, pB_iff]; simp [List.length_eq_zero_iff, InR]; try simp only [bq3, and_assoc, and_comm, and_left_comm], rfl⟩
      ·
       refine W.seq (W.region ?_)
       refine RL.q (Yld.bin rfl rfl BinV.eql) rfl ?_
       refine RL.q (Yld.assign rfl) rfl (RL.nil (N.next ?_))
       refine W.keep (.of [3, 5, 6, 33, 177] rfl) (.of [0, 1, 102, 103] rfl) ?_
       first | refine W.condD rfl (fun hc177 => ?_) (fun hc177 => ?_) | (refine W.cond rfl (fun hc177 => ?_) (fun hc177 => ?_) <;> try simp only [Bool.or_eq_true, Bool.and_eq_true, Bool.not_eq_true', Bool.not_eq_false', decide_eq_true_eq, Bool.or_eq_false_iff, Bool.and_eq_false_iff, decide_eq_false_iff_not, beq_iff_eq, beq_eq_false_iff_ne, ne_eq, Decidable.not_not] at hc177)
       ·
        refine W.seq (W.region ?_)
        refine RL.q (Yld.fieldAddr fo97_1 rfl) rfl ?_
        refine RL.q (Yld.ld 103 Tryz.underlying3 rfl rfl rfl rfl) rfl ?_
        refine RL.q (Yld.bin rfl rfl BinV.eql) rfl ?_
        refine RL.q (Yld.move rfl) rfl ?_
        refine' RL.and (t := 182) (d := 184) 2 rfl (.of [3, 5, 6, 33, 177, 179, 180, 181] rfl) (.of [0, 1, 102, 103] rfl) ?_ ?_ ?_
        rotate_left 1
        ·
         intro hg182
         refine RL.gq rfl rfl (Yld.move rfl) rfl ?_
         refine RL.q Yld.pk rfl ?_
         exact RL.nil (N.meet (.to rfl) (.to rfl))
        ·
         intro hg182
         refine RL.gskip rfl rfl rfl rfl ?_
         refine RL.q Yld.pk rfl ?_
         exact RL.nil (N.meet (.to rfl) (.to rfl))
        refine RL.q (Yld.move rfl) rfl ?_
        refine' RL.and (t := 185) (d := 189) 4 rfl (.of [3, 5, 6, 33, 177, 179, 180, 181, 184] rfl) (.of [0, 1, 102, 103] rfl) ?_ ?_ ?_
        rotate_left 1
        ·
         intro hg185
         refine RL.gq rfl rfl (Yld.fieldAddr fo97_3 rfl) rfl ?_
         refine RL.gq rfl rfl (Yld.ld 103 Tryz.underlying3 rfl rfl rfl rfl) rfl ?_
         refine RL.ge rfl rfl (Eff.call ent45 [] [] (.cons rfl (.cons rfl (.cons rfl .nil))) (rwithin_ct x.n 0 200) rfl rfl rfl rfl (by rintro _ _ ⟨_, rfl⟩; rfl)) rfl ?_
         rintro _ _ ⟨_, ⟨rfl, rfl⟩, rfl⟩
         refine RL.q Yld.pk rfl ?_
         exact RL.nil (N.meet (.to rfl) (.to rfl))
        ·
         intro hg185
         refine RL.gskip rfl rfl rfl rfl ?_
         refine RL.gskip rfl rfl rfl rfl ?_
         refine RL.gskip rfl rfl rfl rfl ?_
         refine RL.q Yld.pk rfl ?_
         exact RL.nil (N.meet (.to rfl) (.to rfl))
        refine RL.q (Yld.assign rfl) rfl (RL.nil (N.next ?_))
        refine W.keep (.of [4] rfl) (.of [0, 1, 102, 103] rfl) ?_
        refine W.ret ?_
        refine N.block_ret ?_
        refine N.then_ret ?_
        exact N.retBy [1] (.cons (.tmp rfl) .nil) rfl rfl rfl rfl ⟨by show Value.bool _ = Value.bool _; congr 1; rw [Bool.eq_iff_iff]; rw [rlB_iff]; simp only [RlV, hc177, Bool.and_eq_true, Bool.not_eq_true', decide_eq_true_eq, pB_iff]; simp [List.length_eq_zero_iff, InR]; try simp only [bq3, and_assoc, and_comm, and_left_comm], rfl⟩
       ·
        refine W.seq (W.region ?_)
        refine RL.q (Yld.bin rfl rfl BinV.eql) rfl ?_
        refine RL.q (Yld.assign rfl) rfl (RL.nil (N.next ?_))
        first | refine W.condD rfl (fun hc190 => ?_) (fun hc190 => ?_) | (refine W.cond rfl (fun hc190 => ?_) (fun hc190 => ?_) <;> try simp only [Bool.or_eq_true, Bool.and_eq_true, Bool.not_eq_true', Bool.not_eq_false', decide_eq_true_eq, Bool.or_eq_false_iff, Bool.and_eq_false_iff, decide_eq_false_iff_not, beq_iff_eq, beq_eq_false_iff_ne, ne_eq, Decidable.not_not] at hc190)
        ·
         refine W.seq (W.region ?_)
         refine RL.q (Yld.move rfl) rfl (RL.q (Yld.move rfl) rfl ?_)
         refine' RL.and (t := 193) (d := 195) 2 rfl (.of [3, 5, 6, 33, 177, 190, 191, 192] rfl) (.of [0, 1, 102, 103] rfl) ?_ ?_ ?_
         rotate_left 1
         ·
          intro hg193
          refine RL.gq rfl rfl (Yld.move rfl) rfl ?_
          refine RL.q Yld.pk rfl ?_
          exact RL.nil (N.meet (.to rfl) (.to rfl))
         ·
          intro hg193
          refine RL.gskip rfl rfl rfl rfl ?_
          refine RL.q Yld.pk rfl ?_
          exact RL.nil (N.meet (.to rfl) (.to rfl))
         refine RL.q (Yld.move rfl) rfl ?_
         refine' RL.and (t := 196) (d := 200) 4 rfl (.of [3, 5, 6, 33, 177, 190, 191, 192, 195] rfl) (.of [0, 1, 102, 103] rfl) ?_ ?_ ?_
         rotate_left 1
         ·
          intro hg196
          refine RL.gq rfl rfl (Yld.fieldAddr fo97_3 rfl) rfl ?_
          refine RL.gq rfl rfl (Yld.ld 103 Tryz.underlying3 rfl rfl rfl rfl) rfl ?_
          refine RL.ge rfl rfl (Eff.call ent45 [] [] (.cons rfl (.cons rfl (.cons rfl .nil))) (rwithin_ct x.n 0 16) rfl rfl rfl rfl (by rintro _ _ ⟨_, rfl⟩; rfl)) rfl ?_
          rintro _ _ ⟨_, ⟨rfl, rfl⟩, rfl⟩
          refine RL.q Yld.pk rfl ?_
          exact RL.nil (N.meet (.to rfl) (.to rfl))
         ·
          intro hg196
          refine RL.gskip rfl rfl rfl rfl ?_
          refine RL.gskip rfl rfl rfl rfl ?_
          refine RL.gskip rfl rfl rfl rfl ?_
          refine RL.q Yld.pk rfl ?_
          exact RL.nil (N.meet (.to rfl) (.to rfl))
         refine RL.q (Yld.assign rfl) rfl (RL.nil (N.next ?_))
         refine W.keep (.of [4] rfl) (.of [0, 1, 102, 103] rfl) ?_
         refine W.ret ?_
         refine N.block_ret ?_
         refine N.then_ret ?_
         exact N.retBy [1] (.cons (.tmp rfl) .nil) rfl rfl rfl rfl ⟨by show Value.bool _ = Value.bool _; congr 1; rw [Bool.eq_iff_iff]; rw [rlB_iff]; simp only [RlV, hc190, Bool.and_eq_true, Bool.not_eq_true', decide_eq_true_eq, pB_iff]; simp [List.length_eq_zero_iff, InR]; try simp only [bq3, and_assoc, and_comm, and_left_comm], rfl⟩
        ·
         refine W.skip ?_
         refine N.block_normal ?_
         refine N.next ?_
         refine W.keep .nil (.of [0, 1, 102, 103] rfl) ?_
         refine W.seq (W.region ?_)
         refine RL.q (Yld.assign rfl) rfl (RL.nil (N.next ?_))
         refine W.ret ?_
         exact N.retBy [1] (.cons (.tmp rfl) .nil) rfl rfl rfl rfl ⟨by show Value.bool _ = Value.bool _; congr 1; rw [Bool.eq_iff_iff]; rw [rlB_iff]; simp only [RlV]; simp; omega, rfl⟩
end Go.Proofs.YtboapdcmaeojgaaGreatDoor
namespace Go.Proofs.YtboapdcmaeojgaaGreatDoor
open SL Cat
set_option linter.unusedVariables false
set_option linter.unusedSimpArgs false
theorem ent40 : Ent Tryz.prog 40 := ⟨_, _, Tryz.func40, by kernel_rfl, rfl⟩
theorem fo29_10 : fieldOff Tryz.prog 29 10 = some 10 := by kernel_rfl
theorem ent41 : Ent Tryz.prog 41 := ⟨_, _, Tryz.func41, by kernel_rfl, rfl⟩
theorem ent42 : Ent Tryz.prog 42 := ⟨_, _, Tryz.func42, by kernel_rfl, rfl⟩
theorem ent43 : Ent Tryz.prog 43 := ⟨_, _, Tryz.func43, by kernel_rfl, rfl⟩
theorem fo29_6 : fieldOff Tryz.prog 29 6 = some 6 := by kernel_rfl
theorem fo29_7 : fieldOff Tryz.prog 29 7 = some 7 := by kernel_rfl
theorem fo29_8 : fieldOff Tryz.prog 29 8 = some 8 := by kernel_rfl
theorem fo29_9 : fieldOff Tryz.prog 29 9 = some 9 := by kernel_rfl
set_option maxRecDepth 100000 in
set_option maxHeartbeats 3200000 in
theorem rvalid_ct (m : Md) (H1 : PH) (hM : m.In H1) : Ct Tryz.prog 19 [.agg [.slice m.psi m.si.length m.csi, .slice m.pfe m.fe.length m.cfe, .slice m.prk m.rk.length m.crk, .slice m.pmc m.mc.length m.cmc, .slice m.pln m.ln.length m.cln, .slice m.pis m.is.length m.cis, .int .i64 m.da, .int .i64 m.sl, .int .i64 m.re, .int .i64 m.fa, .slice m.prl m.rl.length m.crl].toArray] [H1] (fun v Hs => v = .bool (pB (MdV m)) ∧ Hs = [H1]) := by
  refine Ct.body Tryz.func19 rfl Tryz.ntmps19 rfl ?_
  intro E F
  have hMis := hM.is
  have hmi := hM.is.len_le
  simp only [List.length_map, maxLen] at hmi
  have hMrl := hM.rl
  have hmr := hM.rl.len_le
  simp only [List.length_map, maxLen] at hmr
  refine W.seq (W.region ?_)
  refine RL.e (Eff.box 101 _ rfl rfl) rfl ?_
  rintro _ _ ⟨b1, rfl, rfl⟩
  refine RL.q (Yld.assign rfl) rfl (RL.nil (N.next ?_))
  refine W.seq ?_
  refine W.seq (W.region ?_)
  refine RL.q (Yld.ldW 101 Tryz.underlying29 sz29 rfl rfl rfl rfl) rfl ?_
  refine RL.e (Eff.call ent40 [1] [1] (.cons rfl .nil) (rsite_ct m H1 hM) rfl rfl rfl rfl (by rintro _ _ ⟨_, rfl⟩; rfl)) rfl ?_
  rintro _ _ ⟨_, ⟨rfl, rfl⟩, rfl⟩
  refine RL.q Yld.nt rfl (RL.q (Yld.move rfl) rfl ?_)
  refine' RL.or (t := 8) (d := 13) 5 rfl (.of [0, 1, 2, 5, 6, 7] rfl) (.of [0, 1, 101] rfl) ?_ ?_ ?_
  rotate_left 1
  ·
   intro hg8
   refine RL.gq rfl rfl (Yld.fieldAddr fo29_5 rfl) rfl ?_
   refine RL.gq rfl rfl (Yld.ld 101 Tryz.underlying26 rfl rfl rfl rfl) rfl ?_
   refine RL.gq rfl rfl (Yld.lenSl Tryz.underlying26 rfl) rfl ?_
   refine RL.gq rfl rfl (Yld.bin rfl rfl BinV.gtr) rfl ?_
   refine RL.q Yld.pk rfl ?_
   exact RL.nil (N.meet (.to rfl) (.to rfl))
  ·
   intro hg8
   refine RL.gskip rfl rfl rfl rfl ?_
   refine RL.gskip rfl rfl rfl rfl ?_
   refine RL.gskip rfl rfl rfl rfl ?_
   refine RL.gskip rfl rfl rfl rfl ?_
   refine RL.q Yld.pk rfl ?_
   exact RL.nil (N.meet (.to rfl) (.to rfl))
  refine RL.q (Yld.move rfl) rfl ?_
  refine' RL.or (t := 14) (d := 19) 5 rfl (.of [0, 1, 2, 5, 6, 7, 13] rfl) (.of [0, 1, 101] rfl) ?_ ?_ ?_
  rotate_left 1
  ·
   intro hg14
   refine RL.gq rfl rfl (Yld.fieldAddr fo29_10 rfl) rfl ?_
   refine RL.gq rfl rfl (Yld.ld 101 Tryz.underlying27 rfl rfl rfl rfl) rfl ?_
   refine RL.gq rfl rfl (Yld.lenSl Tryz.underlying27 rfl) rfl ?_
   refine RL.gq rfl rfl (Yld.bin rfl rfl BinV.gtr) rfl ?_
   refine RL.q Yld.pk rfl ?_
   exact RL.nil (N.meet (.to rfl) (.to rfl))
  ·
   intro hg14
   refine RL.gskip rfl rfl rfl rfl ?_
   refine RL.gskip rfl rfl rfl rfl ?_
   refine RL.gskip rfl rfl rfl rfl ?_
   refine RL.gskip rfl rfl rfl rfl ?_
   refine RL.q Yld.pk rfl ?_
   exact RL.nil (N.meet (.to rfl) (.to rfl))
  refine RL.q (Yld.move rfl) rfl ?_
  refine' RL.or (t := 20) (d := 24) 4 rfl (.of [0, 1, 2, 5, 6, 7, 13, 19] rfl) (.of [0, 1, 101] rfl) ?_ ?_ ?_
  rotate_left 1
  ·
   intro hg20
   have hss : SiteV m ∧ m.is.length ≤ 8 := by
     simp only [Bool.or_eq_false_iff, Bool.not_eq_false', pB_iff, decide_eq_false_iff_not] at hg20
     exact ⟨hg20.1.1, by omega⟩
   refine RL.gq rfl rfl (Yld.ldW 101 Tryz.underlying29 sz29 rfl rfl rfl rfl) rfl ?_
   refine RL.ge rfl rfl (Eff.call ent41 [1] [1] (.cons rfl .nil) (rnamesV_ct m H1 hM (by have := hss.1.nsl hss.2; omega)) rfl rfl rfl rfl (by rintro _ _ ⟨_, rfl⟩; rfl)) rfl ?_
   rintro _ _ ⟨_, ⟨rfl, rfl⟩, rfl⟩
   refine RL.gq rfl rfl Yld.nt rfl ?_
   refine RL.q Yld.pk rfl ?_
   exact RL.nil (N.meet (.to rfl) (.to rfl))
  ·
   intro hg20
   refine RL.gskip rfl rfl rfl rfl ?_
   refine RL.gskip rfl rfl rfl rfl ?_
   refine RL.gskip rfl rfl rfl rfl ?_
   refine RL.q Yld.pk rfl ?_
   exact RL.nil (N.meet (.to rfl) (.to rfl))
  refine RL.nil (N.next ?_)
  refine W.keep (.of [1, 24] rfl) (.of [0, 1, 101] rfl) ?_
  refine W.cond rfl (fun hc24 => ?_) (fun hc24 => ?_)
  ·
   have hbad : ¬ MdV m := fun h => by
     rw [pB_true h.site, pB_true h.ns, decide_eq_false (show ¬ (8 : Int) < m.is.length by have := h.n5; omega), decide_eq_false (show ¬ (40 : Int) < m.rl.length by have := h.n6; omega)] at hc24; cases hc24
   refine W.seq (W.region ?_)
   refine RL.q (Yld.assign rfl) rfl (RL.nil (N.next ?_))
   refine W.ret ?_
   refine N.then_ret ?_
   exact N.retBy [1] (.cons (.tmp rfl) .nil) rfl rfl rfl rfl ⟨by rw [pB_not hbad]; rfl, rfl⟩
  ·
   simp only [Bool.or_eq_false_iff, Bool.not_eq_false', pB_iff, decide_eq_false_iff_not] at hc24
   refine W.skip ?_
   refine N.next ?_
   refine W.seq ?_
   refine W.seq (W.region ?_)
   refine RL.q (Yld.assign rfl) rfl (RL.nil (N.next ?_))
   refine W.block ?_
   refine W.loopK (ι := Nat) (fun i => (i ≤ m.is.length ∧ ∀ (k : Nat) x, k < i → m.is[k]? = some x → ItV m x)) (fun i => [(3, .int .i64 (i : Nat))]) (fun i => []) (fun i => m.is.length - i) (.of [1] rfl) (.of [0, 1, 101] rfl) 0 ?_ ?_ ?_ ?_
   · exact ⟨Nat.zero_le _, fun _ _ h => absurd h (Nat.not_lt_zero _)⟩
   · exact (.as rfl (by first | rfl | (simp; done) | (congr 1; simp; done) | (congr 1; omega)) .nil)
   · exact .nil
   rintro i ⟨hi, hI⟩
   refine W.keep (.of [3, 1] rfl) (.of [0, 1, 101] rfl) ?_
   refine W.seq ?_
   refine W.seq (W.region ?_)
   refine RL.q (Yld.move rfl) rfl ?_
   refine RL.q (Yld.fieldAddr fo29_5 rfl) rfl ?_
   refine RL.q (Yld.ld 101 Tryz.underlying26 rfl rfl rfl rfl) rfl ?_
   refine RL.q (Yld.lenSl Tryz.underlying26 rfl) rfl ?_
   refine RL.q (Yld.bin rfl rfl BinV.lss) rfl ?_
   refine RL.nil (N.next ?_)
   refine W.keep (.of [1, 3, 29] rfl) (.of [0, 1, 101] rfl) ?_
   first | refine W.condD rfl (fun hc29 => ?_) (fun hc29 => ?_) | (refine W.cond rfl (fun hc29 => ?_) (fun hc29 => ?_) <;> try simp only [Bool.or_eq_true, Bool.and_eq_true, Bool.not_eq_true', Bool.not_eq_false', decide_eq_true_eq, Bool.or_eq_false_iff, Bool.and_eq_false_iff, decide_eq_false_iff_not, beq_iff_eq, beq_eq_false_iff_ne, ne_eq, Decidable.not_not] at hc29)
   ·
    obtain ⟨x, hx⟩ : ∃ x, m.is[i]? = some x := ⟨_, List.getElem?_eq_getElem (show i < m.is.length by first | omega | (simp only [List.length_map] at *; omega))⟩
    have hlx : (m.is.map It.c)[i]? = some x.c := by simp [hx]
    refine W.skip ?_
    refine N.next ?_
    refine W.seq ?_
    refine W.block ?_
    refine W.seq ?_
    refine W.draw (.q 0 (.q 1 (.q 2 (.q 3 (.q 4 (.q 5 (.one 6 (.q 7 .done)))))))) (.of [0, 1, 101] rfl) mix (by kernel_rfl) (by kernel_rfl) ?_
    refine DL.q rfl (Yld.ldW 101 Tryz.underlying29 sz29 rfl rfl rfl rfl) rfl ?_
    refine DL.q rfl (Yld.fieldAddr fo29_5 rfl) rfl ?_
    refine DL.q rfl (Yld.ld 101 Tryz.underlying26 rfl rfl rfl rfl) rfl ?_
    refine DL.q rfl (Yld.move rfl) rfl ?_
    refine DL.q rfl (Yld.ixr Tryz.underlying26 sz64 rfl rfl) rfl ?_
    refine DL.q rfl (by first | exact Yld.lrA 1 Tryz.underlying64 sz64 rfl rfl rfl | exact Yld.lrA 101 Tryz.underlying64 sz64 rfl rfl rfl) rfl ?_
    refine DL.one rfl (Eff.call ent42 [1] [1] (.cons rfl (.cons rfl .nil)) (ritem_ct m H1 hM x (hM.on x (List.mem_of_getElem? hx))) rfl rfl rfl rfl (by rintro _ _ ⟨_, rfl⟩; rfl)) rfl (by rintro _ _ ⟨_, ⟨rfl, rfl⟩, rfl⟩; repeat (first | exact .nil | refine .cons rfl ?_)) ?_
    rintro _ _ ⟨_, ⟨rfl, rfl⟩, rfl⟩
    refine DL.q rfl Yld.nt rfl ?_
    refine DL.done ?_
    refine N.next ?_
    refine W.keep (.of [1, 3, 39] rfl) (.of [0, 1, 101] rfl) ?_
    refine W.cond rfl (fun hc39 => ?_) (fun hc39 => ?_)
    ·
     have hbad : ¬ MdV m := fun h => by
       rw [itB_iff.2 (h.it x (List.mem_of_getElem? hx))] at hc39; cases hc39
     refine W.seq (W.region ?_)
     refine RL.q (Yld.assign rfl) rfl (RL.nil (N.next ?_))
     refine W.ret ?_
     refine N.block_ret ?_
     refine N.then_ret ?_
     refine N.then_ret ?_
     refine N.block_ret ?_
     refine N.then_ret ?_
     exact N.retBy [1] (.cons (.tmp rfl) .nil) rfl rfl rfl rfl ⟨by rw [pB_not hbad]; rfl, rfl⟩
    ·
     rw [Bool.not_eq_false', itB_iff] at hc39
     refine W.skip ?_
     refine N.block_normal ?_
     refine N.next ?_
     refine W.region ?_
     refine RL.q (Yld.move rfl) rfl ?_
     refine RL.q (Yld.bin rfl rfl (by first | exact BinV.add (by omega) (by omega) | exact BinV.addW)) rfl ?_
     refine RL.q (Yld.assign rfl) rfl (RL.nil ?_)
     exact N.famK (i + 1) ⟨⟨by omega, fun q y hq hy => (Nat.lt_succ_iff_lt_or_eq.1 hq).elim (fun h => hI q y h hy) (fun e => by subst e; rw [hx] at hy; cases hy; exact hc39)⟩, by omega⟩ (.as rfl (by first | rfl | (simp; done) | (congr 1; simp; done) | (congr 1; omega)) .nil) (.to rfl) .nil (.to rfl)
   ·
    refine W.exit ?_
    refine N.then_exit ?_
    refine N.then_exit ?_
    refine N.block_eq ?_
    refine N.next ?_
    refine W.seq ?_
    refine W.seq (W.region ?_)
    refine RL.q (Yld.assign rfl) rfl (RL.nil (N.next ?_))
    refine W.block ?_
    refine W.loopK (ι := Nat) (fun k => (k ≤ m.rl.length ∧ ∀ (q : Nat) x, q < k → m.rl[q]? = some x → RlV m x)) (fun k => [(4, .int .i64 (k : Nat))]) (fun k => []) (fun k => m.rl.length - k) (.of [1] rfl) (.of [0, 1, 101] rfl) 0 ?_ ?_ ?_ ?_
    · exact ⟨Nat.zero_le _, fun _ _ h => absurd h (Nat.not_lt_zero _)⟩
    · exact (.as rfl (by first | rfl | (simp; done) | (congr 1; simp; done) | (congr 1; omega)) .nil)
    · exact .nil
    rintro k ⟨hk, hJ⟩
    refine W.keep (.of [4, 1] rfl) (.of [0, 1, 101] rfl) ?_
    refine W.seq ?_
    refine W.seq (W.region ?_)
    refine RL.q (Yld.move rfl) rfl ?_
    refine RL.q (Yld.fieldAddr fo29_10 rfl) rfl ?_
    refine RL.q (Yld.ld 101 Tryz.underlying27 rfl rfl rfl rfl) rfl ?_
    refine RL.q (Yld.lenSl Tryz.underlying27 rfl) rfl ?_
    refine RL.q (Yld.bin rfl rfl BinV.lss) rfl ?_
    refine RL.nil (N.next ?_)
    refine W.keep (.of [1, 4, 44] rfl) (.of [0, 1, 101] rfl) ?_
    first | refine W.condD rfl (fun hc44 => ?_) (fun hc44 => ?_) | (refine W.cond rfl (fun hc44 => ?_) (fun hc44 => ?_) <;> try simp only [Bool.or_eq_true, Bool.and_eq_true, Bool.not_eq_true', Bool.not_eq_false', decide_eq_true_eq, Bool.or_eq_false_iff, Bool.and_eq_false_iff, decide_eq_false_iff_not, beq_iff_eq, beq_eq_false_iff_ne, ne_eq, Decidable.not_not] at hc44)
    ·
     obtain ⟨y, hy⟩ : ∃ y, m.rl[k]? = some y := ⟨_, List.getElem?_eq_getElem (show k < m.rl.length by first | omega | (simp only [List.length_map] at *; omega))⟩
     have hly : (m.rl.map Rl.c)[k]? = some y.c := by simp [hy]
     refine W.skip ?_
     refine N.next ?_
     refine W.seq ?_
     refine W.block ?_
     refine W.seq ?_
     refine W.draw (.q 0 (.q 1 (.q 2 (.q 3 (.q 4 (.q 5 (.one 6 (.q 7 .done)))))))) (.of [0, 1, 101] rfl) mix (by kernel_rfl) (by kernel_rfl) ?_
     refine DL.q rfl (Yld.ldW 101 Tryz.underlying29 sz29 rfl rfl rfl rfl) rfl ?_
     refine DL.q rfl (Yld.fieldAddr fo29_10 rfl) rfl ?_
     refine DL.q rfl (Yld.ld 101 Tryz.underlying27 rfl rfl rfl rfl) rfl ?_
     refine DL.q rfl (Yld.move rfl) rfl ?_
     refine DL.q rfl (Yld.ixr Tryz.underlying27 sz97 rfl rfl) rfl ?_
     refine DL.q rfl (by first | exact Yld.lrA 1 Tryz.underlying97 sz97 rfl rfl rfl | exact Yld.lrA 101 Tryz.underlying97 sz97 rfl rfl rfl) rfl ?_
     refine DL.one rfl (Eff.call ent43 [1] [1] (.cons rfl (.cons rfl .nil)) (rrule_ct m H1 hM y (hM.ms y (List.mem_of_getElem? hy))) rfl rfl rfl rfl (by rintro _ _ ⟨_, rfl⟩; rfl)) rfl (by rintro _ _ ⟨_, ⟨rfl, rfl⟩, rfl⟩; repeat (first | exact .nil | refine .cons rfl ?_)) ?_
     rintro _ _ ⟨_, ⟨rfl, rfl⟩, rfl⟩
     refine DL.q rfl Yld.nt rfl ?_
     refine DL.done ?_
     refine N.next ?_
     refine W.keep (.of [1, 4, 54] rfl) (.of [0, 1, 101] rfl) ?_
     refine W.cond rfl (fun hc54 => ?_) (fun hc54 => ?_)
     ·
      have hbad : ¬ MdV m := fun h => by
        rw [rlB_iff.2 (h.rl y (List.mem_of_getElem? hy))] at hc54; cases hc54
      refine W.seq (W.region ?_)
      refine RL.q (Yld.assign rfl) rfl (RL.nil (N.next ?_))
      refine W.ret ?_
      refine N.block_ret ?_
      refine N.then_ret ?_
      refine N.then_ret ?_
      refine N.block_ret ?_
      refine N.then_ret ?_
      exact N.retBy [1] (.cons (.tmp rfl) .nil) rfl rfl rfl rfl ⟨by rw [pB_not hbad]; rfl, rfl⟩
     ·
      rw [Bool.not_eq_false', rlB_iff] at hc54
      refine W.skip ?_
      refine N.block_normal ?_
      refine N.next ?_
      refine W.region ?_
      refine RL.q (Yld.move rfl) rfl ?_
      refine RL.q (Yld.bin rfl rfl (by first | exact BinV.add (by omega) (by omega) | exact BinV.addW)) rfl ?_
      refine RL.q (Yld.assign rfl) rfl (RL.nil ?_)
      exact N.famK (k + 1) ⟨⟨by omega, fun q y2 hq hy2 => (Nat.lt_succ_iff_lt_or_eq.1 hq).elim (fun h => hJ q y2 h hy2) (fun e => by subst e; rw [hy] at hy2; cases hy2; exact hc54)⟩, by omega⟩ (.as rfl (by first | rfl | (simp; done) | (congr 1; simp; done) | (congr 1; omega)) .nil) (.to rfl) .nil (.to rfl)
    ·
     refine W.exit ?_
     refine N.then_exit ?_
     refine N.then_exit ?_
     refine N.block_eq ?_
     refine N.next ?_
     refine W.seq (W.region ?_)
     refine RL.q (Yld.fieldAddr fo29_6 rfl) rfl ?_
     refine RL.q (Yld.ld 101 Tryz.underlying3 rfl rfl rfl rfl) rfl ?_
     refine RL.q (Yld.fieldAddr fo29_0 rfl) rfl ?_
     refine RL.q (Yld.ld 101 Tryz.underlying22 rfl rfl rfl rfl) rfl ?_
     refine RL.q (Yld.lenSl Tryz.underlying22 rfl) rfl ?_
     refine RL.e (Eff.call ent44 [] [] (.cons rfl (.cons rfl .nil)) (rexists_ct m.da m.si.length) rfl rfl rfl rfl (by rintro _ _ ⟨_, rfl⟩; rfl)) rfl ?_
     rintro _ _ ⟨_, ⟨rfl, rfl⟩, rfl⟩
     refine RL.q (Yld.move rfl) rfl ?_
     refine' RL.and (t := 61) (d := 65) 4 rfl (.of [1, 4, 44, 55, 56, 57, 58, 59, 60] rfl) (.of [0, 1, 101] rfl) ?_ ?_ ?_
     rotate_left 1
     ·
      intro hg61
      refine RL.gq rfl rfl (Yld.fieldAddr fo29_7 rfl) rfl ?_
      refine RL.gq rfl rfl (Yld.ld 101 Tryz.underlying3 rfl rfl rfl rfl) rfl ?_
      refine RL.ge rfl rfl (Eff.call ent45 [] [] (.cons rfl (.cons rfl (.cons rfl .nil))) (rwithin_ct m.sl 1 16) rfl rfl rfl rfl (by rintro _ _ ⟨_, rfl⟩; rfl)) rfl ?_
      rintro _ _ ⟨_, ⟨rfl, rfl⟩, rfl⟩
      refine RL.q Yld.pk rfl ?_
      exact RL.nil (N.meet (.to rfl) (.to rfl))
     ·
      intro hg61
      refine RL.gskip rfl rfl rfl rfl ?_
      refine RL.gskip rfl rfl rfl rfl ?_
      refine RL.gskip rfl rfl rfl rfl ?_
      refine RL.q Yld.pk rfl ?_
      exact RL.nil (N.meet (.to rfl) (.to rfl))
     refine RL.q (Yld.move rfl) rfl ?_
     refine' RL.and (t := 66) (d := 73) 7 rfl (.of [1, 4, 44, 55, 56, 57, 58, 59, 60, 65] rfl) (.of [0, 1, 101] rfl) ?_ ?_ ?_
     rotate_left 1
     ·
      intro hg66
      have hsl1 : InR m.sl 1 16 := by rw [Bool.and_eq_true] at hg66; exact of_decide_eq_true hg66.2
      obtain ⟨hs1, hs2⟩ := hsl1
      refine RL.gq rfl rfl (Yld.fieldAddr fo29_8 rfl) rfl ?_
      refine RL.gq rfl rfl (Yld.ld 101 Tryz.underlying3 rfl rfl rfl rfl) rfl ?_
      refine RL.gq rfl rfl (Yld.fieldAddr fo29_7 rfl) rfl ?_
      refine RL.gq rfl rfl (Yld.ld 101 Tryz.underlying3 rfl rfl rfl rfl) rfl ?_
      refine RL.gq rfl rfl (Yld.bin rfl rfl (by first | exact BinV.sub (by omega) (by omega) | exact BinV.subW)) rfl ?_
      refine RL.ge rfl rfl (Eff.call ent45 [] [] (.cons rfl (.cons rfl (.cons rfl .nil))) (rwithin_ct m.re 0 (m.sl - 1)) rfl rfl rfl rfl (by rintro _ _ ⟨_, rfl⟩; rfl)) rfl ?_
      rintro _ _ ⟨_, ⟨rfl, rfl⟩, rfl⟩
      refine RL.q Yld.pk rfl ?_
      exact RL.nil (N.meet (.to rfl) (.to rfl))
     ·
      intro hg66
      refine RL.gskip rfl rfl rfl rfl ?_
      refine RL.gskip rfl rfl rfl rfl ?_
      refine RL.gskip rfl rfl rfl rfl ?_
      refine RL.gskip rfl rfl rfl rfl ?_
      refine RL.gskip rfl rfl rfl rfl ?_
      refine RL.gskip rfl rfl rfl rfl ?_
      refine RL.q Yld.pk rfl ?_
      exact RL.nil (N.meet (.to rfl) (.to rfl))
     refine RL.q (Yld.move rfl) rfl ?_
     refine' RL.and (t := 74) (d := 78) 4 rfl (.of [1, 4, 44, 55, 56, 57, 58, 59, 60, 65, 73] rfl) (.of [0, 1, 101] rfl) ?_ ?_ ?_
     rotate_left 1
     ·
      intro hg74
      refine RL.gq rfl rfl (Yld.fieldAddr fo29_9 rfl) rfl ?_
      refine RL.gq rfl rfl (Yld.ld 101 Tryz.underlying3 rfl rfl rfl rfl) rfl ?_
      refine RL.ge rfl rfl (Eff.call ent45 [] [] (.cons rfl (.cons rfl (.cons rfl .nil))) (rwithin_ct m.fa 0 7) rfl rfl rfl rfl (by rintro _ _ ⟨_, rfl⟩; rfl)) rfl ?_
      rintro _ _ ⟨_, ⟨rfl, rfl⟩, rfl⟩
      refine RL.q Yld.pk rfl ?_
      exact RL.nil (N.meet (.to rfl) (.to rfl))
     ·
      intro hg74
      refine RL.gskip rfl rfl rfl rfl ?_
      refine RL.gskip rfl rfl rfl rfl ?_
      refine RL.gskip rfl rfl rfl rfl ?_
      refine RL.q Yld.pk rfl ?_
      exact RL.nil (N.meet (.to rfl) (.to rfl))
     refine RL.q (Yld.assign rfl) rfl (RL.nil (N.next ?_))
     refine W.keep (.of [2] rfl) (.of [0, 1, 101] rfl) ?_
     refine W.ret ?_
     exact N.retBy [1] (.cons (.tmp rfl) .nil) rfl rfl rfl rfl ⟨by show Value.bool _ = Value.bool _; congr 1; rw [Bool.eq_iff_iff]; rw [pB_iff, Bool.and_eq_true, Bool.and_eq_true, Bool.and_eq_true, decide_eq_true_eq, decide_eq_true_eq, decide_eq_true_eq, decide_eq_true_eq]; exact ⟨fun ⟨⟨⟨a, b⟩, c⟩, d⟩ => ⟨hc24.1.1.1, by omega, by omega, a, b, c, d, hc24.2, fun z hz => by obtain ⟨q, hq⟩ := List.getElem?_of_mem hz; exact hI q z (by have := (List.getElem?_eq_some_iff.1 hq).1; omega) hq, fun z hz => by obtain ⟨q, hq⟩ := List.getElem?_of_mem hz; exact hJ q z (by have := (List.getElem?_eq_some_iff.1 hq).1; omega) hq⟩, fun h => ⟨⟨⟨h.da, h.sl⟩, h.re⟩, h.fa⟩⟩, rfl⟩
end Go.Proofs.YtboapdcmaeojgaaGreatDoor
namespace Go.Proofs.YtboapdcmaeojgaaGreatDoor
open Go.Shelf
def Tryz.lays157_ren : Go.Shelf.Ren := ⟨fun | 157 => 165 | 229 => 191 | 199 => 192 | 261 => 195 | 311 => 204 | 312 => 205 | n => n, fun | 9 => 9 | 31 => 22 | 3 => 3 | 5 => 5 | 4 => 4 | 119 => 218 | 0 => 0 | 40 => 168 | 152 => 224 | 21 => 21 | 154 => 226 | 51 => 193 | 141 => 228 | 196 => 237 | 193 => 234 | 198 => 240 | 49 => 238 | 194 => 235 | 201 => 243 | 226 => 247 | 46 => 140 | 227 => 248 | n => n, fun | 0 => 0 | 6 => 1 | n => n⟩
theorem Tryz.lays157 : Go.Proofs.Lays.n157 Tryz.prog Tryz.lays157_ren := {
  mixed := by kernel_rfl
  f157 := Tryz.func165.trans (congrArg some (by kernel_rfl))
  f199 := Tryz.func192.trans (congrArg some (by kernel_rfl))
  f229 := Tryz.func191.trans (congrArg some (by kernel_rfl))
  f261 := Tryz.func195.trans (congrArg some (by kernel_rfl))
  f311 := Tryz.func204.trans (congrArg some (by kernel_rfl))
  f312 := Tryz.func205.trans (congrArg some (by kernel_rfl))
  t0 := Tryz.underlying0
  a0 := Tryz.isAgg0
  z0 := Tryz.sizeOf0
  v0 := Tryz.zeroValue0
  t3 := Tryz.underlying3
  a3 := Tryz.isAgg3
  z3 := Tryz.sizeOf3
  v3 := Tryz.zeroValue3
  t4 := Tryz.underlying4
  a4 := Tryz.isAgg4
  z4 := Tryz.sizeOf4
  v4 := Tryz.zeroValue4
  t5 := Tryz.underlying5
  a5 := Tryz.isAgg5
  z5 := Tryz.sizeOf5
  v5 := Tryz.zeroValue5
  t9 := Tryz.underlying9
  a9 := Tryz.isAgg9
  z9 := Tryz.sizeOf9
  v9 := Tryz.zeroValue9
  t21 := Tryz.underlying21
  a21 := Tryz.isAgg21
  z21 := Tryz.sizeOf21
  v21 := Tryz.zeroValue21
  t31 := Tryz.underlying22
  a31 := Tryz.isAgg22
  z31 := Tryz.sizeOf22
  v31 := Tryz.zeroValue22
  t40 := Tryz.underlying168
  a40 := Tryz.isAgg168
  z40 := Tryz.sizeOf168
  v40 := Tryz.zeroValue168
  t46 := Tryz.underlying140
  a46 := Tryz.isAgg140
  z46 := Tryz.sizeOf140
  v46 := Tryz.zeroValue140
  t49 := Tryz.underlying238
  a49 := Tryz.isAgg238
  z49 := Tryz.sizeOf238
  v49 := Tryz.zeroValue238
  t51 := Tryz.underlying193
  a51 := Tryz.isAgg193
  z51 := Tryz.sizeOf193
  v51 := Tryz.zeroValue193
  t119 := Tryz.underlying218
  a119 := Tryz.isAgg218
  z119 := Tryz.sizeOf218
  t141 := Tryz.underlying228
  a141 := Tryz.isAgg228
  z141 := Tryz.sizeOf228
  v141 := Tryz.zeroValue228
  t152 := Tryz.underlying224
  a152 := Tryz.isAgg224
  z152 := Tryz.sizeOf224
  v152 := Tryz.zeroValue224
  t154 := Tryz.underlying226
  a154 := Tryz.isAgg226
  z154 := Tryz.sizeOf226
  v154 := Tryz.zeroValue226
  t193 := Tryz.underlying234
  a193 := Tryz.isAgg234
  z193 := Tryz.sizeOf234
  v193 := Tryz.zeroValue234
  t194 := Tryz.underlying235
  a194 := Tryz.isAgg235
  z194 := Tryz.sizeOf235
  v194 := Tryz.zeroValue235
  t196 := Tryz.underlying237
  a196 := Tryz.isAgg237
  z196 := Tryz.sizeOf237
  v196 := Tryz.zeroValue237
  t198 := Tryz.underlying240
  a198 := Tryz.isAgg240
  z198 := Tryz.sizeOf240
  v198 := Tryz.zeroValue240
  t201 := Tryz.underlying243
  a201 := Tryz.isAgg243
  z201 := Tryz.sizeOf243
  v201 := Tryz.zeroValue243
  t226 := Tryz.underlying247
  a226 := Tryz.isAgg247
  z226 := Tryz.sizeOf247
  v226 := Tryz.zeroValue247
  t227 := Tryz.underlying248
  a227 := Tryz.isAgg248
  z227 := Tryz.sizeOf248
  v227 := Tryz.zeroValue248
  g0 := by kernel_rfl
  g6 := by kernel_rfl }
open Go.RowKit Go.Lib in
theorem Tryz.strings_Fields (s : ByteArray) (w : World) (hs : s.size < 4294967281) (hascii : ∀ (j : Nat) b, s.data.toList[j]? = some b → b.toNat < 128) (htab : Lib.TabIs Tryz.prog w "strings.asciiSpace" .u8 Lib.asciiSpaceTab) :
    Calls Tryz.prog 165 #[.string s] w fun e w' =>
      e = .returned (.slice (some ⟨w.heap.size, 0, none⟩) (Lib.fields s.data.toList).length (Lib.fields s.data.toList).length) ∧ w' = w.alloc (.cells ((Lib.fields s.data.toList).map fun l => Value.string ⟨l.toArray⟩).toArray 9) := Any.strings_Fields Tryz.lays157 (by kernel_rfl) (by kernel_rfl) s w hs hascii htab
end Go.Proofs.YtboapdcmaeojgaaGreatDoor
namespace Go.Proofs.YtboapdcmaeojgaaGreatDoor
open SL Cat
set_option linter.unusedVariables false
set_option linter.unusedSimpArgs false
theorem ent165 : Ent Tryz.prog 165 := ⟨_, _, Tryz.func165, by kernel_rfl, rfl⟩
theorem ent120 : Ent Tryz.prog 120 := ⟨_, _, Tryz.func120, by kernel_rfl, rfl⟩
theorem ent122 : Ent Tryz.prog 122 := ⟨_, _, Tryz.func122, by kernel_rfl, rfl⟩
theorem ent121 : Ent Tryz.prog 121 := ⟨_, _, Tryz.func121, by kernel_rfl, rfl⟩
def Cat.TabS (H : PH) : Prop := ∀ w, H.sub w → Lib.TabIs Tryz.prog w "strings.asciiSpace" .u8 Lib.asciiSpaceTab
theorem Cat.TabS.mono {H H' : PH} (h : TabS H) (hs : ∀ b o, H b = some o → H' b = some o) : TabS H' := fun w hw => h w fun b o hb => hw b o (hs b o hb)
theorem Cat.tz_flat : ∀ l : List Ky, (tz l).flatten = l.map Value.string
  | [] => rfl
  | a :: l => by show _ :: (tz l).flatten = _; rw [tz_flat l]; rfl
theorem fields_ct (H1 : PH) (hT : TabS H1) : Ct Tryz.prog 165 [.string kwText] [H1] (fun v Hs => ∃ H' p', v = .slice p' kws.length kws.length ∧ Sl H' p' kws.length 1 (tz kws) ∧ Hs = [H1, H']) := fun E F w hm =>
  (Tryz.strings_Fields kwText w (by decide +kernel) kwText_ascii (hT w (hm.sub 1 H1 rfl))).mono fun e w' ⟨he, hw⟩ => by
    have hl : (Lib.fields kwText.data.toList).length = kws.length := by rw [← kwText_fields, List.length_map]
    have hc : ((Lib.fields kwText.data.toList).map fun l => Value.string ⟨l.toArray⟩).toArray = (tz kws).flatten.toArray := by
      rw [← kwText_fields, tz_flat, List.map_map]; rfl
    rw [hl] at he
    rw [hc] at hw
    refine ⟨_, _, he, ⟨_, _, rfl, (Own.mk (e := 9) (n := 1) (c := kws.length) [] (by intro l hl; simp only [tz, List.mem_map] at hl; obtain ⟨s, _, rfl⟩ := hl; exact ⟨rfl, by simp [Value.oneCell']⟩) (by rw [tz_len]; exact Nat.le_refl _) (by rw [kws_len]; simp [maxLen]) (by kernel_rfl) (by rw [List.append_nil])).sl, rfl⟩, ?_⟩
    rw [hw]
    exact (hm.alloc 2 _).weak fun i J h => by
      unfold lab lab at h
      simp only [lk_cons] at h ⊢
      split at h
      · rename_i e0; subst e0; cases h; simp [lab, lk_cons]
      · split at h
        · rename_i e0 e1; subst e1; cases h; simp [lab, lk_cons]
        · simp only [lab, lk_cons] at h
          split at h
          · rename_i e2; subst e2; cases h; simp
          · cases h
set_option maxRecDepth 100000 in
set_option maxHeartbeats 400000 in
theorem keywords_ct (H1 : PH) (hT : TabS H1) : Ct Tryz.prog 122 [] [H1] (fun v Hs => ∃ H' p', v = .slice p' kws.length kws.length ∧ Sl H' p' kws.length 1 (tz kws) ∧ Hs = [H1, H']) := by
  refine Ct.body Tryz.func122 rfl Tryz.ntmps122 rfl ?_
  intro E F
  refine W.seq (W.region ?_)
  refine RL.q (Yld.assign rfl) rfl (RL.nil (N.next ?_))
  refine W.seq (W.region ?_)
  refine RL.e (Eff.call ent165 [1] [1, 160] (.cons rfl .nil) (fields_ct H1 hT) rfl rfl rfl rfl (by rintro _ _ ⟨_, _, _, _, rfl⟩; rfl)) rfl ?_
  rintro _ _ ⟨_, ⟨Hk, pk, rfl, hSk, rfl⟩, rfl⟩
  refine RL.q (Yld.assign rfl) rfl (RL.nil (N.next ?_))
  refine W.ret ?_
  exact N.retBy [1, 160] (.cons (.tmp rfl) .nil) rfl rfl rfl rfl ⟨Hk, pk, rfl, hSk, rfl⟩
set_option maxRecDepth 100000 in
set_option maxHeartbeats 1600000 in
theorem isName_ct (s : Ky) (H1 : PH) (hT : TabS H1) : Ct Tryz.prog 69 [.string s] [H1] (fun v Hs => v = .bool (nameB s) ∧ Hs = [H1]) := by
  refine Ct.body Tryz.func69 rfl Tryz.ntmps69 rfl ?_
  intro E F
  refine W.seq (W.region ?_)
  refine RL.q (Yld.assign rfl) rfl (RL.nil (N.next ?_))
  refine W.seq (W.region ?_)
  refine RL.q (Yld.assign rfl) rfl (RL.nil (N.next ?_))
  refine W.seq (W.region ?_)
  refine RL.q (Yld.move rfl) rfl ?_
  refine RL.q (Yld.lenS Tryz.underlying9 rfl) rfl ?_
  refine RL.q (Yld.bin rfl rfl BinV.geq) rfl ?_
  refine RL.q (Yld.move rfl) rfl ?_
  refine' RL.and (t := 7) (d := 11) 4 rfl (.of [0, 2, 3, 4, 5, 6] rfl) (.of [0, 1] rfl) ?_ ?_ ?_
  rotate_left 1
  ·
   intro hg7
   refine RL.gq rfl rfl (Yld.move rfl) rfl ?_
   refine RL.gq rfl rfl (Yld.lenS Tryz.underlying9 rfl) rfl ?_
   refine RL.gq rfl rfl (Yld.bin rfl rfl BinV.leq) rfl ?_
   refine RL.q Yld.pk rfl ?_
   exact RL.nil (N.meet (.to rfl) (.to rfl))
  ·
   intro hg7
   refine RL.gskip rfl rfl rfl rfl ?_
   refine RL.gskip rfl rfl rfl rfl ?_
   refine RL.gskip rfl rfl rfl rfl ?_
   refine RL.q Yld.pk rfl ?_
   exact RL.nil (N.meet (.to rfl) (.to rfl))
  refine RL.q (Yld.move rfl) rfl ?_
  refine' RL.and (t := 12) (d := 16) 4 rfl (.of [0, 2, 3, 4, 5, 6, 11] rfl) (.of [0, 1] rfl) ?_ ?_ ?_
  rotate_left 1
  ·
   intro hg12
   have hsz : 1 ≤ s.size ∧ s.size ≤ 31 := by
     simp only [Bool.and_eq_true, decide_eq_true_eq] at hg12
     omega
   have hsz0 : 0 < s.size := hsz.1
   refine RL.gq rfl rfl (Yld.move rfl) rfl ?_
   refine RL.gq rfl rfl (Yld.indexS Tryz.underlying9 rfl rfl (by first | rfl | omega) (by first | omega | assumption)) rfl ?_
   refine RL.gq rfl rfl (Yld.bin rfl rfl BinV.geq) rfl ?_
   refine RL.q Yld.pk rfl ?_
   exact RL.nil (N.meet (.to rfl) (.to rfl))
  ·
   intro hg12
   refine RL.gskip rfl rfl rfl rfl ?_
   refine RL.gskip rfl rfl rfl rfl ?_
   refine RL.gskip rfl rfl rfl rfl ?_
   refine RL.q Yld.pk rfl ?_
   exact RL.nil (N.meet (.to rfl) (.to rfl))
  refine RL.q (Yld.move rfl) rfl ?_
  refine' RL.and (t := 17) (d := 21) 4 rfl (.of [0, 2, 3, 4, 5, 6, 11, 16] rfl) (.of [0, 1] rfl) ?_ ?_ ?_
  rotate_left 1
  ·
   intro hg17
   have hsz : 1 ≤ s.size ∧ s.size ≤ 31 := by
     simp only [Bool.and_eq_true, decide_eq_true_eq] at hg17
     omega
   have hsz0 : 0 < s.size := hsz.1
   refine RL.gq rfl rfl (Yld.move rfl) rfl ?_
   refine RL.gq rfl rfl (Yld.indexS Tryz.underlying9 rfl rfl (by first | rfl | omega) (by first | omega | assumption)) rfl ?_
   refine RL.gq rfl rfl (Yld.bin rfl rfl BinV.leq) rfl ?_
   refine RL.q Yld.pk rfl ?_
   exact RL.nil (N.meet (.to rfl) (.to rfl))
  ·
   intro hg17
   refine RL.gskip rfl rfl rfl rfl ?_
   refine RL.gskip rfl rfl rfl rfl ?_
   refine RL.gskip rfl rfl rfl rfl ?_
   refine RL.q Yld.pk rfl ?_
   exact RL.nil (N.meet (.to rfl) (.to rfl))
  refine RL.q (Yld.move rfl) rfl ?_
  refine' RL.and (t := 22) (d := 27) 5 rfl (.of [0, 2, 3, 4, 5, 6, 11, 16, 21] rfl) (.of [0, 1] rfl) ?_ ?_ ?_
  rotate_left 1
  ·
   intro hg22
   have hsz : 1 ≤ s.size ∧ s.size ≤ 31 := by
     simp only [Bool.and_eq_true, decide_eq_true_eq] at hg22
     omega
   have hsz0 : 0 < s.size := hsz.1
   refine RL.gq rfl rfl (Yld.move rfl) rfl ?_
   refine RL.gq rfl rfl (Yld.move rfl) rfl ?_
   refine RL.ge rfl rfl (Eff.call ent120 [] [] (.cons rfl (.cons rfl .nil)) (containsFuncS_ct s (by omega)) rfl rfl rfl rfl (by rintro _ _ ⟨_, rfl⟩; rfl)) rfl ?_
   rintro _ _ ⟨_, ⟨rfl, rfl⟩, rfl⟩
   refine RL.gq rfl rfl Yld.nt rfl ?_
   refine RL.q Yld.pk rfl ?_
   exact RL.nil (N.meet (.to rfl) (.to rfl))
  ·
   intro hg22
   refine RL.gskip rfl rfl rfl rfl ?_
   refine RL.gskip rfl rfl rfl rfl ?_
   refine RL.gskip rfl rfl rfl rfl ?_
   refine RL.gskip rfl rfl rfl rfl ?_
   refine RL.q Yld.pk rfl ?_
   exact RL.nil (N.meet (.to rfl) (.to rfl))
  refine RL.q (Yld.move rfl) rfl ?_
  refine' RL.and (t := 28) (d := 33) 5 rfl (.of [0, 2, 3, 4, 5, 6, 11, 16, 21, 27] rfl) (.of [0, 1] rfl) ?_ ?_ ?_
  rotate_left 1
  ·
   intro hg28
   refine RL.ge rfl rfl (Eff.call ent122 [1] [1, 160] .nil (keywords_ct H1 hT) rfl rfl rfl rfl (by rintro _ _ ⟨_, _, _, _, rfl⟩; rfl)) rfl ?_
   rintro _ _ ⟨_, ⟨Hk, pk, rfl, hSk, rfl⟩, rfl⟩
   refine RL.gq rfl rfl (Yld.move rfl) rfl ?_
   refine RL.ge rfl rfl (Eff.call ent121 [160] [160] (.cons rfl (.cons rfl .nil)) (containsT_ct kws Hk pk _ hSk s) rfl rfl rfl rfl (by rintro _ _ ⟨_, rfl⟩; rfl)) rfl ?_
   rintro _ _ ⟨_, ⟨rfl, rfl⟩, rfl⟩
   refine RL.gq rfl rfl Yld.nt rfl ?_
   refine RL.q Yld.pk rfl ?_
   exact RL.nil (N.meet (.to rfl) (.to rfl))
  ·
   intro hg28
   refine RL.gskip rfl rfl rfl rfl ?_
   refine RL.gskip rfl rfl rfl rfl ?_
   refine RL.gskip rfl rfl rfl rfl ?_
   refine RL.gskip rfl rfl rfl rfl ?_
   refine RL.q Yld.pk rfl ?_
   exact RL.nil (N.meet (.to rfl) (.to rfl))
  refine RL.q (Yld.assign rfl) rfl (RL.nil (N.next ?_))
  refine W.keep (.of [2] rfl) (.of [0, 1] rfl) ?_
  refine W.ret ?_
  exact N.retBy [1] (.cons (.tmp rfl) .nil) rfl rfl rfl rfl ⟨by rw [← name_and]; rfl, rfl⟩
end Go.Proofs.YtboapdcmaeojgaaGreatDoor
namespace Go.Proofs.YtboapdcmaeojgaaGreatDoor
open SL Cat
set_option linter.unusedVariables false
set_option linter.unusedSimpArgs false
theorem ent71 : Ent Tryz.prog 71 := ⟨_, _, Tryz.func71, by kernel_rfl, rfl⟩
theorem ent74 : Ent Tryz.prog 74 := ⟨_, _, Tryz.func74, by kernel_rfl, rfl⟩
theorem ent72 : Ent Tryz.prog 72 := ⟨_, _, Tryz.func72, by kernel_rfl, rfl⟩
theorem ent75 : Ent Tryz.prog 75 := ⟨_, _, Tryz.func75, by kernel_rfl, rfl⟩
theorem ent66 : Ent Tryz.prog 66 := ⟨_, _, Tryz.func66, by kernel_rfl, rfl⟩
theorem ent68 : Ent Tryz.prog 68 := ⟨_, _, Tryz.func68, by kernel_rfl, rfl⟩
theorem ent69 : Ent Tryz.prog 69 := ⟨_, _, Tryz.func69, by kernel_rfl, rfl⟩
theorem zv4 : zv Tryz.prog 4 (.bool false) := (by kernel_rfl : (Tryz.prog.info? 4).bind (·.zero) = some (.bool false))
theorem ent70 : Ent Tryz.prog 70 := ⟨_, _, Tryz.func70, by kernel_rfl, rfl⟩
theorem ent73 : Ent Tryz.prog 73 := ⟨_, _, Tryz.func73, by kernel_rfl, rfl⟩
set_option maxRecDepth 100000 in
set_option maxHeartbeats 400000 in
theorem validC1_ct (m : Md) (H1 : PH) (hM : m.In H1) (b : Nat) (x : It) (hx : x ∈ m.is) : Ct Tryz.prog 71 [.agg [.string x.nm, .int .i64 x.kd, .int .i64 x.cnt, .int .i64 x.ld, .int .i64 x.sz, .int .i64 x.sh, .slice x.po x.on.length x.co].toArray, .pointer (some ⟨b, 0, none⟩)] [H1, single b (.cells [.slice m.psi m.si.length m.csi, .slice m.pfe m.fe.length m.cfe, .slice m.prk m.rk.length m.crk, .slice m.pmc m.mc.length m.cmc, .slice m.pln m.ln.length m.cln, .slice m.pis m.is.length m.cis, .int .i64 m.da, .int .i64 m.sl, .int .i64 m.re, .int .i64 m.fa, .slice m.prl m.rl.length m.crl].toArray 29 (0, 0))] (fun v Hs => v = .bool (!itB m x) ∧ Hs = [H1, single b (.cells [.slice m.psi m.si.length m.csi, .slice m.pfe m.fe.length m.cfe, .slice m.prk m.rk.length m.crk, .slice m.pmc m.mc.length m.cmc, .slice m.pln m.ln.length m.cln, .slice m.pis m.is.length m.cis, .int .i64 m.da, .int .i64 m.sl, .int .i64 m.re, .int .i64 m.fa, .slice m.prl m.rl.length m.crl].toArray 29 (0, 0))]) := by
  refine Ct.body Tryz.func71 rfl Tryz.ntmps71 rfl ?_
  intro E F
  refine W.seq (W.region ?_)
  refine RL.e (Eff.box 102 _ rfl rfl) rfl ?_
  rintro _ _ ⟨b2, rfl, rfl⟩
  refine RL.q (Yld.assign rfl) rfl (RL.nil (N.next ?_))
  refine W.seq (W.region ?_)
  refine RL.q (Yld.ldW 2 Tryz.underlying29 sz29 rfl rfl rfl rfl) rfl ?_
  refine RL.q (Yld.ldW 102 Tryz.underlying64 sz64 rfl rfl rfl rfl) rfl ?_
  refine RL.e (Eff.call ent72 [1] [1] (.cons rfl (.cons rfl .nil)) (validItem_ct m H1 hM x (hM.on x hx)) rfl rfl rfl rfl (by rintro _ _ ⟨_, rfl⟩; rfl)) rfl ?_
  rintro _ _ ⟨_, ⟨rfl, rfl⟩, rfl⟩
  refine RL.q Yld.nt rfl (RL.q (Yld.assign rfl) rfl (RL.nil (N.next ?_)))
  refine W.keep (.of [3] rfl) (.of [0, 1, 2, 102] rfl) ?_
  refine W.ret ?_
  exact N.retBy [1, 2] (.cons (.tmp rfl) .nil) rfl rfl rfl rfl ⟨rfl, rfl⟩
set_option maxRecDepth 100000 in
set_option maxHeartbeats 400000 in
theorem validC2_ct (m : Md) (H1 : PH) (hM : m.In H1) (b : Nat) (x : Rl) (hx : x ∈ m.rl) : Ct Tryz.prog 74 [.agg [.int .i64 x.kd, .int .i64 x.it, .int .i64 x.ot, .int .i64 x.n, .int .i64 x.bq, .bool x.al, .slice x.pm x.ms.length x.cm].toArray, .pointer (some ⟨b, 0, none⟩)] [H1, single b (.cells [.slice m.psi m.si.length m.csi, .slice m.pfe m.fe.length m.cfe, .slice m.prk m.rk.length m.crk, .slice m.pmc m.mc.length m.cmc, .slice m.pln m.ln.length m.cln, .slice m.pis m.is.length m.cis, .int .i64 m.da, .int .i64 m.sl, .int .i64 m.re, .int .i64 m.fa, .slice m.prl m.rl.length m.crl].toArray 29 (0, 0))] (fun v Hs => v = .bool (!rlB m x) ∧ Hs = [H1, single b (.cells [.slice m.psi m.si.length m.csi, .slice m.pfe m.fe.length m.cfe, .slice m.prk m.rk.length m.crk, .slice m.pmc m.mc.length m.cmc, .slice m.pln m.ln.length m.cln, .slice m.pis m.is.length m.cis, .int .i64 m.da, .int .i64 m.sl, .int .i64 m.re, .int .i64 m.fa, .slice m.prl m.rl.length m.crl].toArray 29 (0, 0))]) := by
  refine Ct.body Tryz.func74 rfl Tryz.ntmps74 rfl ?_
  intro E F
  refine W.seq (W.region ?_)
  refine RL.e (Eff.box 102 _ rfl rfl) rfl ?_
  rintro _ _ ⟨b2, rfl, rfl⟩
  refine RL.q (Yld.assign rfl) rfl (RL.nil (N.next ?_))
  refine W.seq (W.region ?_)
  refine RL.q (Yld.ldW 2 Tryz.underlying29 sz29 rfl rfl rfl rfl) rfl ?_
  refine RL.q (Yld.ldW 102 Tryz.underlying97 sz97 rfl rfl rfl rfl) rfl ?_
  refine RL.e (Eff.call ent75 [1] [1] (.cons rfl (.cons rfl .nil)) (validRule_ct m H1 hM x (hM.ms x hx)) rfl rfl rfl rfl (by rintro _ _ ⟨_, rfl⟩; rfl)) rfl ?_
  rintro _ _ ⟨_, ⟨rfl, rfl⟩, rfl⟩
  refine RL.q Yld.nt rfl (RL.q (Yld.assign rfl) rfl (RL.nil (N.next ?_)))
  refine W.keep (.of [3] rfl) (.of [0, 1, 2, 102] rfl) ?_
  refine W.ret ?_
  exact N.retBy [1, 2] (.cons (.tmp rfl) .nil) rfl rfl rfl rfl ⟨rfl, rfl⟩
structure Cat.VI where
  j : Nat
  es : Array MapEntry
  ck : Nat
  mm : List (ByteArray × Value)
theorem used_step {mm : List (ByteArray × Value)} {l : List Ky} {j : Nat} {s : Ky} (hs : l[j]? = some s) (hr : ∀ z, (mget mm z).getD (.bool false) = .bool (pB (z ∈ l.take j))) : ∀ z, (mget (mset mm s (.bool true)) z).getD (.bool false) = .bool (pB (z ∈ l.take (j + 1))) := fun z => by
  rw [mget_mset, List.take_add_one, hs]
  by_cases e : s = z
  · subst e; rw [if_pos rfl, pB_true (by simp)]; rfl
  · rw [if_neg e, hr]; congr 1; rw [Bool.eq_iff_iff, pB_iff, pB_iff]; simp [Ne.symm e]
set_option maxRecDepth 100000 in
set_option maxHeartbeats 3200000 in
theorem valid_ct (m : Md) (H1 : PH) (hM : m.In H1) (hT : TabS H1) : Ct Tryz.prog 34 [.agg [.slice m.psi m.si.length m.csi, .slice m.pfe m.fe.length m.cfe, .slice m.prk m.rk.length m.crk, .slice m.pmc m.mc.length m.cmc, .slice m.pln m.ln.length m.cln, .slice m.pis m.is.length m.cis, .int .i64 m.da, .int .i64 m.sl, .int .i64 m.re, .int .i64 m.fa, .slice m.prl m.rl.length m.crl].toArray] [H1] (fun v Hs => v = .bool (pB (MdV m)) ∧ Hs = [H1]) := by
  refine Ct.body Tryz.func34 rfl Tryz.ntmps34 rfl ?_
  intro E F
  refine W.seq (W.region ?_)
  refine RL.e (Eff.box 101 _ rfl rfl) rfl ?_
  rintro _ _ ⟨b1, rfl, rfl⟩
  refine RL.q (Yld.assign rfl) rfl (RL.nil (N.next ?_))
  refine W.seq ?_
  refine W.seq (W.region ?_)
  refine RL.q (Yld.ldW 101 Tryz.underlying29 sz29 rfl rfl rfl rfl) rfl ?_
  refine RL.e (Eff.call ent66 [1] [1] (.cons rfl .nil) (site_ct m H1 hM) rfl rfl rfl rfl (by rintro _ _ ⟨_, rfl⟩; rfl)) rfl ?_
  rintro _ _ ⟨_, ⟨rfl, rfl⟩, rfl⟩
  refine RL.q Yld.nt rfl (RL.q (Yld.move rfl) rfl ?_)
  refine' RL.or (t := 9) (d := 14) 5 rfl (.of [0, 1, 2, 6, 7, 8] rfl) (.of [0, 1, 101] rfl) ?_ ?_ ?_
  rotate_left 1
  ·
   intro hg9
   refine RL.gq rfl rfl (Yld.fieldAddr fo29_5 rfl) rfl ?_
   refine RL.gq rfl rfl (Yld.ld 101 Tryz.underlying26 rfl rfl rfl rfl) rfl ?_
   refine RL.gq rfl rfl (Yld.lenSl Tryz.underlying26 rfl) rfl ?_
   refine RL.gq rfl rfl (Yld.bin rfl rfl BinV.gtr) rfl ?_
   refine RL.q Yld.pk rfl ?_
   exact RL.nil (N.meet (.to rfl) (.to rfl))
  ·
   intro hg9
   refine RL.gskip rfl rfl rfl rfl ?_
   refine RL.gskip rfl rfl rfl rfl ?_
   refine RL.gskip rfl rfl rfl rfl ?_
   refine RL.gskip rfl rfl rfl rfl ?_
   refine RL.q Yld.pk rfl ?_
   exact RL.nil (N.meet (.to rfl) (.to rfl))
  refine RL.q (Yld.move rfl) rfl ?_
  refine' RL.or (t := 15) (d := 20) 5 rfl (.of [0, 1, 2, 6, 7, 8, 14] rfl) (.of [0, 1, 101] rfl) ?_ ?_ ?_
  rotate_left 1
  ·
   intro hg15
   refine RL.gq rfl rfl (Yld.fieldAddr fo29_10 rfl) rfl ?_
   refine RL.gq rfl rfl (Yld.ld 101 Tryz.underlying27 rfl rfl rfl rfl) rfl ?_
   refine RL.gq rfl rfl (Yld.lenSl Tryz.underlying27 rfl) rfl ?_
   refine RL.gq rfl rfl (Yld.bin rfl rfl BinV.gtr) rfl ?_
   refine RL.q Yld.pk rfl ?_
   exact RL.nil (N.meet (.to rfl) (.to rfl))
  ·
   intro hg15
   refine RL.gskip rfl rfl rfl rfl ?_
   refine RL.gskip rfl rfl rfl rfl ?_
   refine RL.gskip rfl rfl rfl rfl ?_
   refine RL.gskip rfl rfl rfl rfl ?_
   refine RL.q Yld.pk rfl ?_
   exact RL.nil (N.meet (.to rfl) (.to rfl))
  refine RL.q (Yld.move rfl) rfl ?_
  refine' RL.or (t := 21) (d := 29) 8 rfl (.of [0, 1, 2, 6, 7, 8, 14, 20] rfl) (.of [0, 1, 101] rfl) ?_ ?_ ?_
  rotate_left 1
  ·
   intro hg21
   refine RL.gq rfl rfl (Yld.fieldAddr fo29_6 rfl) rfl ?_
   refine RL.gq rfl rfl (Yld.ld 101 Tryz.underlying3 rfl rfl rfl rfl) rfl ?_
   refine RL.gq rfl rfl (Yld.fieldAddr fo29_0 rfl) rfl ?_
   refine RL.gq rfl rfl (Yld.ld 101 Tryz.underlying22 rfl rfl rfl rfl) rfl ?_
   refine RL.gq rfl rfl (Yld.lenSl Tryz.underlying22 rfl) rfl ?_
   refine RL.ge rfl rfl (Eff.call ent67 [] [] (.cons rfl (.cons rfl (.cons rfl .nil))) (within_ct m.da 1 m.si.length) rfl rfl rfl rfl (by rintro _ _ ⟨_, rfl⟩; rfl)) rfl ?_
   rintro _ _ ⟨_, ⟨rfl, rfl⟩, rfl⟩
   refine RL.gq rfl rfl Yld.nt rfl ?_
   refine RL.q Yld.pk rfl ?_
   exact RL.nil (N.meet (.to rfl) (.to rfl))
  ·
   intro hg21
   refine RL.gskip rfl rfl rfl rfl ?_
   refine RL.gskip rfl rfl rfl rfl ?_
   refine RL.gskip rfl rfl rfl rfl ?_
   refine RL.gskip rfl rfl rfl rfl ?_
   refine RL.gskip rfl rfl rfl rfl ?_
   refine RL.gskip rfl rfl rfl rfl ?_
   refine RL.gskip rfl rfl rfl rfl ?_
   refine RL.q Yld.pk rfl ?_
   exact RL.nil (N.meet (.to rfl) (.to rfl))
  refine RL.q (Yld.move rfl) rfl ?_
  refine' RL.or (t := 30) (d := 35) 5 rfl (.of [0, 1, 2, 6, 7, 8, 14, 20, 29] rfl) (.of [0, 1, 101] rfl) ?_ ?_ ?_
  rotate_left 1
  ·
   intro hg30
   refine RL.gq rfl rfl (Yld.fieldAddr fo29_7 rfl) rfl ?_
   refine RL.gq rfl rfl (Yld.ld 101 Tryz.underlying3 rfl rfl rfl rfl) rfl ?_
   refine RL.ge rfl rfl (Eff.call ent67 [] [] (.cons rfl (.cons rfl (.cons rfl .nil))) (within_ct m.sl 1 16) rfl rfl rfl rfl (by rintro _ _ ⟨_, rfl⟩; rfl)) rfl ?_
   rintro _ _ ⟨_, ⟨rfl, rfl⟩, rfl⟩
   refine RL.gq rfl rfl Yld.nt rfl ?_
   refine RL.q Yld.pk rfl ?_
   exact RL.nil (N.meet (.to rfl) (.to rfl))
  ·
   intro hg30
   refine RL.gskip rfl rfl rfl rfl ?_
   refine RL.gskip rfl rfl rfl rfl ?_
   refine RL.gskip rfl rfl rfl rfl ?_
   refine RL.gskip rfl rfl rfl rfl ?_
   refine RL.q Yld.pk rfl ?_
   exact RL.nil (N.meet (.to rfl) (.to rfl))
  refine RL.q (Yld.move rfl) rfl ?_
  refine' RL.or (t := 36) (d := 44) 8 rfl (.of [0, 1, 2, 6, 7, 8, 14, 20, 29, 35] rfl) (.of [0, 1, 101] rfl) ?_ ?_ ?_
  rotate_left 1
  ·
   intro hg36
   have hsl1 : InR m.sl 1 16 := by
     simp only [Bool.or_eq_false_iff, decide_eq_false_iff_not, Classical.not_not] at hg36
     exact hg36.2
   obtain ⟨hs1, hs2⟩ := hsl1
   refine RL.gq rfl rfl (Yld.fieldAddr fo29_8 rfl) rfl ?_
   refine RL.gq rfl rfl (Yld.ld 101 Tryz.underlying3 rfl rfl rfl rfl) rfl ?_
   refine RL.gq rfl rfl (Yld.fieldAddr fo29_7 rfl) rfl ?_
   refine RL.gq rfl rfl (Yld.ld 101 Tryz.underlying3 rfl rfl rfl rfl) rfl ?_
   refine RL.gq rfl rfl (Yld.bin rfl rfl (by first | exact BinV.sub (by omega) (by omega) | exact BinV.subW)) rfl ?_
   refine RL.ge rfl rfl (Eff.call ent67 [] [] (.cons rfl (.cons rfl (.cons rfl .nil))) (within_ct m.re 0 (m.sl - 1)) rfl rfl rfl rfl (by rintro _ _ ⟨_, rfl⟩; rfl)) rfl ?_
   rintro _ _ ⟨_, ⟨rfl, rfl⟩, rfl⟩
   refine RL.gq rfl rfl Yld.nt rfl ?_
   refine RL.q Yld.pk rfl ?_
   exact RL.nil (N.meet (.to rfl) (.to rfl))
  ·
   intro hg36
   refine RL.gskip rfl rfl rfl rfl ?_
   refine RL.gskip rfl rfl rfl rfl ?_
   refine RL.gskip rfl rfl rfl rfl ?_
   refine RL.gskip rfl rfl rfl rfl ?_
   refine RL.gskip rfl rfl rfl rfl ?_
   refine RL.gskip rfl rfl rfl rfl ?_
   refine RL.gskip rfl rfl rfl rfl ?_
   refine RL.q Yld.pk rfl ?_
   exact RL.nil (N.meet (.to rfl) (.to rfl))
  refine RL.q (Yld.move rfl) rfl ?_
  refine' RL.or (t := 45) (d := 50) 5 rfl (.of [0, 1, 2, 6, 7, 8, 14, 20, 29, 35, 44] rfl) (.of [0, 1, 101] rfl) ?_ ?_ ?_
  rotate_left 1
  ·
   intro hg45
   refine RL.gq rfl rfl (Yld.fieldAddr fo29_9 rfl) rfl ?_
   refine RL.gq rfl rfl (Yld.ld 101 Tryz.underlying3 rfl rfl rfl rfl) rfl ?_
   refine RL.ge rfl rfl (Eff.call ent67 [] [] (.cons rfl (.cons rfl (.cons rfl .nil))) (within_ct m.fa 0 7) rfl rfl rfl rfl (by rintro _ _ ⟨_, rfl⟩; rfl)) rfl ?_
   rintro _ _ ⟨_, ⟨rfl, rfl⟩, rfl⟩
   refine RL.gq rfl rfl Yld.nt rfl ?_
   refine RL.q Yld.pk rfl ?_
   exact RL.nil (N.meet (.to rfl) (.to rfl))
  ·
   intro hg45
   refine RL.gskip rfl rfl rfl rfl ?_
   refine RL.gskip rfl rfl rfl rfl ?_
   refine RL.gskip rfl rfl rfl rfl ?_
   refine RL.gskip rfl rfl rfl rfl ?_
   refine RL.q Yld.pk rfl ?_
   exact RL.nil (N.meet (.to rfl) (.to rfl))
  refine RL.nil (N.next ?_)
  refine W.keep (.of [1, 50] rfl) (.of [0, 1, 101] rfl) ?_
  refine W.cond rfl (fun hc50 => ?_) (fun hc50 => ?_)
  ·
   have hhv : headV m = true := by unfold headV; exact hc50
   refine W.seq (W.region ?_)
   refine RL.q (Yld.assign rfl) rfl (RL.nil (N.next ?_))
   refine W.ret ?_
   refine N.then_ret ?_
   exact N.retBy [1] (.cons (.tmp rfl) .nil) rfl rfl rfl rfl ⟨by rw [pB_not (mdv_no hhv)]; rfl, rfl⟩
  ·
   have hhv : headV m = false := by unfold headV; exact hc50
   have hhs := headV_f.1 hhv
   have hsl1 := hhs.2.2.2.2.1
   refine W.skip ?_
   refine N.next ?_
   refine W.seq (W.region ?_)
   refine RL.e (Eff.makeMap 151) rfl ?_
   rintro _ _ ⟨b51, rfl, rfl⟩
   refine RL.q (Yld.assign rfl) rfl (RL.nil (N.next ?_))
   refine W.seq ?_
   refine W.seq (W.region ?_)
   refine RL.q (Yld.ldW 101 Tryz.underlying29 sz29 rfl rfl rfl rfl) rfl ?_
   refine RL.e (Eff.call ent68 [1] [1, 160] (.cons rfl .nil) (names_ct m H1 hM (by have := hhs.1.nsl hhs.2.1; omega)) rfl rfl rfl rfl (by rintro _ _ ⟨_, _, _, _, _, rfl⟩; rfl)) rfl ?_
   rintro _ _ ⟨_, ⟨Hn, pn, cn, rfl, hOn, rfl⟩, rfl⟩
   have hnl : (namesOf m).length ≤ 60 := hhs.1.nsl hhs.2.1
   have hSn := hOn.sl
   refine RL.q (Yld.lenSl Tryz.underlying22 rfl) rfl ?_
   refine RL.q (Yld.move rfl) rfl (RL.nil (N.next ?_))
   refine W.block ?_
   refine W.loopK (ι := VI) (fun x => (x.j ≤ (namesOf m).length ∧ MapP (fun s : ByteArray => Value.string s) x.es x.ck x.mm ∧ (∀ z, (mget x.mm z).getD (.bool false) = .bool (pB (z ∈ (namesOf m).take x.j))) ∧ NsUp (namesOf m) x.j)) (fun x => [(55, .int .i64 (x.j : Nat))]) (fun x => [(151, single b51 (.map x.es x.ck))]) (fun x => (namesOf m).length - x.j) (.of [1, 3, 53, 54] rfl) (.of [0, 1, 101, 160] rfl) ⟨0, #[], 0, []⟩ ?_ ?_ ?_ ?_
   · exact ⟨Nat.zero_le _, MapP.empty _, fun z => by rw [pB_not (by simp)]; rfl, fun _ _ h => absurd h (Nat.not_lt_zero _)⟩
   · exact (.as rfl (by first | rfl | (simp; done) | (congr 1; simp; done) | (congr 1; omega)) .nil)
   · exact (.to rfl)
   rintro x ⟨hj, hMp, hr, hU⟩
   refine W.keep (.of [55, 1, 3, 53, 54] rfl) (.of [151, 0, 1, 101, 160] rfl) ?_
   refine W.seq (W.region ?_)
   refine RL.q (Yld.bin rfl rfl BinV.lss) rfl ?_
   refine RL.nil (N.next ?_)
   refine W.seq ?_
   first | refine W.condD rfl (fun hc56 => ?_) (fun hc56 => ?_) | (refine W.cond rfl (fun hc56 => ?_) (fun hc56 => ?_) <;> try simp only [Bool.or_eq_true, Bool.and_eq_true, Bool.not_eq_true', Bool.not_eq_false', decide_eq_true_eq, Bool.or_eq_false_iff, Bool.and_eq_false_iff, decide_eq_false_iff_not, beq_iff_eq, beq_eq_false_iff_ne, ne_eq, Decidable.not_not] at hc56)
   ·
    obtain ⟨s, hs, hls⟩ := tz_at (show x.j < (namesOf m).length by omega)
    refine W.skip ?_
    refine N.next ?_
    refine W.seq ?_
    refine W.block ?_
    refine W.seq (W.region ?_)
    refine RL.q (Yld.ixr Tryz.underlying22 sz9 rfl rfl) rfl ?_
    refine RL.q (by first | exact (by first | exact Yld.loadRow1 (cl := 1) Tryz.underlying9 rfl rfl rfl (by first | assumption | exact Own.sl (by assumption)) (by assumption) | exact Yld.loadRow1 (cl := 101) Tryz.underlying9 rfl rfl rfl (by first | assumption | exact Own.sl (by assumption)) (by assumption) | exact Yld.loadRow1 (cl := 160) Tryz.underlying9 rfl rfl rfl (by first | assumption | exact Own.sl (by assumption)) (by assumption) | exact Yld.loadRow1 (cl := 151) Tryz.underlying9 rfl rfl rfl (by first | assumption | exact Own.sl (by assumption)) (by assumption)) | exact (by first | exact Yld.lrF 1 0 Tryz.underlying9 rfl rfl rfl rfl | exact Yld.lrF 101 0 Tryz.underlying9 rfl rfl rfl rfl | exact Yld.lrF 160 0 Tryz.underlying9 rfl rfl rfl rfl | exact Yld.lrF 151 0 Tryz.underlying9 rfl rfl rfl rfl)) rfl ?_
    refine RL.q (Yld.assign rfl) rfl (RL.nil (N.next ?_))
    refine W.seq ?_
    refine W.seq (W.region ?_)
    refine RL.q (Yld.move rfl) rfl ?_
    refine RL.e (Eff.call ent69 [1] [1] (.cons rfl .nil) (isName_ct s H1 hT) rfl rfl rfl rfl (by rintro _ _ ⟨_, rfl⟩; rfl)) rfl ?_
    rintro _ _ ⟨_, ⟨rfl, rfl⟩, rfl⟩
    refine RL.q Yld.nt rfl (RL.q (Yld.move rfl) rfl ?_)
    refine' RL.or (t := 62) (d := 66) 4 rfl (.of [1, 3, 5, 53, 54, 55, 56, 57, 58, 59, 60, 61] rfl) (.of [0, 1, 101, 151, 160] rfl) ?_ ?_ ?_
    rotate_left 1
    ·
     intro hg62
     refine RL.gq rfl rfl (Yld.move rfl) rfl ?_
     refine RL.gq rfl rfl (Yld.move rfl) rfl ?_
     refine RL.gq rfl rfl (Yld.eq (v' := .bool (pB (s ∈ (namesOf m).take x.j))) (Yld.lookup (c := 151) Tryz.underlying124 (keyString Tryz.underlying9) zv4 rfl rfl rfl (by assumption)) (hr s)) rfl ?_
     refine RL.q Yld.pk rfl ?_
     exact RL.nil (N.meet (.to rfl) (.to rfl))
    ·
     intro hg62
     refine RL.gskip rfl rfl rfl rfl ?_
     refine RL.gskip rfl rfl rfl rfl ?_
     refine RL.gskip rfl rfl rfl rfl ?_
     refine RL.q Yld.pk rfl ?_
     exact RL.nil (N.meet (.to rfl) (.to rfl))
    refine RL.nil (N.next ?_)
    refine W.keep (.of [1, 3, 5, 53, 54, 55, 66] rfl) (.of [0, 1, 101, 151, 160] rfl) ?_
    refine W.cond rfl (fun hc66 => ?_) (fun hc66 => ?_)
    ·
     have hbad : ¬ NsV (namesOf m) := fun h => by
       obtain ⟨h1, h2⟩ := h x.j s (List.getElem?_eq_some_iff.1 hs).1 hs
       rw [nameB_iff.2 h1, pB_not h2] at hc66
       cases hc66
     refine W.seq (W.region ?_)
     refine RL.q (Yld.assign rfl) rfl (RL.nil (N.next ?_))
     refine W.keep (.of [2] rfl) (.of [0, 1, 101, 151, 160] rfl) ?_
     refine W.ret ?_
     refine N.then_ret ?_
     refine N.block_ret ?_
     refine N.then_ret ?_
     refine N.then_ret ?_
     refine N.block_ret ?_
     refine N.then_ret ?_
     exact N.retBy [1] (.cons (.tmp rfl) .nil) rfl rfl rfl rfl ⟨by rw [pB_not (fun h => hbad h.ns)]; rfl, rfl⟩
    ·
     rw [Bool.or_eq_false_iff, Bool.not_eq_false', nameB_iff, pB_f] at hc66
     refine W.skip ?_
     refine N.next ?_
     refine W.region ?_
     refine RL.q (Yld.move rfl) rfl (RL.q (Yld.move rfl) rfl ?_)
     refine RL.e0 (Eff.mapUpdate (c := 151) Tryz.underlying124 (keyString Tryz.underlying9) rfl rfl rfl rfl (by assumption)) ?_
     rintro _ _ ⟨es1, ck1, hM1, rfl⟩
     refine RL.nil ?_
     refine N.block_normal ?_
     refine N.next ?_
     refine W.keep (.of [1, 3, 53, 54, 55] rfl) (.of [0, 1, 101, 151, 160] rfl) ?_
     refine W.region ?_
     refine RL.q (Yld.bin rfl rfl (by first | exact BinV.add (by omega) (by omega) | exact BinV.addW)) rfl ?_
     refine RL.q (Yld.move rfl) rfl (RL.nil ?_)
     exact N.famK ⟨x.j + 1, es1, ck1, mset x.mm s (.bool true)⟩ ⟨⟨by dsimp only; omega, hM1, used_step hs hr, hU.step hs hc66.1 hc66.2⟩, by dsimp only; omega⟩ (.as rfl (by first | rfl | (simp; done) | (congr 1; simp; done) | (congr 1; omega)) .nil) (.to rfl) (.to rfl) (.to rfl)
   ·
    have hend : x.j = (namesOf m).length := by omega
    have hNs : NsV (namesOf m) := by unfold NsV; rw [← hend]; exact hU
    refine W.exit ?_
    refine N.then_exit ?_
    refine N.then_exit ?_
    refine N.block_eq ?_
    refine N.next ?_
    refine W.keep (.of [1] rfl) (.of [0, 1, 101, 151, 160] rfl) ?_
    refine W.seq (W.region ?_)
    refine RL.q (Yld.fieldAddr fo29_5 rfl) rfl ?_
    refine RL.q (Yld.ld 101 Tryz.underlying26 rfl rfl rfl rfl) rfl ?_
    refine RL.q (Yld.makeFunc eval0 (eval1 rfl)) rfl ?_
    refine RL.e (Eff.call ent70 [1, 101] [1, 101] (.cons rfl (.cons rfl .nil)) (cfIt_ct m.is H1 m.pis m.cis _ rfl hM.is 71 [.pointer (some ⟨b1, 0, none⟩)] _ (fun x => !itB m x) ent71 (fun x hx => validC1_ct m H1 hM b1 x hx)) rfl rfl rfl rfl (by rintro _ _ ⟨_, rfl⟩; rfl)) rfl ?_
    rintro _ _ ⟨_, ⟨rfl, rfl⟩, rfl⟩
    refine RL.q Yld.nt rfl (RL.q (Yld.move rfl) rfl ?_)
    refine' RL.and (t := 75) (d := 81) 6 rfl (.of [1, 70, 71, 72, 73, 74] rfl) (.of [0, 1, 101, 151, 160] rfl) ?_ ?_ ?_
    rotate_left 1
    ·
     intro hg75
     refine RL.gq rfl rfl (Yld.fieldAddr fo29_10 rfl) rfl ?_
     refine RL.gq rfl rfl (Yld.ld 101 Tryz.underlying27 rfl rfl rfl rfl) rfl ?_
     refine RL.gq rfl rfl (Yld.makeFunc eval0 (eval1 rfl)) rfl ?_
     refine RL.ge rfl rfl (Eff.call ent73 [1, 101] [1, 101] (.cons rfl (.cons rfl .nil)) (cfRl_ct m.rl H1 m.prl m.crl _ rfl hM.rl 74 [.pointer (some ⟨b1, 0, none⟩)] _ (fun x => !rlB m x) ent74 (fun x hx => validC2_ct m H1 hM b1 x hx)) rfl rfl rfl rfl (by rintro _ _ ⟨_, rfl⟩; rfl)) rfl ?_
     rintro _ _ ⟨_, ⟨rfl, rfl⟩, rfl⟩
     refine RL.gq rfl rfl Yld.nt rfl ?_
     refine RL.q Yld.pk rfl ?_
     exact RL.nil (N.meet (.to rfl) (.to rfl))
    ·
     intro hg75
     refine RL.gskip rfl rfl rfl rfl ?_
     refine RL.gskip rfl rfl rfl rfl ?_
     refine RL.gskip rfl rfl rfl rfl ?_
     refine RL.gskip rfl rfl rfl rfl ?_
     refine RL.gskip rfl rfl rfl rfl ?_
     refine RL.q Yld.pk rfl ?_
     exact RL.nil (N.meet (.to rfl) (.to rfl))
    refine RL.q (Yld.assign rfl) rfl (RL.nil (N.next ?_))
    refine W.keep (.of [2] rfl) (.of [0, 1, 101, 151, 160] rfl) ?_
    refine W.ret ?_
    exact N.retBy [1] (.cons (.tmp rfl) .nil) rfl rfl rfl rfl ⟨by show Value.bool _ = Value.bool _; congr 1; rw [Bool.eq_iff_iff]; rw [pB_iff, mdv_iff hhv, Bool.and_eq_true, Bool.not_eq_true', Bool.not_eq_true', any_itB, any_rlB]; exact ⟨fun ⟨a, b⟩ => ⟨hNs, a, b⟩, fun ⟨_, a, b⟩ => ⟨a, b⟩⟩, rfl⟩
end Go.Proofs.YtboapdcmaeojgaaGreatDoor
namespace Go.Proofs.YtboapdcmaeojgaaGreatDoor.Fen
set_option linter.unusedVariables false
set_option linter.unusedSimpArgs false
structure U where
  it : Int
  rp : Int
  st : Int
  va : Int
  ca : Int
deriving DecidableEq
structure Cl where
  it : Int
  cl : Int
  nu : Int
  va : Int
deriving DecidableEq
structure Cm where
  kd : Int
  it : Int
  rp : Int
  va : Int
structure T where
  us : List U
  cs : List Cl
  gen : Int
  dn : List (Int × Int)
deriving DecidableEq
def w64 (x : Int) : Int := IntKind.i64.wrap x
def opn (it : Int) (u : U) : Bool := decide (u.it = it) && decide (u.st ≠ 3)
def fnd (us : List U) (it : Int) : Option Nat := us.findIdx? (opn it)
def lt (u a : U) : Bool := decide (a.it < u.it) || decide (a.it = u.it) && decide (a.rp < u.rp)
def ins (us : List U) (u : U) : List U := us.takeWhile (lt u) ++ u :: us.dropWhile (lt u)
def stAt (us : List U) (i : Nat) (s : Int) : List U := us.modify i fun u => { u with st := s }
def vaAt (us : List U) (i : Nat) : Int := match us[i]? with
  | some u => u.va
  | none => 0
def stOf (us : List U) (i : Nat) : Int := match us[i]? with
  | some u => u.st
  | none => 0
def rpOf (us : List U) (i : Nat) : Int := match us[i]? with
  | some u => u.rp
  | none => 0
def opens (cs : List Cl) (it : Int) : Nat := (cs.filter fun c => decide (c.it = it)).length
def late (c : Cm) (u : U) : Bool := decide (u.it = c.it) && (decide (c.rp < u.rp) || decide (u.rp = c.rp) && decide (u.st = 3))
def execP (job : Bool) (us : List U) (cs : List Cl) (c : Cm) : List U × Int × Int :=
  if c.kd = 0 then
    if us.any (late c) = true then (us, 9, 0)
    else match fnd us c.it with
      | some i => if rpOf us i = c.rp then (us, 0, 0) else (ins (stAt us i 3) ⟨c.it, c.rp, 0, 0, 0⟩, 0, 0)
      | none => (ins us ⟨c.it, c.rp, 0, 0, 0⟩, 0, 0)
  else if c.kd = 1 then
    match fnd us c.it with
      | some i => (stAt us i 3, 0, 0)
      | none => (us, 0, 0)
  else if c.kd = 2 then
    match fnd us c.it with
      | some i => if stOf us i = 1 then (us, 9, 0) else (stAt us i 0, 0, 0)
      | none => (ins us ⟨c.it, 0, 0, if job = true then c.va else 0, 0⟩, 0, 0)
  else if c.kd = 3 then
    match fnd us c.it with
      | some i => (stAt us i 1, 0, 0)
      | none => (us, 6, 0)
  else if c.kd = 4 then
    match fnd us c.it with
      | some i => (stAt us i 2, 0, vaAt us i)
      | none => (us, 6, 0)
  else
    match fnd us c.it with
      | some i => if stOf us i = 0 ∨ 0 < opens cs c.it then (us, 9, 0) else (us.eraseIdx i, 0, 0)
      | none => (us, 0, 0)
def kdFit (k : Int) (c : Cm) : Prop := (c.kd = 0 ∧ k = 0) ∨ (c.kd = 1 ∧ k = 0) ∨ (c.kd = 2 ∧ (k = 1 ∨ k = 2)) ∨ (c.kd = 3 ∧ k = 1) ∨ (c.kd = 4 ∧ k = 2) ∨ (c.kd = 5 ∧ (k = 1 ∨ k = 2))
def Fits (k mach : Int) (c : Cm) : Prop := kdFit k c ∧ 0 ≤ c.va ∧ c.va ≤ 1099511627776 ∧ (c.kd = 0 → 1 ≤ c.rp ∧ c.rp.tmod 100 = mach)
instance (k : Int) (c : Cm) : Decidable (kdFit k c) := by unfold kdFit; infer_instance
instance (k mach : Int) (c : Cm) : Decidable (Fits k mach c) := by unfold Fits; infer_instance
def look (dn : List (Int × Int)) (s : Int) : Option Int := (dn.find? fun p => decide (p.1 = s)).map (·.2)
def seen (t : T) (g : Int) : T := if t.gen < g then { t with gen := g, dn := [] } else t
def doP (k mach : Int) (t : T) (g s : Int) (c : Cm) : T × Int × Int :=
  if ¬ (1 ≤ g ∧ 1 ≤ s ∧ Fits k mach c) then (t, 1, 0)
  else if g < t.gen then (t, 12, 0)
  else match look (seen t g).dn s with
    | some v => (seen t g, 0, v)
    | none =>
      let r := execP (decide (k = 2)) (seen t g).us (seen t g).cs c
      if r.2.1 = 0 then ({ seen t g with us := r.1, dn := (seen t g).dn ++ [(s, r.2.2)] }, 0, r.2.2)
      else ({ seen t g with us := r.1 }, r.2.1, 0)
def sameCl (c x : Cl) : Bool := decide (x.it = c.it) && (decide (x.cl = c.cl) && decide (x.nu = c.nu))
def beginP (k : Int) (t : T) (c : Cl) : T × Int :=
  if ¬ (1 ≤ c.cl ∧ 1 ≤ c.nu ∧ k = 1) then (t, 1)
  else match fnd t.us c.it with
    | none => (t, 6)
    | some i => if stOf t.us i = 1 then (t, 9)
      else if t.cs.any (sameCl c) = true then (t, 0) else ({ t with cs := t.cs ++ [c] }, 0)
def tickU (kind : Int → Int) (u : U) : U := if kind u.it = 2 ∧ u.st = 0 then { u with va := w64 (u.va + 1) } else u
def tickP (kind : Int → Int) (t : T) : T := { t with us := t.us.map (tickU kind), cs := [] }
def listP (us : List U) (cs : List Cl) : List U := us.map fun u => { u with ca := (opens cs u.it : Int) }
def UOK (kind : Int → Int) (mach : Int) (u : U) : Prop :=
  u.ca = 0 ∧ ((kind u.it = 0 ∧ 1 ≤ u.rp ∧ u.rp.tmod 100 = mach ∧ (u.st = 0 ∨ u.st = 3) ∧ u.va = 0) ∨ (kind u.it = 1 ∧ u.rp = 0 ∧ (u.st = 0 ∨ u.st = 1) ∧ u.va = 0) ∨ (kind u.it = 2 ∧ u.rp = 0 ∧ (u.st = 0 ∨ u.st = 2)))
def R (a b : U) : Prop := a.it < b.it ∨ (a.it = b.it ∧ a.rp < b.rp ∧ a.st = 3)
structure Inv (kind : Int → Int) (mach : Int) (us : List U) : Prop where
  ok : ∀ u ∈ us, UOK kind mach u
  pw : us.Pairwise R
theorem R.ltT {a b : U} (h : R a b) : lt b a = true := by
  unfold Fen.lt
  rcases h with h | ⟨h1, h2, _⟩
  · simp [h]
  · simp [h1, h2]
theorem R.nlt {a b : U} (h : R a b) : lt a b = false := by
  unfold Fen.lt
  rcases h with h | ⟨h1, h2, _⟩
  · simp; constructor <;> omega
  · simp; constructor <;> omega
theorem fnd_some {us : List U} {it : Int} {i : Nat} (h : fnd us it = some i) : ∃ u, us[i]? = some u ∧ u.it = it ∧ u.st ≠ 3 ∧ ∀ (j : Nat) b, j < i → us[j]? = some b → opn it b = false := by
  unfold fnd at h
  obtain ⟨hi, hp, hn⟩ := List.findIdx?_eq_some_iff_getElem.1 h
  simp only [opn, Bool.and_eq_true, decide_eq_true_eq] at hp
  refine ⟨us[i], List.getElem?_eq_getElem hi, hp.1, hp.2, fun j b hj hb => ?_⟩
  obtain ⟨_, rfl⟩ := List.getElem?_eq_some_iff.1 hb
  simpa using hn j hj
theorem fnd_none {us : List U} {it : Int} (h : fnd us it = none) : ∀ u ∈ us, opn it u = false := by
  unfold fnd at h
  exact List.findIdx?_eq_none_iff.1 h
theorem fnd_of {us : List U} {it : Int} {i : Nat} {u : U} (h : us[i]? = some u) (hu : opn it u = true) (hn : ∀ (j : Nat) b, j < i → us[j]? = some b → opn it b = false) : fnd us it = some i := by
  unfold fnd
  obtain ⟨hi, rfl⟩ := List.getElem?_eq_some_iff.1 h
  exact List.findIdx?_eq_some_iff_getElem.2 ⟨hi, hu, fun j hj => by simpa using hn j _ hj (List.getElem?_eq_getElem (Nat.lt_trans hj hi))⟩
theorem fnd_no {us : List U} {it : Int} (h : ∀ u ∈ us, opn it u = false) : fnd us it = none := List.findIdx?_eq_none_iff.2 h
theorem Inv.get_lt {kind : Int → Int} {mach : Int} {us : List U} (v : Inv kind mach us) {i j : Nat} {a b : U} (ha : us[i]? = some a) (hb : us[j]? = some b) (hij : i < j) : R a b := by
  obtain ⟨h1, rfl⟩ := List.getElem?_eq_some_iff.1 ha
  obtain ⟨h2, rfl⟩ := List.getElem?_eq_some_iff.1 hb
  exact List.pairwise_iff_getElem.1 v.pw i j h1 h2 hij
theorem Inv.last {kind : Int → Int} {mach : Int} {us : List U} (v : Inv kind mach us) {it : Int} {i : Nat} {u : U} (h : fnd us it = some i) (hu : us[i]? = some u) {j : Nat} {b : U} (hb : us[j]? = some b) (hit : b.it = it) (hne : j ≠ i) : j < i ∧ b.st = 3 ∧ b.rp < u.rp := by
  obtain ⟨u', hu', h1, h2, h3⟩ := fnd_some h
  rw [hu] at hu'; cases hu'
  rcases Nat.lt_or_gt_of_ne hne with h4 | h4
  · rcases v.get_lt hb hu h4 with h5 | ⟨_, h5, h6⟩
    · omega
    · exact ⟨h4, h6, h5⟩
  · rcases v.get_lt hu hb h4 with h5 | ⟨_, _, h6⟩
    · omega
    · exact absurd h6 h2
theorem stAt_get {us : List U} {i j : Nat} {s : Int} : (stAt us i s)[j]? = if i = j then us[j]?.map (fun u => { u with st := s }) else us[j]? := by
  unfold stAt
  rw [List.getElem?_modify]
  split <;> simp
@[simp] theorem stAt_len {us : List U} {i : Nat} {s : Int} : (stAt us i s).length = us.length := by simp [stAt]
theorem stAt_pw {us : List U} {i : Nat} {s : Int} {u : U} (h : us.Pairwise R) (hu : us[i]? = some u) (hs : u.st ≠ 3) : (stAt us i s).Pairwise R := by
  rw [List.pairwise_iff_getElem]
  intro p q hp hq hpq
  have hp' : p < us.length := by simpa using hp
  have hq' : q < us.length := by simpa using hq
  have h0 := List.pairwise_iff_getElem.1 h p q hp' hq' hpq
  have e1 := stAt_get (us := us) (i := i) (j := p) (s := s)
  have e2 := stAt_get (us := us) (i := i) (j := q) (s := s)
  rw [List.getElem?_eq_getElem hp, List.getElem?_eq_getElem hp'] at e1
  rw [List.getElem?_eq_getElem hq, List.getElem?_eq_getElem hq'] at e2
  have k1 : (stAt us i s)[p].it = us[p].it ∧ (stAt us i s)[p].rp = us[p].rp ∧ (us[p].st = 3 → (stAt us i s)[p].st = 3) := by
    by_cases e : i = p
    · subst e
      rw [if_pos rfl] at e1
      have e3 := Option.some.inj e1
      rw [e3]
      refine ⟨rfl, rfl, fun h3 => ?_⟩
      rw [List.getElem?_eq_getElem hp'] at hu
      cases hu
      exact absurd h3 hs
    · rw [if_neg e] at e1
      rw [Option.some.inj e1]
      exact ⟨rfl, rfl, id⟩
  have k2 : (stAt us i s)[q].it = us[q].it ∧ (stAt us i s)[q].rp = us[q].rp := by
    by_cases e : i = q
    · subst e
      rw [if_pos rfl] at e2
      rw [Option.some.inj e2]
      exact ⟨rfl, rfl⟩
    · rw [if_neg e] at e2
      rw [Option.some.inj e2]
      exact ⟨rfl, rfl⟩
  rcases h0 with h0 | ⟨h0, h1, h2⟩
  · exact .inl (by rw [k1.1, k2.1]; exact h0)
  · exact .inr ⟨by rw [k1.1, k2.1]; exact h0, by rw [k1.2.1, k2.2]; exact h1, k1.2.2 h2⟩
theorem stAt_mem {us : List U} {i : Nat} {s : Int} {a : U} (h : a ∈ stAt us i s) : a ∈ us ∨ ∃ u, us[i]? = some u ∧ a = { u with st := s } := by
  obtain ⟨j, hj⟩ := List.getElem?_of_mem h
  rw [stAt_get] at hj
  split at hj
  · rename_i e; subst e
    cases hu : us[i]? with
    | none => rw [hu] at hj; cases hj
    | some u => rw [hu] at hj; exact .inr ⟨u, rfl, (Option.some.inj hj).symm⟩
  · exact .inl (List.mem_of_getElem? hj)
theorem Inv.stAt {kind : Int → Int} {mach : Int} {us : List U} (v : Inv kind mach us) {i : Nat} {s : Int} {u : U} (hu : us[i]? = some u) (hs : u.st ≠ 3) (hok : UOK kind mach { u with st := s }) : Inv kind mach (stAt us i s) :=
  ⟨fun a ha => by
    rcases stAt_mem ha with h | ⟨u', hu', rfl⟩
    · exact v.ok a h
    · rw [hu] at hu'; cases hu'; exact hok, stAt_pw v.pw hu hs⟩
theorem ins_mem {us : List U} {u a : U} : a ∈ ins us u ↔ a = u ∨ a ∈ us := by
  unfold ins
  rw [List.mem_append, List.mem_cons]
  constructor
  · rintro (h | h | h)
    · exact .inr ((List.takeWhile_sublist _).subset h)
    · exact .inl h
    · exact .inr ((List.dropWhile_sublist _).subset h)
  · rintro (h | h)
    · exact .inr (.inl h)
    · rw [← List.takeWhile_append_dropWhile (p := lt u) (l := us)] at h
      rcases List.mem_append.1 h with h | h
      · exact .inl h
      · exact .inr (.inr h)
theorem takeWhile_all {α : Type} {p : α → Bool} : ∀ {l : List α} {a : α}, a ∈ l.takeWhile p → p a = true
  | x :: l, a, h => by
    rw [List.takeWhile_cons] at h
    split at h
    · rcases List.mem_cons.1 h with e | e
      · subst e; assumption
      · exact takeWhile_all e
    · cases h
theorem dropWhile_head {α : Type} {p : α → Bool} : ∀ {l : List α} {x : α} {r : List α}, l.dropWhile p = x :: r → p x = false
  | y :: l, x, r, h => by
    rw [List.dropWhile_cons] at h
    split at h
    · exact dropWhile_head h
    · cases h; rename_i e; simpa using e
theorem ins_pw {us : List U} {u : U} (h : us.Pairwise R) (hu : ∀ a ∈ us, a.it = u.it → a.rp < u.rp ∧ a.st = 3) : (ins us u).Pairwise R := by
  have hsplit := List.takeWhile_append_dropWhile (p := lt u) (l := us)
  rw [← hsplit, List.pairwise_append] at h
  obtain ⟨h1, h2, h3⟩ := h
  have hd : ∀ b ∈ us.dropWhile (lt u), R u b := by
    cases hx : us.dropWhile (lt u) with
    | nil => intro b hb; cases hb
    | cons x r =>
      have hx0 := dropWhile_head hx
      have hxm : x ∈ us := (List.dropWhile_sublist (lt u)).subset (by rw [hx]; simp)
      have hxi : u.it < x.it := by
        unfold Fen.lt at hx0
        simp only [Bool.or_eq_false_iff, Bool.and_eq_false_iff, decide_eq_false_iff_not] at hx0
        by_cases e : x.it = u.it
        · have := (hu x hxm e).1; omega
        · omega
      rw [hx, List.pairwise_cons] at h2
      intro b hb
      rcases List.mem_cons.1 hb with e | e
      · subst e; exact .inl hxi
      · rcases h2.1 b e with h5 | ⟨h5, _⟩
        · exact .inl (by omega)
        · exact .inl (by omega)
  have ht : ∀ a ∈ us.takeWhile (lt u), R a u := fun a ha => by
    have h4 := takeWhile_all ha
    have ham : a ∈ us := (List.takeWhile_sublist _).subset ha
    unfold Fen.lt at h4
    simp only [Bool.or_eq_true, Bool.and_eq_true, decide_eq_true_eq] at h4
    by_cases e : a.it = u.it
    · exact .inr ⟨e, hu a ham e⟩
    · exact .inl (by omega)
  unfold ins
  rw [List.pairwise_append, List.pairwise_cons]
  refine ⟨h1, ⟨hd, h2⟩, fun a ha b hb => ?_⟩
  rcases List.mem_cons.1 hb with e | e
  · subst e; exact ht a ha
  · exact h3 a ha b e
theorem Inv.ins {kind : Int → Int} {mach : Int} {us : List U} (v : Inv kind mach us) {u : U} (hu : ∀ a ∈ us, a.it = u.it → a.rp < u.rp ∧ a.st = 3) (hok : UOK kind mach u) : Inv kind mach (ins us u) :=
  ⟨fun a ha => by
    rcases ins_mem.1 ha with e | e
    · subst e; exact hok
    · exact v.ok a e, ins_pw v.pw hu⟩
theorem Inv.one {kind : Int → Int} {mach : Int} {us : List U} (v : Inv kind mach us) {i j : Nat} {a b : U} (ha : us[i]? = some a) (hb : us[j]? = some b) (e : a.it = b.it) (hk : kind a.it = 1 ∨ kind a.it = 2) : i = j := by
  have key : ∀ {i j : Nat} {a b : U}, us[i]? = some a → us[j]? = some b → a.it = b.it → (kind a.it = 1 ∨ kind a.it = 2) → ¬ i < j := fun {i j a b} ha hb e hk hij => by
    rcases v.get_lt ha hb hij with h | ⟨_, _, h⟩
    · omega
    · obtain ⟨_, h1⟩ := v.ok a (List.mem_of_getElem? ha)
      rcases hk with hk | hk <;> omega
  have h1 := key ha hb e hk
  have h2 := key hb ha e.symm (by rw [← e]; exact hk)
  omega
theorem UOK.nclosed {kind : Int → Int} {mach : Int} {u : U} (h : UOK kind mach u) (hk : kind u.it = 1 ∨ kind u.it = 2) : u.st ≠ 3 := by
  obtain ⟨_, h⟩ := h
  rcases hk with hk | hk <;> omega
theorem Inv.none_pool {kind : Int → Int} {mach : Int} {us : List U} (v : Inv kind mach us) {it : Int} (hk : kind it = 1 ∨ kind it = 2) (h : fnd us it = none) : ∀ a ∈ us, a.it ≠ it := fun a ha e => by
  have h1 := fnd_none h a ha
  have h2 := (v.ok a ha).nclosed (by rw [e]; exact hk)
  simp [opn, e] at h1
  exact h2 h1
theorem UOK.grp {kind : Int → Int} {mach : Int} {u : U} (h : UOK kind mach u) (hk : kind u.it = 0) : 1 ≤ u.rp ∧ u.rp.tmod 100 = mach ∧ (u.st = 0 ∨ u.st = 3) ∧ u.va = 0 := by
  rcases h.2 with h | h | h
  · exact h.2
  · omega
  · omega
theorem UOK.pool {kind : Int → Int} {mach : Int} {u : U} (h : UOK kind mach u) (hk : kind u.it = 1) : u.rp = 0 ∧ (u.st = 0 ∨ u.st = 1) ∧ u.va = 0 := by
  rcases h.2 with h | h | h
  · omega
  · exact h.2
  · omega
theorem UOK.job {kind : Int → Int} {mach : Int} {u : U} (h : UOK kind mach u) (hk : kind u.it = 2) : u.rp = 0 ∧ (u.st = 0 ∨ u.st = 2) := by
  rcases h.2 with h | h | h
  · omega
  · omega
  · exact h.2
theorem UOK.toGrp {kind : Int → Int} {mach : Int} {u : U} (h : UOK kind mach u) (hk : kind u.it = 0) {s : Int} (hs : s = 0 ∨ s = 3) : UOK kind mach { u with st := s } := by
  obtain ⟨h1, h2, _, h4⟩ := h.grp hk
  exact ⟨h.1, .inl ⟨hk, h1, h2, hs, h4⟩⟩
theorem UOK.toPool {kind : Int → Int} {mach : Int} {u : U} (h : UOK kind mach u) (hk : kind u.it = 1) {s : Int} (hs : s = 0 ∨ s = 1) : UOK kind mach { u with st := s } := by
  obtain ⟨h1, _, h4⟩ := h.pool hk
  exact ⟨h.1, .inr (.inl ⟨hk, h1, hs, h4⟩)⟩
theorem UOK.toJob {kind : Int → Int} {mach : Int} {u : U} (h : UOK kind mach u) (hk : kind u.it = 2) {s : Int} (hs : s = 0 ∨ s = 2) : UOK kind mach { u with st := s } := by
  obtain ⟨h1, _⟩ := h.job hk
  exact ⟨h.1, .inr (.inr ⟨hk, h1, hs⟩)⟩
theorem Inv.start (kind : Int → Int) (mach : Int) : Inv kind mach [] := ⟨(fun _ h => nomatch h), .nil⟩
theorem Inv.erase {kind : Int → Int} {mach : Int} {us : List U} (v : Inv kind mach us) (i : Nat) : Inv kind mach (us.eraseIdx i) :=
  ⟨fun a ha => v.ok a ((List.eraseIdx_sublist _ _).subset ha), v.pw.sublist (List.eraseIdx_sublist _ _)⟩
theorem rpOf_get {us : List U} {i : Nat} {u : U} (h : us[i]? = some u) : rpOf us i = u.rp := by unfold rpOf; rw [h]
theorem stOf_get {us : List U} {i : Nat} {u : U} (h : us[i]? = some u) : stOf us i = u.st := by unfold stOf; rw [h]
theorem vaOf_get {us : List U} {i : Nat} {u : U} (h : us[i]? = some u) : vaAt us i = u.va := by unfold vaAt; rw [h]
theorem not_late {us : List U} {c : Cm} (h : ¬ us.any (late c) = true) : ∀ u ∈ us, u.it = c.it → u.rp < c.rp ∨ u.rp = c.rp ∧ u.st ≠ 3 := fun u hu e => by
  have h1 : late c u = false := by
    cases hx : late c u with
    | false => rfl
    | true => exact absurd (List.any_eq_true.2 ⟨u, hu, hx⟩) h
  simp only [late, e, decide_true, Bool.true_and, Bool.or_eq_false_iff, Bool.and_eq_false_iff, decide_eq_false_iff_not] at h1
  omega
theorem exec_inv {kind : Int → Int} {mach : Int} {us : List U} (v : Inv kind mach us) {cs : List Cl} {c : Cm} (hf : Fits (kind c.it) mach c) : Inv kind mach (execP (decide (kind c.it = 2)) us cs c).1 := by
  obtain ⟨hk, h0, h1, hrp⟩ := hf
  unfold kdFit at hk
  unfold execP
  by_cases e0 : c.kd = 0
  · rw [if_pos e0]
    have hkg : kind c.it = 0 := by omega
    obtain ⟨hr1, hr2⟩ := hrp e0
    split
    · exact v
    · rename_i hl
      have hl2 := not_late hl
      split
      · rename_i i hi
        obtain ⟨u, hu, hui, hus, _⟩ := fnd_some hi
        have huk := v.ok u (List.mem_of_getElem? hu)
        split
        · exact v
        · rename_i hne
          rw [rpOf_get hu] at hne
          have hok3 : UOK kind mach { u with st := 3 } := huk.toGrp (by rw [hui]; exact hkg) (.inr rfl)
          refine (v.stAt hu hus hok3).ins (fun a ha e => ?_) ?_
          · simp only at e ⊢
            rcases stAt_mem ha with h | ⟨u', hu', rfl⟩
            · obtain ⟨j, hj⟩ := List.getElem?_of_mem ha
              rw [stAt_get] at hj
              by_cases ej : i = j
              · subst ej
                rw [if_pos rfl, hu] at hj
                cases hj
                have := hl2 u (List.mem_of_getElem? hu) hui
                exact ⟨by simp only; omega, rfl⟩
              · rw [if_neg ej] at hj
                have h3 := v.last hi hu hj e (by omega)
                have := hl2 a (List.mem_of_getElem? hj) e
                exact ⟨by omega, h3.2.1⟩
            · rw [hu] at hu'; cases hu'
              have := hl2 u (List.mem_of_getElem? hu) hui
              exact ⟨by simp only; omega, rfl⟩
          · refine ⟨rfl, .inl ⟨hkg, hr1, hr2, .inl rfl, rfl⟩⟩
      · rename_i hn
        refine v.ins (fun a ha e => ?_) ⟨rfl, .inl ⟨hkg, hr1, hr2, .inl rfl, rfl⟩⟩
        simp only at e ⊢
        have h3 := fnd_none hn a ha
        simp [opn, e] at h3
        have := hl2 a ha e
        exact ⟨by omega, h3⟩
  rw [if_neg e0]
  by_cases e1 : c.kd = 1
  · rw [if_pos e1]
    split
    · rename_i i hi
      obtain ⟨u, hu, hui, hus, _⟩ := fnd_some hi
      have huk := v.ok u (List.mem_of_getElem? hu)
      exact v.stAt hu hus (huk.toGrp (by rw [hui]; omega) (.inr rfl))
    · exact v
  rw [if_neg e1]
  by_cases e2 : c.kd = 2
  · rw [if_pos e2]
    have hkk : kind c.it = 1 ∨ kind c.it = 2 := by omega
    split
    · rename_i i hi
      obtain ⟨u, hu, hui, hus, _⟩ := fnd_some hi
      have huk := v.ok u (List.mem_of_getElem? hu)
      split
      · exact v
      · rcases hkk with hkk | hkk
        · exact v.stAt hu hus (huk.toPool (by rw [hui]; exact hkk) (.inl rfl))
        · exact v.stAt hu hus (huk.toJob (by rw [hui]; exact hkk) (.inl rfl))
    · rename_i hn
      refine v.ins (fun a ha e => absurd e (v.none_pool hkk hn a ha)) ⟨rfl, ?_⟩
      rcases hkk with h | h
      · exact .inr (.inl ⟨h, rfl, .inl rfl, by simp [h]⟩)
      · exact .inr (.inr ⟨h, rfl, .inl rfl⟩)
  rw [if_neg e2]
  by_cases e3 : c.kd = 3
  · rw [if_pos e3]
    split
    · rename_i i hi
      obtain ⟨u, hu, hui, hus, _⟩ := fnd_some hi
      have huk := v.ok u (List.mem_of_getElem? hu)
      exact v.stAt hu hus (huk.toPool (by rw [hui]; omega) (.inr rfl))
    · exact v
  rw [if_neg e3]
  by_cases e4 : c.kd = 4
  · rw [if_pos e4]
    split
    · rename_i i hi
      obtain ⟨u, hu, hui, hus, _⟩ := fnd_some hi
      have huk := v.ok u (List.mem_of_getElem? hu)
      exact v.stAt hu hus (huk.toJob (by rw [hui]; omega) (.inr rfl))
    · exact v
  rw [if_neg e4]
  split
  · split
    · exact v
    · exact v.erase _
  · exact v
theorem seen_us (t : T) (g : Int) : (seen t g).us = t.us := by unfold seen; split <;> rfl
theorem seen_cs (t : T) (g : Int) : (seen t g).cs = t.cs := by unfold seen; split <;> rfl
theorem do_inv {kind : Int → Int} {mach : Int} {t : T} (v : Inv kind mach t.us) {g s : Int} {c : Cm} : Inv kind mach (doP (kind c.it) mach t g s c).1.us := by
  unfold doP
  split
  · exact v
  · rename_i hf
    rw [Classical.not_not] at hf
    split
    · exact v
    · split
      · rw [seen_us]; exact v
      · have h2 := exec_inv (cs := (seen t g).cs) (show Inv kind mach (seen t g).us by rw [seen_us]; exact v) hf.2.2
        simp only
        split
        · exact h2
        · exact h2
theorem tick_pw {kind : Int → Int} : ∀ {us : List U}, us.Pairwise R → (us.map (tickU kind)).Pairwise R := fun {us} h => by
  rw [List.pairwise_map]
  refine h.imp fun {a b} h => ?_
  have e : ∀ u, (tickU kind u).it = u.it ∧ (tickU kind u).rp = u.rp ∧ (tickU kind u).st = u.st := fun u => by unfold tickU; split <;> exact ⟨rfl, rfl, rfl⟩
  unfold R at *
  rw [(e a).1, (e a).2.1, (e a).2.2, (e b).1, (e b).2.1]
  exact h
theorem tick_inv {kind : Int → Int} {mach : Int} {us : List U} (v : Inv kind mach us) : Inv kind mach (us.map (tickU kind)) :=
  ⟨fun a ha => by
    obtain ⟨u, hu, rfl⟩ := List.mem_map.1 ha
    have h := v.ok u hu
    unfold tickU
    split
    · rename_i h2
      refine ⟨h.1, .inr (.inr ?_)⟩
      obtain ⟨_, h⟩ := h
      exact ⟨h2.1, by simp only; omega, by simp only; omega⟩
    · exact h, tick_pw v.pw⟩
end Go.Proofs.YtboapdcmaeojgaaGreatDoor.Fen
namespace Go.Proofs.YtboapdcmaeojgaaGreatDoor.Fen
set_option linter.unusedVariables false
set_option linter.unusedSimpArgs false
def putR (l : List U) (u : U) : List U := l.takeWhile (lt u) ++ u :: (match l.dropWhile (lt u) with
  | x :: r => if x.it = u.it ∧ x.rp = u.rp then r else x :: r
  | [] => [])
theorem takeWhile_at {α : Type} {p : α → Bool} : ∀ {l : List α} {i : Nat}, i ≤ l.length → (∀ (j : Nat) b, j < i → l[j]? = some b → p b = true) → (∀ b, l[i]? = some b → p b = false) → l.takeWhile p = l.take i ∧ l.dropWhile p = l.drop i
  | [], i, h, _, _ => by simp
  | x :: l, 0, h, h1, h2 => by
    have := h2 x rfl
    simp [List.takeWhile_cons, List.dropWhile_cons, this]
  | x :: l, i + 1, h, h1, h2 => by
    have h3 := h1 0 x (by omega) rfl
    obtain ⟨h4, h5⟩ := takeWhile_at (p := p) (l := l) (i := i) (by simpa using h) (fun j b hj hb => h1 (j + 1) b (by omega) (by simpa using hb)) (fun b hb => h2 b (by simpa using hb))
    simp [List.takeWhile_cons, List.dropWhile_cons, h3, h4, h5]
theorem putR_ins {us : List U} {u : U} (h : ∀ a ∈ us, ¬ (a.it = u.it ∧ a.rp = u.rp)) : putR us u = ins us u := by
  unfold putR ins
  congr 2
  cases hx : us.dropWhile (lt u) with
  | nil => rfl
  | cons x r =>
    have hxm : x ∈ us := (List.dropWhile_sublist (lt u)).subset (by rw [hx]; simp)
    exact if_neg (h x hxm)
theorem putR_at {kind : Int → Int} {mach : Int} {us : List U} (v : Inv kind mach us) {i : Nat} {a u : U} (ha : us[i]? = some a) (h1 : a.it = u.it) (h2 : a.rp = u.rp) : putR us u = us.set i u := by
  have hlt := (List.getElem?_eq_some_iff.1 ha).1
  obtain ⟨e1, e2⟩ := takeWhile_at (p := lt u) (l := us) (i := i) (by omega) (fun j b hj hb => by
      have := (v.get_lt hb ha hj).ltT
      unfold Fen.lt at this ⊢
      rw [h1, h2] at this; exact this) (fun b hb => by
      rw [ha] at hb; cases hb
      unfold Fen.lt
      simp; constructor <;> omega)
  have e3 : us.drop i = a :: us.drop (i + 1) := by
    rw [List.drop_eq_getElem_cons hlt, (List.getElem?_eq_some_iff.1 ha).2]
  unfold putR
  rw [e1, e2, e3]
  simp only [h1, h2, and_self, if_true]
  rw [List.set_eq_take_append_cons_drop, if_pos hlt]
theorem stAt_set {us : List U} {i : Nat} {s : Int} {u : U} (hu : us[i]? = some u) : stAt us i s = us.set i { u with st := s } := by
  apply List.ext_getElem?
  intro j
  have hlt := (List.getElem?_eq_some_iff.1 hu).1
  rw [stAt_get, List.getElem?_set]
  by_cases e : i = j
  · subst e; rw [if_pos rfl, if_pos rfl, if_pos hlt, hu]; rfl
  · rw [if_neg e, if_neg e]
theorem putR_st {kind : Int → Int} {mach : Int} {us : List U} (v : Inv kind mach us) {i : Nat} {u : U} {s : Int} (hu : us[i]? = some u) : putR us { u with st := s } = stAt us i s := by
  rw [putR_at v (u := { u with st := s }) hu rfl rfl, stAt_set hu]
def fndU (us : List U) (it : Int) : Option U := us.find? (opn it)
theorem fndU_none {us : List U} {it : Int} : fndU us it = none ↔ fnd us it = none := by
  unfold fndU fnd
  rw [List.find?_eq_none, List.findIdx?_eq_none_iff]
  constructor
  · intro h a ha; simpa using h a ha
  · intro h a ha; simpa using h a ha
theorem fndU_some {us : List U} {it : Int} {i : Nat} {u : U} (h : fnd us it = some i) (hu : us[i]? = some u) : fndU us it = some u := by
  obtain ⟨u', hu', h1, h2, h3⟩ := fnd_some h
  rw [hu] at hu'; cases hu'
  unfold fndU
  obtain ⟨hlt, rfl⟩ := List.getElem?_eq_some_iff.1 hu
  rw [List.find?_eq_some_iff_getElem]
  refine ⟨by simp [opn, h1, h2], i, hlt, rfl, fun j hj => ?_⟩
  have := h3 j _ hj (List.getElem?_eq_getElem (Nat.lt_trans hj hlt))
  simpa using this
theorem fndU_get {us : List U} {it : Int} {u : U} (h : fndU us it = some u) : ∃ i, fnd us it = some i ∧ us[i]? = some u := by
  cases hi : fnd us it with
  | none => rw [fndU_none.2 hi] at h; cases h
  | some i =>
    obtain ⟨u', hu', _⟩ := fnd_some hi
    rw [fndU_some hi hu'] at h; cases h
    exact ⟨i, rfl, hu'⟩
structure RepI (l : List U) (it num : Int) (x : Option U) (m : Int) : Prop where
  le : ∀ u ∈ l, u.it = it → u.rp ≤ m
  m0 : (∃ u ∈ l, u.it = it ∧ u.rp = m) ∨ (m = 0 ∧ ∀ u ∈ l, u.it ≠ it)
  x0 : ∀ y, x = some y → y ∈ l ∧ y.it = it ∧ y.rp = num
  xn : x = none → ∀ u ∈ l, u.it = it → u.rp ≠ num
theorem RepI.zero (it num : Int) : RepI [] it num none 0 := ⟨(fun _ h => nomatch h), .inr ⟨rfl, (fun _ h => nomatch h)⟩, (fun _ h => nomatch h), (fun _ _ h => nomatch h)⟩
theorem tsnoc {α : Type} {l : List α} {i : Nat} {z : α} (h : l[i]? = some z) : l.take (i + 1) = l.take i ++ [z] := by rw [List.take_add_one, h]; rfl
theorem RepI.miss {us : List U} {j : Nat} {it num : Int} {x : Option U} {m : Int} {u : U} (h : RepI (us.take j) it num x m) (hu : us[j]? = some u) (hn : u.it ≠ it) : RepI (us.take (j + 1)) it num x m := by
  rw [tsnoc hu]
  refine ⟨fun a ha e => ?_, ?_, fun y hy => ?_, fun hx a ha e => ?_⟩
  · rcases List.mem_append.1 ha with h1 | h1
    · exact h.le a h1 e
    · simp at h1; subst h1; exact absurd e hn
  · rcases h.m0 with ⟨a, h1, h2⟩ | ⟨h1, h2⟩
    · exact .inl ⟨a, List.mem_append_left _ h1, h2⟩
    · refine .inr ⟨h1, fun a ha => ?_⟩
      rcases List.mem_append.1 ha with h3 | h3
      · exact h2 a h3
      · simp at h3; subst h3; exact hn
  · obtain ⟨h1, h2⟩ := h.x0 y hy
    exact ⟨List.mem_append_left _ h1, h2⟩
  · rcases List.mem_append.1 ha with h1 | h1
    · exact h.xn hx a h1 e
    · simp at h1; subst h1; exact absurd e hn
theorem RepI.hit {kind : Int → Int} {mach : Int} {us : List U} (v : Inv kind mach us) {j : Nat} {it num : Int} {x : Option U} {m : Int} {u : U} (h : RepI (us.take j) it num x m) (hu : us[j]? = some u) (hn : u.it = it) : RepI (us.take (j + 1)) it num (if u.rp = num then some u else x) u.rp := by
  have hlt : ∀ a ∈ us.take j, a.it = it → a.rp < u.rp := fun a ha e => by
    obtain ⟨i, hi⟩ := List.getElem?_of_mem ha
    rw [List.getElem?_take] at hi
    split at hi
    · rcases v.get_lt hi hu (by omega) with h1 | ⟨_, h1, _⟩
      · omega
      · exact h1
    · cases hi
  rw [tsnoc hu]
  refine ⟨fun a ha e => ?_, .inl ⟨u, by simp, hn, rfl⟩, fun y hy => ?_, fun hx a ha e => ?_⟩
  · rcases List.mem_append.1 ha with h1 | h1
    · have := hlt a h1 e; omega
    · simp at h1; subst h1; omega
  · split at hy
    · rename_i e; cases hy; exact ⟨by simp, hn, e⟩
    · obtain ⟨h1, h2⟩ := h.x0 y hy
      exact ⟨List.mem_append_left _ h1, h2⟩
  · split at hx
    · cases hx
    · rename_i e2
      rcases List.mem_append.1 ha with h1 | h1
      · exact h.xn hx a h1 e
      · simp at h1; subst h1; exact e2
theorem RepI.full {us : List U} {it num : Int} {x : Option U} {m : Int} {j : Nat} (h : RepI (us.take j) it num x m) (hj : j = us.length) : RepI us it num x m := by
  subst hj; rwa [List.take_length] at h
section
variable {kind : Int → Int} {mach : Int} {us : List U} {cs : List Cl} {c : Cm} {x : Option U} {m : Int}
theorem exO_run {y : U} (v : Inv kind mach us) (hf : Fits (kind c.it) mach c) (h0 : c.kd = 0) (h : RepI us c.it c.rp (some y) m) (hy : y.st = 0) : execP (decide (kind c.it = 2)) us cs c = (us, 0, 0) := by
  obtain ⟨q1, q2, q3⟩ := h.x0 y rfl
  obtain ⟨i, hi⟩ := List.getElem?_of_mem q1
  have hop : opn c.it y = true := by simp [opn, q2, hy]
  have hfi : fnd us c.it = some i := fnd_of hi hop fun j b hj hb => by
    cases ho : opn c.it b with
    | false => rfl
    | true =>
      simp only [opn, Bool.and_eq_true, decide_eq_true_eq] at ho
      rcases v.get_lt hb hi hj with h1 | ⟨_, _, h1⟩
      · omega
      · exact absurd h1 ho.2
  have hl : ¬ us.any (late c) = true := fun e => by
    obtain ⟨a, ha, hla⟩ := List.any_eq_true.1 e
    simp only [late, Bool.and_eq_true, Bool.or_eq_true, decide_eq_true_eq] at hla
    obtain ⟨k, hk⟩ := List.getElem?_of_mem ha
    by_cases ek : k = i
    · subst ek; rw [hi] at hk; cases hk; omega
    · have := v.last hfi hi hk hla.1 ek; omega
  unfold execP
  rw [if_pos h0, if_neg hl, hfi]
  simp only
  rw [if_pos (by rw [rpOf_get hi, q3])]
theorem exO_bad (v : Inv kind mach us) (hf : Fits (kind c.it) mach c) (h0 : c.kd = 0) (h : RepI us c.it c.rp x m) (hx : (∃ y, x = some y ∧ y.st ≠ 0) ∨ (x = none ∧ c.rp < m)) : execP (decide (kind c.it = 2)) us cs c = (us, 9, 0) := by
  obtain ⟨hk, _, _, hrp⟩ := hf
  unfold kdFit at hk
  obtain ⟨hr1, _⟩ := hrp h0
  have hl : us.any (late c) = true := by
    rcases hx with ⟨y, rfl, hy⟩ | ⟨rfl, hm⟩
    · obtain ⟨q1, q2, q3⟩ := h.x0 y rfl
      obtain ⟨_, huk⟩ := v.ok y q1
      rw [q2] at huk
      refine List.any_eq_true.2 ⟨y, q1, ?_⟩
      simp only [late, q2, q3, decide_true, Bool.true_and, Bool.or_eq_true, decide_eq_true_eq]
      right; omega
    · rcases h.m0 with ⟨u, h1, h2, h3⟩ | ⟨h1, _⟩
      · refine List.any_eq_true.2 ⟨u, h1, ?_⟩
        simp only [late, h2, h3, decide_true, Bool.true_and, Bool.or_eq_true, decide_eq_true_eq]
        left; omega
      · omega
  unfold execP
  rw [if_pos h0, if_pos hl]
theorem exO_late (h : RepI us c.it c.rp none m) (hm : ¬ c.rp < m) : ¬ us.any (late c) = true := fun e => by
  obtain ⟨a, ha, hla⟩ := List.any_eq_true.1 e
  simp only [late, Bool.and_eq_true, Bool.or_eq_true, decide_eq_true_eq] at hla
  have h1 := h.le a ha hla.1
  have h2 := h.xn rfl a ha hla.1
  omega
theorem exO_put (h0 : c.kd = 0) (h : RepI us c.it c.rp none m) (hm : ¬ c.rp < m) (hn : fndU us c.it = none) : execP (decide (kind c.it = 2)) us cs c = (putR us ⟨c.it, c.rp, 0, 0, 0⟩, 0, 0) := by
  unfold execP
  rw [if_pos h0, if_neg (exO_late h hm), fndU_none.1 hn, putR_ins fun a ha e => h.xn rfl a ha e.1 e.2]
theorem exO_put2 (v : Inv kind mach us) (h0 : c.kd = 0) (h : RepI us c.it c.rp none m) (hm : ¬ c.rp < m) {u : U} (hu : fndU us c.it = some u) : execP (decide (kind c.it = 2)) us cs c = (putR (putR us { u with st := 3 }) ⟨c.it, c.rp, 0, 0, 0⟩, 0, 0) := by
  obtain ⟨i, hi, hui⟩ := fndU_get hu
  obtain ⟨u', hu', e1, _⟩ := fnd_some hi
  rw [hui] at hu'; cases hu'
  have hne : ¬ rpOf us i = c.rp := by rw [rpOf_get hui]; exact h.xn rfl u (List.mem_of_getElem? hui) e1
  unfold execP
  rw [if_pos h0, if_neg (exO_late h hm), hi]
  simp only
  rw [if_neg hne, putR_st v hui, putR_ins fun a ha e => ?_]
  rcases stAt_mem ha with h1 | ⟨u2, h1, rfl⟩
  · exact h.xn rfl a h1 e.1 e.2
  · rw [hui] at h1; cases h1
    exact h.xn rfl u (List.mem_of_getElem? hui) e.1 e.2
theorem ex1_none (h0 : c.kd = 1) (hn : fndU us c.it = none) : execP (decide (kind c.it = 2)) us cs c = (us, 0, 0) := by
  unfold execP
  rw [if_neg (by omega), if_pos h0, fndU_none.1 hn]
theorem ex1_some (v : Inv kind mach us) (h0 : c.kd = 1) {u : U} (hu : fndU us c.it = some u) : execP (decide (kind c.it = 2)) us cs c = (putR us { u with st := 3 }, 0, 0) := by
  obtain ⟨i, hi, hui⟩ := fndU_get hu
  unfold execP
  rw [if_neg (by omega), if_pos h0, hi, putR_st v hui]
theorem ex2_none (v : Inv kind mach us) (hf : Fits (kind c.it) mach c) (h0 : c.kd = 2) (hn : fndU us c.it = none) : execP (decide (kind c.it = 2)) us cs c = (putR us ⟨c.it, 0, 0, if kind c.it = 2 then c.va else 0, 0⟩, 0, 0) := by
  obtain ⟨hk, _⟩ := hf
  unfold kdFit at hk
  have hnn := fndU_none.1 hn
  unfold execP
  rw [if_neg (by omega), if_neg (by omega), if_pos h0, hnn]
  simp only [decide_eq_true_eq]
  rw [putR_ins fun a ha e => v.none_pool (by omega) hnn a ha e.1]
theorem ex2_bad (h0 : c.kd = 2) {u : U} (hu : fndU us c.it = some u) (h1 : u.st = 1) : execP (decide (kind c.it = 2)) us cs c = (us, 9, 0) := by
  obtain ⟨i, hi, hui⟩ := fndU_get hu
  unfold execP
  rw [if_neg (by omega), if_neg (by omega), if_pos h0, hi]
  simp only
  rw [if_pos (by rw [stOf_get hui]; exact h1)]
theorem ex2_some (v : Inv kind mach us) (h0 : c.kd = 2) {u : U} (hu : fndU us c.it = some u) (h1 : ¬ u.st = 1) : execP (decide (kind c.it = 2)) us cs c = (putR us { u with st := 0 }, 0, 0) := by
  obtain ⟨i, hi, hui⟩ := fndU_get hu
  unfold execP
  rw [if_neg (by omega), if_neg (by omega), if_pos h0, hi]
  simp only
  rw [if_neg (by rw [stOf_get hui]; exact h1), putR_st v hui]
theorem ex34_none (h0 : c.kd = 3 ∨ c.kd = 4) (hn : fndU us c.it = none) : execP (decide (kind c.it = 2)) us cs c = (us, 6, 0) := by
  unfold execP
  rw [if_neg (by omega), if_neg (by omega), if_neg (by omega)]
  rcases h0 with h0 | h0
  · rw [if_pos h0, fndU_none.1 hn]
  · rw [if_neg (by omega), if_pos h0, fndU_none.1 hn]
theorem ex3_some (v : Inv kind mach us) (h0 : c.kd = 3) {u : U} (hu : fndU us c.it = some u) : execP (decide (kind c.it = 2)) us cs c = (putR us { u with st := 1 }, 0, 0) := by
  obtain ⟨i, hi, hui⟩ := fndU_get hu
  unfold execP
  rw [if_neg (by omega), if_neg (by omega), if_neg (by omega), if_pos h0, hi, putR_st v hui]
theorem ex4_some (v : Inv kind mach us) (h0 : c.kd = 4) {u : U} (hu : fndU us c.it = some u) : execP (decide (kind c.it = 2)) us cs c = (putR us { u with st := 2 }, 0, u.va) := by
  obtain ⟨i, hi, hui⟩ := fndU_get hu
  unfold execP
  rw [if_neg (by omega), if_neg (by omega), if_neg (by omega), if_neg (by omega), if_pos h0, hi, putR_st v hui]
  simp only
  rw [vaOf_get hui]
theorem ex5_bad (hf : Fits (kind c.it) mach c) (h0 : c.kd = 5) {u : U} (hu : fndU us c.it = some u) (h1 : u.st = 0 ∨ 0 < opens cs c.it) : execP (decide (kind c.it = 2)) us cs c = (us, 9, 0) := by
  obtain ⟨i, hi, hui⟩ := fndU_get hu
  unfold execP
  rw [if_neg (by omega), if_neg (by omega), if_neg (by omega), if_neg (by omega), if_neg (by omega), hi]
  simp only
  rw [if_pos (by rw [stOf_get hui]; exact h1)]
theorem filter_erase {l : List U} {it : Int} {i : Nat} (hi : i < l.length) (h1 : ∀ (j : Nat) b, l[j]? = some b → (b.it = it ↔ j = i)) : l.filter (fun u => decide (u.it ≠ it)) = l.eraseIdx i := by
  rw [List.eraseIdx_eq_take_drop_succ]
  have e : l = l.take i ++ l[i] :: l.drop (i + 1) := by rw [← List.drop_eq_getElem_cons hi, List.take_append_drop]
  have f1 : (l.take i).filter (fun u => decide (u.it ≠ it)) = l.take i := List.filter_eq_self.2 fun a ha => by
    obtain ⟨j, hj⟩ := List.getElem?_of_mem ha
    rw [List.getElem?_take] at hj
    split at hj
    · have := h1 j a hj
      simp only [decide_eq_true_eq]
      intro e; have := this.1 e; omega
    · cases hj
  have f2 : (l.drop (i + 1)).filter (fun u => decide (u.it ≠ it)) = l.drop (i + 1) := List.filter_eq_self.2 fun a ha => by
    obtain ⟨j, hj⟩ := List.getElem?_of_mem ha
    rw [List.getElem?_drop] at hj
    have := h1 _ a hj
    simp only [decide_eq_true_eq]
    intro e; have := this.1 e; omega
  have f3 : l[i].it = it := (h1 i _ (List.getElem?_eq_getElem hi)).2 rfl
  conv => lhs; rw [e]
  rw [List.filter_append, List.filter_cons, f1, f2]
  simp [f3]
theorem ex5_some (v : Inv kind mach us) (hf : Fits (kind c.it) mach c) (h0 : c.kd = 5) {u : U} (hu : fndU us c.it = some u) (h1 : ¬ (u.st = 0 ∨ 0 < opens cs c.it)) : execP (decide (kind c.it = 2)) us cs c = (us.filter (fun u => decide (u.it ≠ c.it)), 0, 0) := by
  obtain ⟨hk, _⟩ := hf
  unfold kdFit at hk
  obtain ⟨i, hi, hui⟩ := fndU_get hu
  obtain ⟨u', hu', e1, _⟩ := fnd_some hi
  rw [hui] at hu'; cases hu'
  unfold execP
  rw [if_neg (by omega), if_neg (by omega), if_neg (by omega), if_neg (by omega), if_neg (by omega), hi]
  simp only
  rw [if_neg (by rw [stOf_get hui]; exact h1), filter_erase (List.getElem?_eq_some_iff.1 hui).1 fun j b hb => ⟨fun e => ?_, fun e => ?_⟩]
  · exact v.one hb hui (by rw [e, e1]) (by rw [e]; omega)
  · subst e; rw [hui] at hb; cases hb; exact e1
theorem ex5_none (v : Inv kind mach us) (hf : Fits (kind c.it) mach c) (h0 : c.kd = 5) (hn : fndU us c.it = none) : execP (decide (kind c.it = 2)) us cs c = (us.filter (fun u => decide (u.it ≠ c.it)), 0, 0) := by
  obtain ⟨hk, _⟩ := hf
  unfold kdFit at hk
  have hnn := fndU_none.1 hn
  unfold execP
  rw [if_neg (by omega), if_neg (by omega), if_neg (by omega), if_neg (by omega), if_neg (by omega), hnn]
  simp only
  rw [List.filter_eq_self.2 fun a ha => by simpa using v.none_pool (by omega) hnn a ha]
end
end Go.Proofs.YtboapdcmaeojgaaGreatDoor.Fen
namespace Go.Proofs.YtboapdcmaeojgaaGreatDoor.Fen
set_option linter.unusedVariables false
set_option linter.unusedSimpArgs false
theorem seen_max {t : T} {g : Int} (h : ¬ g < t.gen) : (seen t g).gen = max t.gen g := by
  unfold seen
  split
  · simp only; omega
  · omega
theorem do_cs {k mach : Int} {t : T} {g s : Int} {c : Cm} : (doP k mach t g s c).1.cs = t.cs := by
  unfold doP
  split
  · rfl
  split
  · rfl
  split
  · exact seen_cs _ _
  · simp only
    split <;> exact seen_cs _ _
theorem look_app {dn : List (Int × Int)} {s v : Int} {p : Int × Int} (h : look dn s = some v) : look (dn ++ [p]) s = some v := by
  unfold look at h ⊢
  rw [List.find?_append]
  cases hf : dn.find? fun p => decide (p.1 = s) with
  | none => rw [hf] at h; cases h
  | some q => rw [hf] at h; simpa using h
theorem look_new {dn : List (Int × Int)} {s v : Int} (h : look dn s = none) : look (dn ++ [(s, v)]) s = some v := by
  unfold look at h ⊢
  rw [List.find?_append]
  cases hf : dn.find? fun p => decide (p.1 = s) with
  | none => simp
  | some q => rw [hf] at h; cases h
def Was (t : T) (g s v : Int) : Prop := g ≤ t.gen ∧ (t.gen = g → look t.dn s = some v)
theorem do_was {k mach : Int} {t : T} {g s : Int} {c : Cm} (h : (doP k mach t g s c).2.1 = 0) : (1 ≤ g ∧ 1 ≤ s ∧ Fits k mach c) ∧ Was (doP k mach t g s c).1 g s (doP k mach t g s c).2.2 := by
  unfold doP at h ⊢
  split at h
  · cases h
  rename_i hf
  rw [Classical.not_not] at hf
  refine ⟨hf, ?_⟩
  rw [if_neg (fun h => h hf)]
  split at h
  · cases h
  rename_i hg
  rw [if_neg hg]
  have hm := seen_max hg
  split at h
  · rename_i v hv
    simp only [hv]
    exact ⟨by rw [hm]; omega, fun _ => hv⟩
  · rename_i hv
    simp only [hv] at h ⊢
    split at h
    · rename_i he
      rw [if_pos he]
      exact ⟨by show g ≤ (seen t g).gen; rw [hm]; omega, fun _ => look_new hv⟩
    · rename_i he
      exact absurd h he
theorem do_keep {k mach : Int} {t : T} {g s v : Int} (h : Was t g s v) {g' s' : Int} {c : Cm} : Was (doP k mach t g' s' c).1 g s v := by
  have hs : Was (seen t g') g s v := by
    unfold seen
    split
    · rename_i hlt
      exact ⟨by have := h.1; simp only; omega, fun e => by have := h.1; simp only at e; omega⟩
    · exact h
  unfold doP
  split
  · exact h
  split
  · exact h
  split
  · exact hs
  · simp only
    split
    · exact ⟨hs.1, fun e => look_app (hs.2 e)⟩
    · exact hs
theorem do_again {k mach : Int} {t : T} {g s v : Int} {c : Cm} (h : Was t g s v) (hf : 1 ≤ g ∧ 1 ≤ s ∧ Fits k mach c) : (doP k mach t g s c).1 = t ∧ (if t.gen = g then (doP k mach t g s c).2 = (0, v) else (doP k mach t g s c).2 = (12, 0)) := by
  unfold doP
  rw [if_neg (fun h => h hf)]
  by_cases e : t.gen = g
  · have hsn : seen t g = t := by unfold seen; rw [if_neg (by omega)]
    rw [if_neg (show ¬ g < t.gen by omega), hsn, h.2 e, if_pos e]
    exact ⟨rfl, rfl⟩
  · have := h.1
    rw [if_pos (show g < t.gen by omega), if_neg e]
    exact ⟨rfl, rfl⟩
@[simp] theorem listP_len (us : List U) (cs : List Cl) : (listP us cs).length = us.length := by simp [listP]
theorem begin_us {k : Int} {t : T} {c : Cl} : (beginP k t c).1.us = t.us := by
  unfold beginP
  repeat' split
  all_goals rfl
end Go.Proofs.YtboapdcmaeojgaaGreatDoor.Fen
namespace Go.Proofs.YtboapdcmaeojgaaGreatDoor.Fen
open Cat SL
set_option linter.unusedVariables false
set_option linter.unusedSimpArgs false
def U.c (u : U) : List Value := [.int .i64 u.it, .int .i64 u.rp, .int .i64 u.st, .int .i64 u.va, .int .i64 u.ca]
def Cl.c (x : Cl) : List Value := [.int .i64 x.it, .int .i64 x.cl, .int .i64 x.nu, .int .i64 x.va]
def Cm.c (x : Cm) : List Value := [.int .i64 x.kd, .int .i64 x.it, .int .i64 x.rp, .int .i64 x.va]
theorem U.one (u : U) : ∀ v ∈ u.c, v.oneCell' = true := by intro v hv; simp [U.c] at hv; rcases hv with rfl | rfl | rfl | rfl | rfl <;> rfl
theorem Cl.one (u : Cl) : ∀ v ∈ u.c, v.oneCell' = true := by intro v hv; simp [Cl.c] at hv; rcases hv with rfl | rfl | rfl | rfl <;> rfl
theorem uz_get {l : List U} {i : Nat} {u : U} (h : l[i]? = some u) : (l.map U.c)[i]? = some u.c := by simp [h]
def newU (mach : Int) (j : Nat) (x : It) : U := ⟨(j : Int) + 1, if x.kd = 0 then mach else 0, 0, 0, 0⟩
def newN (is : List It) (mach : Int) : Nat → List U
  | 0 => []
  | j + 1 => newN is mach j ++ (match is[j]? with
    | some x => if mach ∈ x.on then [newU mach j x] else []
    | none => [])
theorem newN_in {is : List It} {mach : Int} {j : Nat} {x : It} (h : is[j]? = some x) (hm : mach ∈ x.on) : newN is mach (j + 1) = newN is mach j ++ [newU mach j x] := by
  show _ ++ _ = _
  rw [h]; simp only; rw [if_pos hm]
theorem newN_out {is : List It} {mach : Int} {j : Nat} {x : It} (h : is[j]? = some x) (hm : ¬ mach ∈ x.on) : newN is mach (j + 1) = newN is mach j := by
  show _ ++ _ = _
  rw [h]; simp only; rw [if_neg hm, List.append_nil]
theorem newN_le {is : List It} {mach : Int} : ∀ j, (newN is mach j).length ≤ j
  | 0 => Nat.le_refl _
  | j + 1 => by
    have h := newN_le (is := is) (mach := mach) j
    unfold newN
    rw [List.length_append]
    split
    · split
      · simp; omega
      · simp; omega
    · simp; omega
theorem kdOf_at {m : Md} {j : Nat} {x : It} (h : m.is[j]? = some x) : kdOf m ((j : Int) + 1) = x.kd := by
  have hlt := (List.getElem?_eq_some_iff.1 h).1
  unfold kdOf
  rw [if_neg (by omega), show ((j : Int) + 1 - 1).toNat = j by omega, h]
theorem kdOf_ge {m : Md} {z : Int} (h : 0 ≤ kdOf m z) : 1 ≤ z ∧ z ≤ m.is.length := by
  unfold kdOf at h
  split at h
  · omega
  · omega
theorem tmod_lt {mach : Int} (h0 : 0 ≤ mach) (h1 : mach < 100) : mach.tmod 100 = mach := Int.tmod_eq_of_lt h0 h1
theorem new_inv {m : Md} (hv : MdV m) {mach : Int} (h1 : 1 ≤ mach) (h2 : mach ≤ m.mc.length) : ∀ j, j ≤ m.is.length → Inv (kdOf m) mach (newN m.is mach j) ∧ ∀ u ∈ newN m.is mach j, u.it ≤ j
  | 0, _ => ⟨Inv.start _ _, fun _ h => nomatch h⟩
  | j + 1, hj => by
    obtain ⟨hi, hle⟩ := new_inv hv h1 h2 j (by omega)
    obtain ⟨x, hx⟩ : ∃ x, m.is[j]? = some x := ⟨_, List.getElem?_eq_getElem (by omega)⟩
    by_cases hm : mach ∈ x.on
    · rw [newN_in hx hm]
      have hk := kdOf_at hx
      have hmc := hv.site.n3.2
      have hc := (hv.it x (List.mem_of_getElem? hx)).1
      refine ⟨⟨fun u hu => ?_, ?_⟩, fun u hu => ?_⟩
      · rcases List.mem_append.1 hu with h | h
        · exact hi.ok u h
        · simp only [List.mem_singleton] at h; subst h
          refine ⟨rfl, ?_⟩
          show (kdOf m ((j : Int) + 1) = 0 ∧ 1 ≤ (if x.kd = 0 then mach else 0) ∧ _) ∨ _
          rw [hk]
          unfold newU
          simp only
          rcases hc with ⟨h, _⟩ | ⟨h, _⟩ | ⟨h, _⟩
          · left; rw [if_pos h]; exact ⟨h, h1, tmod_lt (by omega) (by omega), .inl trivial, trivial⟩
          · right; left; rw [hk, if_neg (by omega)]; exact ⟨h, rfl, .inl trivial, trivial⟩
          · right; right; rw [hk, if_neg (by omega)]; exact ⟨h, rfl, .inl trivial⟩
      · rw [List.pairwise_append]
        refine ⟨hi.pw, List.pairwise_singleton _ _, fun a ha b hb => ?_⟩
        simp only [List.mem_singleton] at hb; subst hb
        have := hle a ha
        exact .inl (by show a.it < (j : Int) + 1; omega)
      · rcases List.mem_append.1 hu with h | h
        · have := hle u h; omega
        · simp only [List.mem_singleton] at h; subst h
          show (j : Int) + 1 ≤ ((j + 1 : Nat) : Int); omega
    · rw [newN_out hx hm]
      exact ⟨hi, fun u hu => by have := hle u hu; omega⟩
def newT (m : Md) (mach : Int) : T := ⟨newN m.is mach m.is.length, [], 0, []⟩
theorem newT_inv {m : Md} (hv : MdV m) {mach : Int} (h1 : 1 ≤ mach) (h2 : mach ≤ m.mc.length) : Inv (kdOf m) mach (newT m mach).us := (new_inv hv h1 h2 _ (Nat.le_refl _)).1
theorem Inv.rng {m : Md} {mach : Int} {us : List U} (v : Inv (kdOf m) mach us) {u : U} (hu : u ∈ us) : 1 ≤ u.it ∧ u.it ≤ m.is.length ∧ 0 ≤ u.rp ∧ 0 ≤ u.st ∧ u.st ≤ 3 := by
  have h := (v.ok u hu).2
  rcases h with ⟨h, h1, h2, h3, h4⟩ | ⟨h, h1, h2, h3⟩ | ⟨h, h1, h2⟩
  all_goals
    have := kdOf_ge (m := m) (z := u.it) (by omega)
    omega
def URng (a : U) : Prop := 0 ≤ a.it ∧ a.it ≤ 1000000 ∧ 0 ≤ a.rp ∧ a.rp ≤ 9223372036854775807
structure TI (m : Md) (mach : Int) (t : T) : Prop where
  inv : Inv (kdOf m) mach t.us
  rng : ∀ a ∈ t.us, a.rp ≤ 9223372036854775807
theorem TI.ur {m : Md} (hv : MdV m) {mach : Int} {t : T} (h : TI m mach t) : ∀ a ∈ t.us, URng a := fun a ha => by
  have h1 := h.inv.rng ha
  have h2 := h.rng a ha
  have h3 := hv.n5
  exact ⟨by omega, by omega, by omega, h2⟩
theorem ins_len {us : List U} {u : U} : (ins us u).length = us.length + 1 := by
  unfold ins
  have := congrArg List.length (List.takeWhile_append_dropWhile (p := lt u) (l := us))
  rw [List.length_append] at this
  rw [List.length_append, List.length_cons]
  omega
theorem exec_len {job : Bool} {us : List U} {cs : List Cl} {c : Cm} : (execP job us cs c).1.length ≤ us.length + 1 := by
  unfold execP
  repeat' split
  all_goals simp only [ins_len, stAt_len]
  all_goals first | omega | (have := List.length_eraseIdx_le us (by assumption); omega)
theorem do_len {k mach : Int} {t : T} {g s : Int} {c : Cm} : (doP k mach t g s c).1.us.length ≤ t.us.length + 1 := by
  unfold doP
  split
  · exact Nat.le_succ _
  split
  · exact Nat.le_succ _
  split
  · rw [seen_us]; exact Nat.le_succ _
  · have := exec_len (job := decide (k = 2)) (us := (seen t g).us) (cs := (seen t g).cs) (c := c)
    rw [seen_us] at this
    simp only
    split
    · simp only [seen_us]; exact this
    · simp only [seen_us]; exact this
theorem exec_rng {job : Bool} {us : List U} {cs : List Cl} {c : Cm} (h : ∀ a ∈ us, a.rp ≤ 9223372036854775807) (hc : c.rp ≤ 9223372036854775807) : ∀ a ∈ (execP job us cs c).1, a.rp ≤ 9223372036854775807 := by
  have hst : ∀ i s, ∀ a ∈ stAt us i s, a.rp ≤ 9223372036854775807 := fun i s a ha => by
    rcases stAt_mem ha with h1 | ⟨u, hu, rfl⟩
    · exact h a h1
    · exact h u (List.mem_of_getElem? hu)
  unfold execP
  repeat' split
  all_goals simp only
  all_goals intro a ha
  all_goals first
    | exact h a ha
    | exact hst _ _ a ha
    | exact h a ((List.eraseIdx_sublist _ _).subset ha)
    | (rcases ins_mem.1 ha with e | e
       · subst e; first | exact hc | (simp only; omega)
       · first | exact h a e | exact hst _ _ a e)
theorem do_ti {m : Md} {mach : Int} {t : T} (h : TI m mach t) {g s : Int} {c : Cm} (hc : c.rp ≤ 9223372036854775807) : TI m mach (doP (kdOf m c.it) mach t g s c).1 := by
  refine ⟨do_inv h.inv, ?_⟩
  unfold doP
  split
  · exact h.rng
  split
  · exact h.rng
  split
  · rw [seen_us]; exact h.rng
  · have := exec_rng (job := decide (kdOf m c.it = 2)) (us := (seen t g).us) (cs := (seen t g).cs) (c := c) (by rw [seen_us]; exact h.rng) hc
    simp only
    split
    · exact this
    · exact this
theorem begin_ti {m : Md} {mach : Int} {t : T} (h : TI m mach t) {k : Int} {c : Cl} : TI m mach (beginP k t c).1 := ⟨by rw [begin_us]; exact h.inv, by rw [begin_us]; exact h.rng⟩
theorem tick_ti {m : Md} {mach : Int} {t : T} (h : TI m mach t) : TI m mach (tickP (kdOf m) t) := ⟨tick_inv h.inv, fun a ha => by
  obtain ⟨u, hu, rfl⟩ := List.mem_map.1 ha
  have := h.rng u hu
  unfold tickU
  split <;> exact this⟩
theorem new_ti {m : Md} (hv : MdV m) {mach : Int} (h1 : 1 ≤ mach) (h2 : mach ≤ m.mc.length) : TI m mach (newT m mach) := ⟨newT_inv hv h1 h2, fun a ha => by
  have hi := (newT_inv hv h1 h2).ok a ha
  have hm := hv.site.n3.2
  have : ∀ j, ∀ a ∈ newN m.is mach j, a.rp ≤ 9223372036854775807 := fun j => by
    induction j with
    | zero => intro a ha; cases ha
    | succ j ih =>
      intro a ha
      unfold newN at ha
      rcases List.mem_append.1 ha with h | h
      · exact ih a h
      · split at h
        · split at h
          · simp only [List.mem_singleton] at h; subst h; unfold newU; simp only; split <;> omega
          · cases h
        · cases h
  exact this _ a ha⟩
theorem begin_len {k : Int} {t : T} {c : Cl} : (beginP k t c).1.cs.length ≤ t.cs.length + 1 := by
  unfold beginP
  repeat' split
  all_goals simp
def cfU (a b : U) : Int := if a.it ≠ b.it then a.it - b.it else a.rp - b.rp
theorem cfU_lt {a b : U} : cfU a b < 0 ↔ lt b a = true := by
  unfold cfU Fen.lt
  split
  · simp; omega
  · simp; omega
theorem sorted_ins {us l : List U} {u : U} (hp : us.Pairwise R) (hu : ∀ a ∈ us, ¬ (a.it = u.it ∧ a.rp = u.rp)) (hperm : l.Perm (us ++ [u])) (hs : l.Pairwise fun a b => lt a b = false) : l = ins us u := by
  have hlt : ∀ a b : U, lt a b = true ↔ b.it < a.it ∨ (b.it = a.it ∧ b.rp < a.rp) := fun a b => by unfold Fen.lt; simp
  have hpi : (ins us u).Perm (us ++ [u]) := by
    unfold ins
    have h1 := List.takeWhile_append_dropWhile (p := lt u) (l := us)
    conv => rhs; rw [← h1]
    rw [List.append_assoc]
    exact List.Perm.append_left _ (List.perm_append_comm (l₁ := [u]))
  have hd0 : us.Pairwise fun a b => ¬ (a.it = b.it ∧ a.rp = b.rp) := hp.imp fun {a b} h => by unfold R at h; omega
  have hd : (us ++ [u]).Pairwise fun a b => ¬ (a.it = b.it ∧ a.rp = b.rp) := by
    rw [List.pairwise_append]
    exact ⟨hd0, List.pairwise_singleton _ _, fun a ha b hb => by simp only [List.mem_singleton] at hb; subst hb; exact hu a ha⟩
  have hsym : ∀ {a b : U}, ¬ (a.it = b.it ∧ a.rp = b.rp) → ¬ (b.it = a.it ∧ b.rp = a.rp) := fun h => by omega
  have hl1 : l.Pairwise fun a b => lt b a = true := by
    have hdl : l.Pairwise fun a b => ¬ (a.it = b.it ∧ a.rp = b.rp) := (hperm.pairwise_iff hsym).2 hd
    exact (hs.and hdl).imp fun {a b} h => by
      obtain ⟨h1, h2⟩ := h
      have h3 : ¬ (lt a b = true) := by rw [h1]; decide
      rw [hlt] at h3 ⊢
      omega
  have hl2 : (ins us u).Pairwise fun a b => lt b a = true := by
    have hdl : (ins us u).Pairwise fun a b => ¬ (a.it = b.it ∧ a.rp = b.rp) := (hpi.pairwise_iff hsym).2 hd
    have hins : (ins us u).Pairwise fun a b => lt a b = false := by
      unfold ins
      have h1 := List.takeWhile_append_dropWhile (p := lt u) (l := us)
      rw [← h1, List.pairwise_append] at hp
      obtain ⟨p1, p2, p3⟩ := hp
      have tw : ∀ a ∈ us.takeWhile (lt u), lt u a = true := fun a ha => takeWhile_all ha
      have dw : ∀ b ∈ us.dropWhile (lt u), lt u b = false := by
        cases hx : us.dropWhile (lt u) with
        | nil => intro b hb; cases hb
        | cons x r =>
          have hx0 := dropWhile_head hx
          rw [hx, List.pairwise_cons] at p2
          intro b hb
          rcases List.mem_cons.1 hb with e | e
          · subst e; exact hx0
          · have hr := p2.1 b e
            cases hb2 : lt u b with
            | false => rfl
            | true =>
              exfalso
              have h3 : ¬ (lt u x = true) := by rw [hx0]; decide
              rw [hlt] at h3 hb2
              unfold R at hr
              omega
      have hR : ∀ {a b : U}, R a b → lt a b = false := fun h => h.nlt
      rw [List.pairwise_append, List.pairwise_cons]
      refine ⟨p1.imp hR, ⟨dw, p2.imp hR⟩, fun a ha b hb => ?_⟩
      have ha1 := tw a ha
      rcases List.mem_cons.1 hb with e | e
      · subst e
        cases hb2 : lt a b with
        | false => rfl
        | true => exfalso; rw [hlt] at ha1 hb2; omega
      · exact hR (p3 a ha b e)
    exact (hins.and hdl).imp fun {a b} h => by
      obtain ⟨h1, h2⟩ := h
      have h3 : ¬ (lt a b = true) := by rw [h1]; decide
      rw [hlt] at h3 ⊢
      omega
  exact (hperm.trans hpi.symm).eq_of_pairwise (fun a b _ _ h1 h2 => by exfalso; rw [hlt] at h1 h2; omega) hl1 hl2
end Go.Proofs.YtboapdcmaeojgaaGreatDoor.Fen
namespace Go.Proofs.YtboapdcmaeojgaaGreatDoor.SL
set_option linter.unusedVariables false
section
variable {κ : Type} [DecidableEq κ] {X : Cx} {σ : Loc} {L : Sh} {ty T : TypeId} {x y z : Operand}
theorem MapP.clear {enc : κ → Value} {es : Array MapEntry} {clock : Nat} {m : List (κ × Value)} (h : MapP enc es clock m) : MapP enc #[] clock [] := ⟨rfl, by simp, by simp, by simp⟩
theorem Eff.clearM {kt e c b : Nat} {enc : κ → Value} {es : Array MapEntry} {clock : Nat} {m : List (κ × Value)} (ht : X.P.underlying T = some (.map kt e)) (hx : ev σ x = some (.map (some b)))
    (hL : lk L c = some (single b (.map es clock))) (hM : MapP enc es clock m) : Eff X (.call { callee := .builtin .clear, args := #[x], argTypes := #[T] }) ty σ L (fun v L' => v = .tuple #[] ∧ ∃ es' clock', MapP enc es' clock' [] ∧ L' = (c, single b (.map es' clock')) :: L) := fun a w ha hm o ho hty Kk Q hK => by
  have hb := hm.sub c _ hL b _ (single_self _ _)
  have hrun : (Builtin.clear_ #[T] ty #[.map (some b)]).run X.P w = .ok (.tuple #[]) { w with heap := w.heap.setIfInBounds b (.map #[] clock) } := by
    simp only [Builtin.clear_, List.getElem?_toArray, List.getElem?_cons_zero, Sem.run_bind, run_underlying ht, Result.andThen_ok, run_getObj_map hb, run_setObj_map hb, Sem.run_pure]
  unfold Oper.wp
  have : (execOp a.eval o).run X.P w = .ok (.value (.tuple #[])) { w with heap := w.heap.setIfInBounds b (.map #[] clock) } := by
    simp only [execOp, ho, resolve, Sem.run_bind, Sem.run_pure, Result.andThen_ok, invoke, builtin, eval1 hx a ha, hty]
    rw [hrun]; rfl
  rw [this]
  exact hK _ _ _ ⟨rfl, #[], clock, hM.clear, rfl⟩ (hm.setMap hL _)
end
end Go.Proofs.YtboapdcmaeojgaaGreatDoor.SL
namespace Go.Proofs.YtboapdcmaeojgaaGreatDoor.SL
set_option linter.unusedVariables false
open Go.RowKit Go.Sort Go.Shelf
theorem getB_some {α : Type} [Inhabited α] {l : List α} {i : Nat} {x : α} (h : l[i]? = some x) : l.toArray[i]! = x := by
  obtain ⟨hi, rfl⟩ := List.getElem?_eq_some_iff.1 h
  simp [hi]
theorem flatK_get {α : Type} {k : Nat} : ∀ (ls : List (List α)) (i : Nat) (r : List α) (j : Nat), (∀ l ∈ ls, l.length = k) → ls[i]? = some r → j < k → ls.flatten[i * k + j]? = r[j]?
  | [], i, r, j, _, h, _ => by simp at h
  | l :: ls, 0, r, j, hk, h, hj => by
    simp at h; subst h
    have := hk l (by simp)
    rw [List.flatten_cons, List.getElem?_append_left (by omega), Nat.zero_mul, Nat.zero_add]
  | l :: ls, i + 1, r, j, hk, h, hj => by
    have h1 := hk l (by simp)
    have h2 := flatK_get ls i r j (fun x hx => hk x (by simp [hx])) (by simpa using h) hj
    rw [List.flatten_cons, List.getElem?_append_right (by rw [h1, Nat.add_mul]; omega), h1, Nat.add_mul, Nat.one_mul, show i * k + k + j - k = i * k + j by omega, h2]
theorem flatten_len {α : Type} {k : Nat} : ∀ (ls : List (List α)), (∀ l ∈ ls, l.length = k) → ls.flatten.length = ls.length * k
  | [], _ => by simp
  | l :: ls, h => by rw [List.flatten_cons, List.length_append, h l (by simp), flatten_len ls (fun x hx => h x (by simp [hx])), List.length_cons, Nat.add_mul]; omega
theorem flatK_eq {α : Type} [Inhabited α] (enc : α → List Value) (k : Nat) (hk : ∀ x, (enc x).length = k) (l : List α) : flatK enc k l.toArray = (l.map enc).flatten.toArray := by
  have hl : ∀ r ∈ l.map enc, r.length = k := fun r hr => by obtain ⟨x, _, rfl⟩ := List.mem_map.1 hr; exact hk x
  refine ext_get! (by simp only [size_flatK, List.size_toArray, flatten_len _ hl, List.length_map]) fun t ht => ?_
  have ht' : t < l.length * k := by simpa using ht
  rw [get_flatK _ _ _ t (by simpa using ht')]
  have k0 : 0 < k := by rcases Nat.eq_zero_or_pos k with h | h; · subst h; simp at ht'
                        · exact h
  have hd : t / k < l.length := (Nat.div_lt_iff_lt_mul k0).2 ht'
  have hm : t % k < k := Nat.mod_lt _ k0
  have hg : l[t / k]? = some l[t / k] := List.getElem?_eq_getElem hd
  have h1 := flatK_get (l.map enc) (t / k) (enc l[t / k]) (t % k) hl (by rw [List.getElem?_map, hg]; rfl) hm
  rw [Nat.div_add_mod' t k] at h1
  rw [getB_some hg]
  have hlt : t % k < (enc l[t / k]).length := by rw [hk]; exact hm
  rw [List.getElem?_eq_getElem hlt] at h1
  rw [getB_some h1]
  exact getElem!_pos (enc l[t / k]) (t % k) hlt
theorem sortK_ct_of {α : Type} [Inhabited α] {P : Program} {f : FuncId} (fv : Value) (enc : α → List Value) (k : Nat) (k0 : 0 < k) (hk : ∀ x, (enc x).length = k) (h1c : ∀ a, ∀ v ∈ enc a, v.oneCell' = true) (post : List α → List α → Prop) (hlen : ∀ l l', post l l' → l'.length = l.length)
    (h1 : ∀ (blk cap : Nat) (l : List α) (w : World), HoldsK enc k w blk 0 l.toArray → blk < w.heap.size → l.length < 4611686018427387904 → Calls P f #[.slice (some ⟨blk, 0, none⟩) l.length cap, fv] w fun e w' =>
      e = .returned (.tuple #[]) ∧ ∃ l' n os, post l l' ∧ w' = sortWorldK enc k w blk 0 n l'.toArray os)
    {H : PH} {b c e : Nat} {l : List α} (hO : Own H (some ⟨b, 0, none⟩) c e k (l.map enc)) (hbig : l.length < 4611686018427387904) :
    Ct P f [.slice (some ⟨b, 0, none⟩) l.length c, fv] [H] (fun v Hs => v = .tuple #[] ∧ ∃ l' H', post l l' ∧ Own H' (some ⟨b, 0, none⟩) c e k (l'.map enc) ∧ Hs = [H']) := fun E F w hm => by
  obtain ⟨g1, g2, g3, g4⟩ := hO
  obtain ⟨g5, g6, sp, rfl, g7⟩ := g4
  have hb : w.heap[b]? = some (.cells ((l.map enc).flatten ++ sp).toArray e (0, 0)) := hm.sub 1 _ rfl b _ (single_self _ _)
  have hcell : ∀ o, w.cell? ⟨b, o, none⟩ = ((l.map enc).flatten ++ sp)[o]? := fun o => by simp [World.cell?, hb]
  refine (h1 b c l w ?_ (Array.getElem?_eq_some_iff.1 hb).1 hbig).mono ?_
  · unfold HoldsK
    rw [flatK_eq enc k hk]
    intro j hj
    have hj' : j < (l.map enc).flatten.length := by simpa using hj
    refine ⟨?_, by simp [World.frozen?, hb]⟩
    rw [hcell, Nat.zero_add, List.getElem?_append_left hj', List.getElem?_eq_getElem hj', getB_some (List.getElem?_eq_getElem hj')]
    rfl
  · rintro e' w' ⟨rfl, l', n, os, hpost, rfl⟩
    have hll := hlen l l' hpost
    have hlt := (Array.getElem?_eq_some_iff.1 hb).1
    unfold sortWorldK putRowK
    rw [flatK_eq enc k hk]
    have hr : ∀ (x : List α) r, r ∈ x.map enc → r.length = k := fun x r hr => by obtain ⟨y, _, rfl⟩ := List.mem_map.1 hr; exact hk y
    have hfl : (l'.map enc).flatten.length = (l.map enc).flatten.length := by rw [flatten_len _ (hr l'), flatten_len _ (hr l), List.length_map, List.length_map, hll]
    have hid : ∀ x : List Value, (x.map fun a => [id a]).flatten = x := fun x => by rw [flat_one]; simp
    have hsc := sortCells (id : Value → Value) (l.map enc).flatten (l'.map enc).flatten sp hfl
    rw [hid, hid] at hsc
    have hnew : (grow (putRow id (Sort.ahead w n) b 0 (l'.map enc).flatten.toArray) os).heap[b]? = some (.cells ((l'.map enc).flatten ++ sp).toArray e (0, 0)) := by
      have hsz : b < (putRow id (Sort.ahead w n) b 0 (l'.map enc).flatten.toArray).heap.size := by simpa [putRow, mapBlock, Sort.ahead] using hlt
      simp only [grow, Array.getElem?_append_left hsz]
      simp only [putRow, mapBlock, Sort.ahead, Array.getElem?_modify, if_true, hb, Option.map_some, onCells]
      rw [hsc]
    have hm' := hm.set (w' := grow (putRow id (Sort.ahead w n) b 0 (l'.map enc).flatten.toArray) os) 1 (G := single b (.cells ((l.map enc).flatten ++ sp).toArray e (0, 0))) (H := single b (.cells ((l'.map enc).flatten ++ sp).toArray e (0, 0))) (.inl rfl)
      ⟨rfl, rfl, by simp [grow, putRow, mapBlock, Sort.ahead], fun k hk hD => by
        have hkb : k ≠ b := fun e => hD ⟨_, by rw [e]; exact single_self _ _⟩
        have hsz : k < (putRow id (Sort.ahead w n) b 0 (l'.map enc).flatten.toArray).heap.size := by simpa [putRow, mapBlock, Sort.ahead] using hk
        simp only [grow, Array.getElem?_append_left hsz]
        simp only [putRow, mapBlock, Sort.ahead, Array.getElem?_modify]
        rw [if_neg (fun e => hkb e.symm)]⟩
      (fun k x hk => by obtain ⟨rfl, rfl⟩ := single_inv hk; exact hnew)
      (fun k x hk => by obtain ⟨rfl, rfl⟩ := single_inv hk; exact .inl ⟨_, single_self _ _⟩)
    refine ⟨_, _, rfl, ⟨rfl, l', _, hpost, ⟨fun r hr' => ?_, ?_, g3, rfl, rfl, sp, rfl, ?_⟩, rfl⟩, hm'.weak fun i J h => ?_⟩
    · obtain ⟨z, _, rfl⟩ := List.mem_map.1 hr'
      exact ⟨hk z, h1c z⟩
    · rw [List.length_map, hll]; simpa using g2
    · rw [List.length_append] at g7 ⊢
      rw [hfl]; exact g7
    · unfold lab lab at h
      simp only [lk_cons] at h ⊢
      split at h
      · rename_i e0; subst e0; cases h; simp
      · split at h
        · rename_i e0 e1; subst e1; cases h; simp
        · cases h
end Go.Proofs.YtboapdcmaeojgaaGreatDoor.SL
namespace Go.Proofs.YtboapdcmaeojgaaGreatDoor
open SL Cat Fen
set_option linter.unusedVariables false
set_option linter.unusedSimpArgs false
theorem fo82_0 : fieldOff Tryz.prog 82 0 = some 0 := by kernel_rfl
theorem sz48 : sz Tryz.prog 48 5 := (by kernel_rfl : (Tryz.prog.info? 48).map (·.size) = some 5)
theorem sz38 : sz Tryz.prog 38 4 := (by kernel_rfl : (Tryz.prog.info? 38).map (·.size) = some 4)
theorem ent91 : Ent Tryz.prog 91 := ⟨_, _, Tryz.func91, by kernel_rfl, rfl⟩
theorem fo48_0 : fieldOff Tryz.prog 48 0 = some 0 := by kernel_rfl
theorem fo48_2 : fieldOff Tryz.prog 48 2 = some 2 := by kernel_rfl
theorem fo82_2 : fieldOff Tryz.prog 82 2 = some 12 := by kernel_rfl
theorem ent90 : Ent Tryz.prog 90 := ⟨_, _, Tryz.func90, by kernel_rfl, rfl⟩
theorem fo82_3 : fieldOff Tryz.prog 82 3 = some 13 := by kernel_rfl
theorem zc38 : zc Tryz.prog 38 [.int .i64 0, .int .i64 0, .int .i64 0, .int .i64 0] := (by kernel_rfl : ((Tryz.prog.info? 38).bind (·.zero)).map (fun v => v.cells.toList) = some [.int .i64 0, .int .i64 0, .int .i64 0, .int .i64 0])
theorem fo38_0 : fieldOff Tryz.prog 38 0 = some 0 := by kernel_rfl
theorem fo82_4 : fieldOff Tryz.prog 82 4 = some 14 := by kernel_rfl
structure Fen.Tb where
  pu : Option Addr
  nu : Nat
  cu : Nat
  HU : PH
  pc : Option Addr
  nc : Nat
  cc : Nat
  HC : PH
  gen : Int
  d : Nat
  es : Array MapEntry
  ck : Nat
  mm : List (Int × Value)
structure Fen.Tb.Is (x : Tb) (t : T) : Prop where
  nu : x.nu = t.us.length
  nc : x.nc = t.cs.length
  gn : x.gen = t.gen
  ou : Own x.HU x.pu x.cu 48 5 (t.us.map U.c)
  oc : Own x.HC x.pc x.cc 38 4 (t.cs.map Cl.c)
  om : MapP (fun a : Int => Value.int .i64 a) x.es x.ck x.mm
  od : ∀ s, mget x.mm s = (look t.dn s).map (fun v => Value.int .i64 v)
def Fen.fz {α : Type} (q : α → Bool) (l : List α) : Int := match l.findIdx? q with
  | some i => (i : Int)
  | none => -1
theorem fz_some {α : Type} {q : α → Bool} {l : List α} {j : Nat} {x : α} (hx : l[j]? = some x) (hq : q x = true) (hI : ∀ (i : Nat) y, i < j → l[i]? = some y → q y = false) : fz q l = j := by
  unfold fz
  obtain ⟨hi, rfl⟩ := List.getElem?_eq_some_iff.1 hx
  rw [List.findIdx?_eq_some_iff_getElem.2 ⟨hi, hq, fun k hk => by simpa using hI k _ hk (List.getElem?_eq_getElem (Nat.lt_trans hk hi))⟩]
theorem fz_none {α : Type} {q : α → Bool} {l : List α} (h : ∀ x ∈ l, q x = false) : fz q l = -1 := by
  unfold fz
  rw [List.findIdx?_eq_none_iff.2 h]
theorem fz_neg {us : List U} {it : Int} (h : fz (opn it) us < 0) : fnd us it = none := by
  unfold fz at h
  unfold fnd
  split at h
  · omega
  · assumption
theorem fz_pos {us : List U} {it : Int} (h : ¬ fz (opn it) us < 0) : ∃ (i : Nat) (u : U), fz (opn it) us = (i : Int) ∧ fnd us it = some i ∧ us[i]? = some u ∧ u.it = it ∧ u.st ≠ 3 := by
  have h2 : ∃ i, fnd us it = some i := by
    cases hf : fnd us it with
    | some i => exact ⟨i, rfl⟩
    | none => exfalso; apply h; unfold fz; unfold fnd at hf; rw [hf]; decide
  obtain ⟨i, hi⟩ := h2
  obtain ⟨u, hu, h3, h4, _⟩ := fnd_some hi
  refine ⟨i, u, ?_, hi, hu, h3, h4⟩
  unfold fz; unfold fnd at hi; rw [hi]
theorem fz_lo {us : List U} {it : Int} : -1 ≤ fz (opn it) us ∧ fz (opn it) us < us.length := by
  by_cases h : fz (opn it) us < 0
  · have h1 := fz_neg h
    unfold fz; unfold fnd at h1; rw [h1]; exact ⟨by decide, by show (-1 : Int) < _; omega⟩
  · obtain ⟨i, u, h1, _, h2, _⟩ := fz_pos h
    have := (List.getElem?_eq_some_iff.1 h2).1
    omega
theorem opens_take {cs : List Cl} {j : Nat} {c : Cl} (it : Int) (h : cs[j]? = some c) : opens (cs.take (j + 1)) it = opens (cs.take j) it + (if c.it = it then 1 else 0) := by
  unfold opens
  rw [List.take_add_one, h, List.filter_append, List.length_append]
  congr 1
  by_cases e : c.it = it <;> simp [List.filter_cons, e]
theorem opens_le (cs : List Cl) (it : Int) : opens cs it ≤ cs.length := List.length_filter_le _ _
theorem uz_set {us : List U} {i : Nat} {s : Int} {u : U} (hu : us[i]? = some u) : (us.map U.c).set i (U.c { u with st := s }) = (stAt us i s).map U.c := by rw [stAt_set hu, List.map_set]
def Fen.Tb.setU (x : Tb) (H : PH) : Tb := { x with HU := H }
theorem Fen.Tb.Is.st {x : Tb} {t : T} (h : x.Is t) {i : Nat} {s : Int} {H : PH} (hO : Own H x.pu x.cu 48 5 ((stAt t.us i s).map U.c)) : (x.setU H).Is { t with us := stAt t.us i s } :=
  ⟨by show x.nu = _; rw [stAt_len]; exact h.nu, h.nc, h.gn, hO, h.oc, h.om, h.od⟩
def Fen.Tb.setN (x : Tb) (p : Option Addr) (n c : Nat) (H : PH) : Tb := { x with pu := p, nu := n, cu := c, HU := H }
theorem Fen.Tb.Is.ad {x : Tb} {t : T} (h : x.Is t) {us : List U} {p : Option Addr} {n c : Nat} {H : PH} (hn : n = us.length) (hO : Own H p c 48 5 (us.map U.c)) : (x.setN p n c H).Is { t with us := us } :=
  ⟨hn, h.nc, h.gn, hO, h.oc, h.om, h.od⟩
set_option maxRecDepth 100000 in
set_option maxHeartbeats 400000 in
theorem kind_ct (m : Md) (H1 : PH) (hM : m.In H1) (mach : Int) (b : Nat) (x : Tb) (z : Int) : Ct Tryz.prog 48 [.pointer (some ⟨b, 0, none⟩), .int .i64 z] [H1, single b (.cells [.slice m.psi m.si.length m.csi, .slice m.pfe m.fe.length m.cfe, .slice m.prk m.rk.length m.crk, .slice m.pmc m.mc.length m.cmc, .slice m.pln m.ln.length m.cln, .slice m.pis m.is.length m.cis, .int .i64 m.da, .int .i64 m.sl, .int .i64 m.re, .int .i64 m.fa, .slice m.prl m.rl.length m.crl, .int .i64 mach, .slice x.pu x.nu x.cu, .slice x.pc x.nc x.cc, .int .i64 x.gen, .map (some x.d)].toArray 82 (0, 0))] (fun v Hs => v = .int .i64 (kdOf m z) ∧ Hs = [H1, single b (.cells [.slice m.psi m.si.length m.csi, .slice m.pfe m.fe.length m.cfe, .slice m.prk m.rk.length m.crk, .slice m.pmc m.mc.length m.cmc, .slice m.pln m.ln.length m.cln, .slice m.pis m.is.length m.cis, .int .i64 m.da, .int .i64 m.sl, .int .i64 m.re, .int .i64 m.fa, .slice m.prl m.rl.length m.crl, .int .i64 mach, .slice x.pu x.nu x.cu, .slice x.pc x.nc x.cc, .int .i64 x.gen, .map (some x.d)].toArray 82 (0, 0))]) := by
  refine Ct.body Tryz.func48 rfl Tryz.ntmps48 rfl ?_
  intro E F
  have hMis := hM.is
  have hmi := hM.is.len_le
  simp only [List.length_map, maxLen] at hmi
  refine W.seq (W.region ?_)
  refine RL.q (Yld.assign rfl) rfl (RL.nil (N.next ?_))
  refine W.seq ?_
  refine W.seq (W.region ?_)
  refine RL.q (Yld.move rfl) rfl ?_
  refine RL.q (Yld.bin rfl rfl BinV.lss) rfl ?_
  refine RL.q (Yld.move rfl) rfl ?_
  refine' RL.or (t := 7) (d := 16) 9 rfl (.of [0, 1, 4, 5, 6] rfl) (.of [0, 1, 2] rfl) ?_ ?_ ?_
  rotate_left 1
  ·
   intro hg7
   refine RL.gq rfl rfl (Yld.move rfl) rfl ?_
   refine RL.gq rfl rfl (Yld.move rfl) rfl ?_
   refine RL.gq rfl rfl (Yld.nilP rfl) rfl ?_
   refine RL.gq rfl rfl (Yld.fieldAddr fo82_0 rfl) rfl ?_
   refine RL.gq rfl rfl (Yld.fieldAddr fo29_5 rfl) rfl ?_
   refine RL.gq rfl rfl (Yld.ld 2 Tryz.underlying26 rfl rfl rfl rfl) rfl ?_
   refine RL.gq rfl rfl (Yld.lenSl Tryz.underlying26 rfl) rfl ?_
   refine RL.gq rfl rfl (Yld.bin rfl rfl BinV.gtr) rfl ?_
   refine RL.q Yld.pk rfl ?_
   exact RL.nil (N.meet (.to rfl) (.to rfl))
  ·
   intro hg7
   refine RL.gskip rfl rfl rfl rfl ?_
   refine RL.gskip rfl rfl rfl rfl ?_
   refine RL.gskip rfl rfl rfl rfl ?_
   refine RL.gskip rfl rfl rfl rfl ?_
   refine RL.gskip rfl rfl rfl rfl ?_
   refine RL.gskip rfl rfl rfl rfl ?_
   refine RL.gskip rfl rfl rfl rfl ?_
   refine RL.gskip rfl rfl rfl rfl ?_
   refine RL.q Yld.pk rfl ?_
   exact RL.nil (N.meet (.to rfl) (.to rfl))
  refine RL.nil (N.next ?_)
  refine W.cond rfl (fun hc16 => ?_) (fun hc16 => ?_)
  ·
   simp only [Bool.or_eq_true, decide_eq_true_eq] at hc16
   have hk1 : kdOf m z = -1 := by unfold kdOf; exact if_pos hc16
   refine W.seq (W.region ?_)
   refine RL.q (Yld.assign rfl) rfl (RL.nil (N.next ?_))
   refine W.keep (.of [4] rfl) (.of [0, 1, 2] rfl) ?_
   refine W.ret ?_
   refine N.then_ret ?_
   exact N.retBy [1, 2] (.cons (.tmp rfl) .nil) rfl rfl rfl rfl ⟨by rw [hk1]; rfl, rfl⟩
  ·
   simp only [Bool.or_eq_false_iff, decide_eq_false_iff_not] at hc16
   obtain ⟨y, hy, hky⟩ := kdOf_in (m := m) (n := z) ⟨by omega, by omega⟩
   have hly : (m.is.map It.c)[(z - 1).toNat]? = some y.c := by rw [List.getElem?_map, hy]; rfl
   refine W.skip ?_
   refine N.next ?_
   refine W.keep (.of [0, 1] rfl) (.of [0, 1, 2] rfl) ?_
   refine W.seq (W.region ?_)
   refine RL.q (Yld.move rfl) rfl ?_
   refine RL.q (Yld.nilP rfl) rfl ?_
   refine RL.q (Yld.fieldAddr fo82_0 rfl) rfl ?_
   refine RL.q (Yld.fieldAddr fo29_5 rfl) rfl ?_
   refine RL.q (Yld.ld 2 Tryz.underlying26 rfl rfl rfl rfl) rfl ?_
   refine RL.q (Yld.move rfl) rfl ?_
   refine RL.q (Yld.bin rfl rfl (by first | exact BinV.sub (by omega) (by omega) | exact BinV.subW)) rfl ?_
   refine RL.q (Yld.ixr Tryz.underlying26 sz64 rfl rfl) rfl ?_
   refine RL.q (Yld.fieldAddr fo64_1 rfl) rfl ?_
   refine RL.q (by first | exact Yld.lrF 1 1 Tryz.underlying3 rfl rfl rfl rfl | exact Yld.lrF 2 1 Tryz.underlying3 rfl rfl rfl rfl) rfl ?_
   refine RL.q (Yld.assign rfl) rfl (RL.nil (N.next ?_))
   refine W.keep (.of [4] rfl) (.of [0, 1, 2] rfl) ?_
   refine W.ret ?_
   exact N.retBy [1, 2] (.cons (.tmp rfl) .nil) rfl rfl rfl rfl ⟨by rw [hky]; rfl, rfl⟩
set_option maxRecDepth 100000 in
set_option maxHeartbeats 400000 in
theorem ifU_ct (l : List U) (H1 : PH) (p : Option Addr) (c n : Nat) (hn : n = l.length) (hS : Sl H1 p c 5 (l.map U.c)) (f : Nat) (cap : List Value) (G1 : PH) (q : U → Bool) (hent : Ent Tryz.prog f) (hf : ∀ x ∈ l, Ct Tryz.prog f (.agg x.c.toArray :: cap) [H1, G1] (fun v Hs => v = .bool (q x) ∧ Hs = [H1, G1])) : Ct Tryz.prog 90 [.slice p n c, .func (.func f) [].toArray cap.toArray] [H1, G1] (fun v Hs => v = .int .i64 (fz q l) ∧ Hs = [H1, G1]) := by
  refine Ct.body Tryz.func90 rfl Tryz.ntmps90 rfl ?_
  intro E F
  subst hn
  have hmx := hS.len_le
  simp only [List.length_map, maxLen] at hmx
  refine W.seq (W.region ?_)
  refine RL.q (Yld.assign rfl) rfl (RL.nil (N.next ?_))
  refine W.seq ?_
  refine W.seq (W.region ?_)
  refine RL.q (Yld.move rfl) rfl ?_
  refine RL.q (Yld.lenSl Tryz.underlying41 rfl) rfl ?_
  refine RL.q (Yld.move rfl) rfl (RL.nil (N.next ?_))
  refine W.block ?_
  refine W.loopK (ι := Nat) (fun j => (j ≤ l.length ∧ ∀ (i : Nat) x, i < j → l[i]? = some x → q x = false)) (fun j => [(8, .int .i64 (j : Nat))]) (fun j => []) (fun j => l.length - j) (.of [0, 1, 7] rfl) (.of [0, 1, 2] rfl) 0 ?_ ?_ ?_ ?_
  · exact ⟨Nat.zero_le _, fun _ _ h => absurd h (Nat.not_lt_zero _)⟩
  · exact (.as rfl (by first | rfl | (simp; done) | (congr 1; simp; done) | (congr 1; omega)) .nil)
  · exact .nil
  rintro j ⟨hj, hI⟩
  refine W.keep (.of [8, 0, 1, 7] rfl) (.of [0, 1, 2] rfl) ?_
  refine W.seq (W.region ?_)
  refine RL.q (Yld.bin rfl rfl BinV.lss) rfl ?_
  refine RL.nil (N.next ?_)
  refine W.seq ?_
  first | refine W.condD rfl (fun hc9 => ?_) (fun hc9 => ?_) | (refine W.cond rfl (fun hc9 => ?_) (fun hc9 => ?_) <;> try simp only [Bool.or_eq_true, Bool.and_eq_true, Bool.not_eq_true', Bool.not_eq_false', decide_eq_true_eq, Bool.or_eq_false_iff, Bool.and_eq_false_iff, decide_eq_false_iff_not, beq_iff_eq, beq_eq_false_iff_ne, ne_eq, Decidable.not_not] at hc9)
  ·
   obtain ⟨x, hx⟩ : ∃ x, l[j]? = some x := ⟨_, List.getElem?_eq_getElem (show j < l.length by first | omega | (simp only [List.length_map] at *; omega))⟩
   have hlx : (l.map U.c)[j]? = some x.c := by simp [hx]
   refine W.skip ?_
   refine N.next ?_
   refine W.seq ?_
   refine W.block ?_
   refine W.seq (W.region ?_)
   refine RL.q (Yld.move rfl) rfl (RL.q (Yld.assign rfl) rfl (RL.nil (N.next ?_)))
   refine W.seq (W.region ?_)
   refine RL.q (Yld.move rfl) rfl (RL.q (Yld.move rfl) rfl (RL.q (Yld.move rfl) rfl ?_))
   refine RL.q (Yld.ixr Tryz.underlying41 sz48 rfl rfl) rfl ?_
   refine RL.q (by first | exact Yld.lrA 1 Tryz.underlying48 sz48 rfl rfl rfl | exact Yld.lrA 2 Tryz.underlying48 sz48 rfl rfl rfl) rfl ?_
   refine RL.e (Eff.callV hent [1, 2] [1, 2] rfl (.cons rfl .nil) (hf x (List.mem_of_getElem? hx)) rfl rfl rfl rfl (by rintro _ _ ⟨_, rfl⟩; rfl)) rfl ?_
   rintro _ _ ⟨_, ⟨rfl, rfl⟩, rfl⟩
   refine RL.nil (N.next ?_)
   refine W.keep (.of [0, 1, 5, 7, 8, 16] rfl) (.of [0, 1, 2] rfl) ?_
   refine W.cond rfl (fun hc16 => ?_) (fun hc16 => ?_)
   ·
    refine W.seq (W.region ?_)
    refine RL.q (Yld.move rfl) rfl (RL.q (Yld.assign rfl) rfl (RL.nil (N.next ?_)))
    refine W.keep (.of [4] rfl) (.of [0, 1, 2] rfl) ?_
    refine W.ret ?_
    refine N.block_ret ?_
    refine N.then_ret ?_
    refine N.then_ret ?_
    refine N.block_ret ?_
    refine N.then_ret ?_
    exact N.retBy [1, 2] (.cons (.tmp rfl) .nil) rfl rfl rfl rfl ⟨by rw [fz_some hx hc16 hI]; rfl, rfl⟩
   ·
    refine W.skip ?_
    refine N.block_normal ?_
    refine N.next ?_
    refine W.region ?_
    refine RL.q (Yld.bin rfl rfl (by first | exact BinV.add (by omega) (by omega) | exact BinV.addW)) rfl ?_
    refine RL.q (Yld.move rfl) rfl (RL.nil ?_)
    exact N.famK (j + 1) ⟨⟨by omega, fun i y hi hy => (Nat.lt_succ_iff_lt_or_eq.1 hi).elim (fun h => hI i y h hy) (fun e => by subst e; rw [hx] at hy; cases hy; simpa using hc16)⟩, by omega⟩ (.as rfl (by first | rfl | (simp; done) | (congr 1; simp; done) | (congr 1; omega)) .nil) (.to rfl) .nil (.to rfl)
  ·
   refine W.exit ?_
   refine N.then_exit ?_
   refine N.then_exit ?_
   refine N.block_eq ?_
   refine N.next ?_
   refine W.keep .nil (.of [0, 1, 2] rfl) ?_
   refine W.seq (W.region ?_)
   refine RL.q (Yld.assign rfl) rfl (RL.nil (N.next ?_))
   refine W.ret ?_
   exact N.retBy [1, 2] (.cons (.tmp rfl) .nil) rfl rfl rfl rfl ⟨by rw [fz_none (fun x hx => by obtain ⟨i, hi⟩ := List.getElem?_of_mem hx; exact hI i x (by have := (List.getElem?_eq_some_iff.1 hi).1; omega) hi)]; rfl, rfl⟩
set_option maxRecDepth 100000 in
set_option maxHeartbeats 400000 in
theorem ifCl_ct (l : List Cl) (H1 : PH) (p : Option Addr) (c n : Nat) (hn : n = l.length) (hS : Sl H1 p c 4 (l.map Cl.c)) (f : Nat) (cap : List Value) (G1 : PH) (q : Cl → Bool) (hent : Ent Tryz.prog f) (hf : ∀ x ∈ l, Ct Tryz.prog f (.agg x.c.toArray :: cap) [H1, G1] (fun v Hs => v = .bool (q x) ∧ Hs = [H1, G1])) : Ct Tryz.prog 92 [.slice p n c, .func (.func f) [].toArray cap.toArray] [H1, G1] (fun v Hs => v = .int .i64 (fz q l) ∧ Hs = [H1, G1]) := by
  refine Ct.body Tryz.func92 rfl Tryz.ntmps92 rfl ?_
  intro E F
  subst hn
  have hmx := hS.len_le
  simp only [List.length_map, maxLen] at hmx
  refine W.seq (W.region ?_)
  refine RL.q (Yld.assign rfl) rfl (RL.nil (N.next ?_))
  refine W.seq ?_
  refine W.seq (W.region ?_)
  refine RL.q (Yld.move rfl) rfl ?_
  refine RL.q (Yld.lenSl Tryz.underlying57 rfl) rfl ?_
  refine RL.q (Yld.move rfl) rfl (RL.nil (N.next ?_))
  refine W.block ?_
  refine W.loopK (ι := Nat) (fun j => (j ≤ l.length ∧ ∀ (i : Nat) x, i < j → l[i]? = some x → q x = false)) (fun j => [(8, .int .i64 (j : Nat))]) (fun j => []) (fun j => l.length - j) (.of [0, 1, 7] rfl) (.of [0, 1, 2] rfl) 0 ?_ ?_ ?_ ?_
  · exact ⟨Nat.zero_le _, fun _ _ h => absurd h (Nat.not_lt_zero _)⟩
  · exact (.as rfl (by first | rfl | (simp; done) | (congr 1; simp; done) | (congr 1; omega)) .nil)
  · exact .nil
  rintro j ⟨hj, hI⟩
  refine W.keep (.of [8, 0, 1, 7] rfl) (.of [0, 1, 2] rfl) ?_
  refine W.seq (W.region ?_)
  refine RL.q (Yld.bin rfl rfl BinV.lss) rfl ?_
  refine RL.nil (N.next ?_)
  refine W.seq ?_
  first | refine W.condD rfl (fun hc9 => ?_) (fun hc9 => ?_) | (refine W.cond rfl (fun hc9 => ?_) (fun hc9 => ?_) <;> try simp only [Bool.or_eq_true, Bool.and_eq_true, Bool.not_eq_true', Bool.not_eq_false', decide_eq_true_eq, Bool.or_eq_false_iff, Bool.and_eq_false_iff, decide_eq_false_iff_not, beq_iff_eq, beq_eq_false_iff_ne, ne_eq, Decidable.not_not] at hc9)
  ·
   obtain ⟨x, hx⟩ : ∃ x, l[j]? = some x := ⟨_, List.getElem?_eq_getElem (show j < l.length by first | omega | (simp only [List.length_map] at *; omega))⟩
   have hlx : (l.map Cl.c)[j]? = some x.c := by simp [hx]
   refine W.skip ?_
   refine N.next ?_
   refine W.seq ?_
   refine W.block ?_
   refine W.seq (W.region ?_)
   refine RL.q (Yld.move rfl) rfl (RL.q (Yld.assign rfl) rfl (RL.nil (N.next ?_)))
   refine W.seq (W.region ?_)
   refine RL.q (Yld.move rfl) rfl (RL.q (Yld.move rfl) rfl (RL.q (Yld.move rfl) rfl ?_))
   refine RL.q (Yld.ixr Tryz.underlying57 sz38 rfl rfl) rfl ?_
   refine RL.q (by first | exact Yld.lrA 1 Tryz.underlying38 sz38 rfl rfl rfl | exact Yld.lrA 2 Tryz.underlying38 sz38 rfl rfl rfl) rfl ?_
   refine RL.e (Eff.callV hent [1, 2] [1, 2] rfl (.cons rfl .nil) (hf x (List.mem_of_getElem? hx)) rfl rfl rfl rfl (by rintro _ _ ⟨_, rfl⟩; rfl)) rfl ?_
   rintro _ _ ⟨_, ⟨rfl, rfl⟩, rfl⟩
   refine RL.nil (N.next ?_)
   refine W.keep (.of [0, 1, 5, 7, 8, 16] rfl) (.of [0, 1, 2] rfl) ?_
   refine W.cond rfl (fun hc16 => ?_) (fun hc16 => ?_)
   ·
    refine W.seq (W.region ?_)
    refine RL.q (Yld.move rfl) rfl (RL.q (Yld.assign rfl) rfl (RL.nil (N.next ?_)))
    refine W.keep (.of [4] rfl) (.of [0, 1, 2] rfl) ?_
    refine W.ret ?_
    refine N.block_ret ?_
    refine N.then_ret ?_
    refine N.then_ret ?_
    refine N.block_ret ?_
    refine N.then_ret ?_
    exact N.retBy [1, 2] (.cons (.tmp rfl) .nil) rfl rfl rfl rfl ⟨by rw [fz_some hx hc16 hI]; rfl, rfl⟩
   ·
    refine W.skip ?_
    refine N.block_normal ?_
    refine N.next ?_
    refine W.region ?_
    refine RL.q (Yld.bin rfl rfl (by first | exact BinV.add (by omega) (by omega) | exact BinV.addW)) rfl ?_
    refine RL.q (Yld.move rfl) rfl (RL.nil ?_)
    exact N.famK (j + 1) ⟨⟨by omega, fun i y hi hy => (Nat.lt_succ_iff_lt_or_eq.1 hi).elim (fun h => hI i y h hy) (fun e => by subst e; rw [hx] at hy; cases hy; simpa using hc16)⟩, by omega⟩ (.as rfl (by first | rfl | (simp; done) | (congr 1; simp; done) | (congr 1; omega)) .nil) (.to rfl) .nil (.to rfl)
  ·
   refine W.exit ?_
   refine N.then_exit ?_
   refine N.then_exit ?_
   refine N.block_eq ?_
   refine N.next ?_
   refine W.keep .nil (.of [0, 1, 2] rfl) ?_
   refine W.seq (W.region ?_)
   refine RL.q (Yld.assign rfl) rfl (RL.nil (N.next ?_))
   refine W.ret ?_
   exact N.retBy [1, 2] (.cons (.tmp rfl) .nil) rfl rfl rfl rfl ⟨by rw [fz_none (fun x hx => by obtain ⟨i, hi⟩ := List.getElem?_of_mem hx; exact hI i x (by have := (List.getElem?_eq_some_iff.1 hi).1; omega) hi)]; rfl, rfl⟩
set_option maxRecDepth 100000 in
set_option maxHeartbeats 400000 in
theorem findC_ct (u : U) (it : Int) (b : Nat) (H1 : PH) : Ct Tryz.prog 91 [.agg [.int .i64 u.it, .int .i64 u.rp, .int .i64 u.st, .int .i64 u.va, .int .i64 u.ca].toArray, .pointer (some ⟨b, 0, none⟩)] [H1, single b (.cells [.int .i64 it].toArray 3 (0, 0))] (fun v Hs => v = .bool (opn it u) ∧ Hs = [H1, single b (.cells [.int .i64 it].toArray 3 (0, 0))]) := by
  refine Ct.body Tryz.func91 rfl Tryz.ntmps91 rfl ?_
  intro E F
  refine W.seq (W.region ?_)
  refine RL.e (Eff.box 102 _ rfl rfl) rfl ?_
  rintro _ _ ⟨b2, rfl, rfl⟩
  refine RL.q (Yld.assign rfl) rfl (RL.nil (N.next ?_))
  refine W.seq (W.region ?_)
  refine RL.q (Yld.fieldAddr fo48_0 rfl) rfl ?_
  refine RL.q (Yld.ld 102 Tryz.underlying3 rfl rfl rfl rfl) rfl ?_
  refine RL.q (Yld.ld 2 Tryz.underlying3 rfl rfl rfl rfl) rfl ?_
  refine RL.q (Yld.bin rfl rfl BinV.eql) rfl ?_
  refine RL.q (Yld.move rfl) rfl ?_
  refine' RL.and (t := 8) (d := 12) 4 rfl (.of [0, 1, 2, 3, 4, 5, 6, 7] rfl) (.of [0, 1, 2, 102] rfl) ?_ ?_ ?_
  rotate_left 1
  ·
   intro hg8
   refine RL.gq rfl rfl (Yld.fieldAddr fo48_2 rfl) rfl ?_
   refine RL.gq rfl rfl (Yld.ld 102 Tryz.underlying3 rfl rfl rfl rfl) rfl ?_
   refine RL.gq rfl rfl (Yld.bin rfl rfl BinV.neq) rfl ?_
   refine RL.q Yld.pk rfl ?_
   exact RL.nil (N.meet (.to rfl) (.to rfl))
  ·
   intro hg8
   refine RL.gskip rfl rfl rfl rfl ?_
   refine RL.gskip rfl rfl rfl rfl ?_
   refine RL.gskip rfl rfl rfl rfl ?_
   refine RL.q Yld.pk rfl ?_
   exact RL.nil (N.meet (.to rfl) (.to rfl))
  refine RL.q (Yld.assign rfl) rfl (RL.nil (N.next ?_))
  refine W.keep (.of [3] rfl) (.of [0, 1, 2, 102] rfl) ?_
  refine W.ret ?_
  exact N.retBy [1, 2] (.cons (.tmp rfl) .nil) rfl rfl rfl rfl ⟨rfl, rfl⟩
set_option maxRecDepth 100000 in
set_option maxHeartbeats 400000 in
theorem find_ct (m : Md) (mach : Int) (b : Nat) (t : T) (x : Tb) (hx : x.Is t) (it : Int) : Ct Tryz.prog 49 [.pointer (some ⟨b, 0, none⟩), .int .i64 it] [single b (.cells [.slice m.psi m.si.length m.csi, .slice m.pfe m.fe.length m.cfe, .slice m.prk m.rk.length m.crk, .slice m.pmc m.mc.length m.cmc, .slice m.pln m.ln.length m.cln, .slice m.pis m.is.length m.cis, .int .i64 m.da, .int .i64 m.sl, .int .i64 m.re, .int .i64 m.fa, .slice m.prl m.rl.length m.crl, .int .i64 mach, .slice x.pu x.nu x.cu, .slice x.pc x.nc x.cc, .int .i64 x.gen, .map (some x.d)].toArray 82 (0, 0)), x.HU] (fun v Hs => v = .int .i64 (fz (opn it) t.us) ∧ Hs = [single b (.cells [.slice m.psi m.si.length m.csi, .slice m.pfe m.fe.length m.cfe, .slice m.prk m.rk.length m.crk, .slice m.pmc m.mc.length m.cmc, .slice m.pln m.ln.length m.cln, .slice m.pis m.is.length m.cis, .int .i64 m.da, .int .i64 m.sl, .int .i64 m.re, .int .i64 m.fa, .slice m.prl m.rl.length m.crl, .int .i64 mach, .slice x.pu x.nu x.cu, .slice x.pc x.nc x.cc, .int .i64 x.gen, .map (some x.d)].toArray 82 (0, 0)), x.HU]) := by
  refine Ct.body Tryz.func49 rfl Tryz.ntmps49 rfl ?_
  intro E F
  refine W.seq (W.region ?_)
  refine RL.e (Eff.box 103 _ rfl rfl) rfl ?_
  rintro _ _ ⟨b3, rfl, rfl⟩
  refine RL.q (Yld.assign rfl) rfl (RL.nil (N.next ?_))
  refine W.seq (W.region ?_)
  refine RL.q (Yld.move rfl) rfl ?_
  refine RL.q (Yld.nilP rfl) rfl ?_
  refine RL.q (Yld.fieldAddr fo82_2 rfl) rfl ?_
  refine RL.q (Yld.ld 1 Tryz.underlying41 rfl rfl rfl rfl) rfl ?_
  refine RL.q (Yld.makeFunc eval0 (eval1 rfl)) rfl ?_
  refine RL.e (Eff.call ent90 [2, 103] [2, 103] (.cons rfl (.cons rfl .nil)) (ifU_ct t.us x.HU x.pu x.cu x.nu hx.nu hx.ou.sl 91 [.pointer (some ⟨b3, 0, none⟩)] _ (opn it) ent91 (fun u _ => findC_ct u it b3 x.HU)) rfl rfl rfl rfl (by rintro _ _ ⟨_, rfl⟩; rfl)) rfl ?_
  rintro _ _ ⟨_, ⟨rfl, rfl⟩, rfl⟩
  refine RL.q (Yld.assign rfl) rfl (RL.nil (N.next ?_))
  refine W.keep (.of [4] rfl) (.of [0, 1, 2, 103] rfl) ?_
  refine W.ret ?_
  exact N.retBy [1, 2] (.cons (.tmp rfl) .nil) rfl rfl rfl rfl ⟨rfl, rfl⟩
set_option maxRecDepth 100000 in
set_option maxHeartbeats 400000 in
theorem open_ct (m : Md) (mach : Int) (b : Nat) (t : T) (x : Tb) (hx : x.Is t) (it : Int) : Ct Tryz.prog 37 [.pointer (some ⟨b, 0, none⟩), .int .i64 it] [single b (.cells [.slice m.psi m.si.length m.csi, .slice m.pfe m.fe.length m.cfe, .slice m.prk m.rk.length m.crk, .slice m.pmc m.mc.length m.cmc, .slice m.pln m.ln.length m.cln, .slice m.pis m.is.length m.cis, .int .i64 m.da, .int .i64 m.sl, .int .i64 m.re, .int .i64 m.fa, .slice m.prl m.rl.length m.crl, .int .i64 mach, .slice x.pu x.nu x.cu, .slice x.pc x.nc x.cc, .int .i64 x.gen, .map (some x.d)].toArray 82 (0, 0)), x.HC] (fun v Hs => v = .int .i64 (opens t.cs it : Nat) ∧ Hs = [single b (.cells [.slice m.psi m.si.length m.csi, .slice m.pfe m.fe.length m.cfe, .slice m.prk m.rk.length m.crk, .slice m.pmc m.mc.length m.cmc, .slice m.pln m.ln.length m.cln, .slice m.pis m.is.length m.cis, .int .i64 m.da, .int .i64 m.sl, .int .i64 m.re, .int .i64 m.fa, .slice m.prl m.rl.length m.crl, .int .i64 mach, .slice x.pu x.nu x.cu, .slice x.pc x.nc x.cc, .int .i64 x.gen, .map (some x.d)].toArray 82 (0, 0)), x.HC]) := by
  refine Ct.body Tryz.func37 rfl Tryz.ntmps37 rfl ?_
  intro E F
  have hS := hx.oc.sl
  have hmx := hS.len_le
  simp only [List.length_map, maxLen] at hmx
  have hnc := hx.nc
  refine W.seq (W.region ?_)
  refine RL.q (Yld.assign rfl) rfl (RL.nil (N.next ?_))
  refine W.seq (W.region ?_)
  refine RL.q (Yld.assign rfl) rfl (RL.nil (N.next ?_))
  refine W.seq ?_
  refine W.seq (W.region ?_)
  refine RL.q (Yld.move rfl) rfl ?_
  refine RL.q (Yld.nilP rfl) rfl ?_
  refine RL.q (Yld.fieldAddr fo82_3 rfl) rfl ?_
  refine RL.q (Yld.ld 1 Tryz.underlying57 rfl rfl rfl rfl) rfl ?_
  refine RL.q (Yld.lenSl Tryz.underlying57 rfl) rfl ?_
  refine RL.q (Yld.move rfl) rfl (RL.nil (N.next ?_))
  refine W.keep (.of [1, 5, 11, 12, 13] rfl) (.of [0, 1, 2] rfl) ?_
  refine W.block ?_
  refine W.loopK (ι := Nat) (fun j => (j ≤ t.cs.length)) (fun j => [(5, .int .i64 (opens (t.cs.take j) it : Nat)), (13, .int .i64 (j : Nat))]) (fun j => []) (fun j => t.cs.length - j) (.of [1, 11, 12] rfl) (.of [0, 1, 2] rfl) 0 ?_ ?_ ?_ ?_
  · exact Nat.zero_le _
  · exact (.as rfl (by first | rfl | (simp; done) | (congr 1; simp; done) | (congr 1; omega)) (.as rfl (by first | rfl | (simp; done) | (congr 1; simp; done) | (congr 1; omega)) .nil))
  · exact .nil
  rintro j hj
  refine W.keep (.of [5, 13, 1, 11, 12] rfl) (.of [0, 1, 2] rfl) ?_
  refine W.seq (W.region ?_)
  refine RL.q (Yld.bin rfl rfl BinV.lss) rfl ?_
  refine RL.nil (N.next ?_)
  refine W.seq ?_
  first | refine W.condD rfl (fun hc14 => ?_) (fun hc14 => ?_) | (refine W.cond rfl (fun hc14 => ?_) (fun hc14 => ?_) <;> try simp only [Bool.or_eq_true, Bool.and_eq_true, Bool.not_eq_true', Bool.not_eq_false', decide_eq_true_eq, Bool.or_eq_false_iff, Bool.and_eq_false_iff, decide_eq_false_iff_not, beq_iff_eq, beq_eq_false_iff_ne, ne_eq, Decidable.not_not] at hc14)
  ·
   obtain ⟨c, hc⟩ : ∃ c, t.cs[j]? = some c := ⟨_, List.getElem?_eq_getElem (show j < t.cs.length by first | omega | (simp only [List.length_map] at *; omega))⟩
   have hlc : (t.cs.map Cl.c)[j]? = some c.c := by simp [hc]
   have hol := opens_le (t.cs.take j) it
   rw [List.length_take] at hol
   refine W.skip ?_
   refine N.next ?_
   refine W.seq ?_
   refine W.block ?_
   refine W.seq (W.region ?_)
   refine RL.q (Yld.ixr Tryz.underlying57 sz38 rfl rfl) rfl ?_
   refine RL.q (by first | exact Yld.lrA 1 Tryz.underlying38 sz38 rfl rfl rfl | exact Yld.lrA 2 Tryz.underlying38 sz38 rfl rfl rfl) rfl ?_
   refine RL.e (Eff.alloc 107 zc38) rfl ?_
   rintro _ _ ⟨b7, rfl, rfl⟩
   refine RL.e0 (Eff.storeS (c := 107) _ sz38 rfl rfl rfl rfl rfl rfl rfl (by (try simp only [putAt, List.take, List.drop, List.nil_append, List.cons_append, List.append_nil, List.length_cons, List.length_nil, Nat.add_zero, Nat.zero_add, Nat.reduceAdd]); rfl)) ?_
   rintro _ _ rfl
   refine RL.nil (N.next ?_)
   refine W.seq (W.region ?_)
   refine RL.q (Yld.fieldAddr fo38_0 rfl) rfl ?_
   refine RL.q (Yld.ld 107 Tryz.underlying3 rfl rfl rfl rfl) rfl ?_
   refine RL.q (Yld.move rfl) rfl ?_
   refine RL.q (Yld.bin rfl rfl BinV.eql) rfl ?_
   refine RL.nil (N.next ?_)
   refine W.keep (.of [1, 5, 11, 12, 13, 20] rfl) (.of [0, 1, 2, 107] rfl) ?_
   first | refine W.condD rfl (fun hc20 => ?_) (fun hc20 => ?_) | (refine W.cond rfl (fun hc20 => ?_) (fun hc20 => ?_) <;> try simp only [Bool.or_eq_true, Bool.and_eq_true, Bool.not_eq_true', Bool.not_eq_false', decide_eq_true_eq, Bool.or_eq_false_iff, Bool.and_eq_false_iff, decide_eq_false_iff_not, beq_iff_eq, beq_eq_false_iff_ne, ne_eq, Decidable.not_not] at hc20)
   ·
    refine W.region ?_
    refine RL.q (Yld.move rfl) rfl ?_
    refine RL.q (Yld.bin rfl rfl (by first | exact BinV.add (by omega) (by omega) | exact BinV.addW)) rfl ?_
    refine RL.q (Yld.assign rfl) rfl (RL.nil ?_)
    refine N.block_normal ?_
    refine N.next ?_
    refine W.region ?_
    refine RL.q (Yld.bin rfl rfl (by first | exact BinV.add (by omega) (by omega) | exact BinV.addW)) rfl ?_
    refine RL.q (Yld.move rfl) rfl (RL.nil ?_)
    exact N.famK (j + 1) ⟨by omega, by omega⟩ (.as rfl (by rw [opens_take it hc, if_pos hc20]; simp) (.as rfl (by first | rfl | (simp; done) | (congr 1; simp; done) | (congr 1; omega)) .nil)) (.to rfl) .nil (.to rfl)
   ·
    refine W.skip ?_
    refine N.block_normal ?_
    refine N.next ?_
    refine W.region ?_
    refine RL.q (Yld.bin rfl rfl (by first | exact BinV.add (by omega) (by omega) | exact BinV.addW)) rfl ?_
    refine RL.q (Yld.move rfl) rfl (RL.nil ?_)
    exact N.famK (j + 1) ⟨by omega, by omega⟩ (.as rfl (by rw [opens_take it hc, if_neg hc20]; simp) (.as rfl (by first | rfl | (simp; done) | (congr 1; simp; done) | (congr 1; omega)) .nil)) (.to rfl) .nil (.to rfl)
  ·
   have hend : j = t.cs.length := by omega
   rw [hend, List.take_length]
   refine W.exit ?_
   refine N.then_exit ?_
   refine N.then_exit ?_
   refine N.block_eq ?_
   refine N.next ?_
   refine W.keep (.of [5] rfl) (.of [0, 1, 2] rfl) ?_
   refine W.seq (W.region ?_)
   refine RL.q (Yld.move rfl) rfl (RL.q (Yld.assign rfl) rfl (RL.nil (N.next ?_)))
   refine W.ret ?_
   exact N.retBy [1, 2] (.cons (.tmp rfl) .nil) rfl rfl rfl rfl ⟨rfl, rfl⟩
set_option maxRecDepth 100000 in
set_option maxHeartbeats 400000 in
theorem gen_ct (m : Md) (mach : Int) (b : Nat) (x : Tb) : Ct Tryz.prog 16 [.pointer (some ⟨b, 0, none⟩)] [single b (.cells [.slice m.psi m.si.length m.csi, .slice m.pfe m.fe.length m.cfe, .slice m.prk m.rk.length m.crk, .slice m.pmc m.mc.length m.cmc, .slice m.pln m.ln.length m.cln, .slice m.pis m.is.length m.cis, .int .i64 m.da, .int .i64 m.sl, .int .i64 m.re, .int .i64 m.fa, .slice m.prl m.rl.length m.crl, .int .i64 mach, .slice x.pu x.nu x.cu, .slice x.pc x.nc x.cc, .int .i64 x.gen, .map (some x.d)].toArray 82 (0, 0))] (fun v Hs => v = .int .i64 x.gen ∧ Hs = [single b (.cells [.slice m.psi m.si.length m.csi, .slice m.pfe m.fe.length m.cfe, .slice m.prk m.rk.length m.crk, .slice m.pmc m.mc.length m.cmc, .slice m.pln m.ln.length m.cln, .slice m.pis m.is.length m.cis, .int .i64 m.da, .int .i64 m.sl, .int .i64 m.re, .int .i64 m.fa, .slice m.prl m.rl.length m.crl, .int .i64 mach, .slice x.pu x.nu x.cu, .slice x.pc x.nc x.cc, .int .i64 x.gen, .map (some x.d)].toArray 82 (0, 0))]) := by
  refine Ct.body Tryz.func16 rfl Tryz.ntmps16 rfl ?_
  intro E F
  refine W.seq (W.region ?_)
  refine RL.q (Yld.assign rfl) rfl (RL.nil (N.next ?_))
  refine W.seq (W.region ?_)
  refine RL.q (Yld.move rfl) rfl ?_
  refine RL.q (Yld.nilP rfl) rfl ?_
  refine RL.q (Yld.fieldAddr fo82_4 rfl) rfl ?_
  refine RL.q (Yld.ld 1 Tryz.underlying3 rfl rfl rfl rfl) rfl ?_
  refine RL.q (Yld.assign rfl) rfl (RL.nil (N.next ?_))
  refine W.keep (.of [2] rfl) (.of [0, 1] rfl) ?_
  refine W.ret ?_
  exact N.retBy [1] (.cons (.tmp rfl) .nil) rfl rfl rfl rfl ⟨rfl, rfl⟩
end Go.Proofs.YtboapdcmaeojgaaGreatDoor
namespace Go.Proofs.YtboapdcmaeojgaaGreatDoor
open Go.Shelf
def Tryz.laysH_ren : Go.Shelf.Ren := ⟨fun | 6 => 182 | 15 => 95 | 14 => 193 | 28 => 145 | 29 => 93 | 20 => 196 | 21 => 197 | 22 => 198 | 23 => 199 | 24 => 200 | 25 => 201 | 26 => 202 | 27 => 203 | 46 => 206 | 47 => 184 | 48 => 185 | 49 => 207 | 50 => 208 | 57 => 209 | n => n, fun | 22 => 41 | 24 => 48 | 25 => 151 | 3 => 3 | 39 => 140 | 0 => 0 | 53 => 193 | 55 => 111 | 4 => 4 | 46 => 186 | 45 => 185 | 50 => 190 | 5 => 5 | 9 => 9 | 66 => 211 | 70 => 214 | 76 => 221 | 77 => 222 | n => n, fun | n => n⟩
theorem Tryz.laysH : Go.Proofs.SlLaysF0.n6 Tryz.prog Tryz.laysH_ren := {
  mixed := by kernel_rfl
  f6 := ⟨Tryz.f182.name, by decide, Tryz.func182.trans (congrArg some (by kernel_rfl))⟩
  f14 := ⟨Tryz.f193.name, by decide, Tryz.func193.trans (congrArg some (by kernel_rfl))⟩
  f15 := Tryz.func95.trans (congrArg some (by kernel_rfl))
  f20 := ⟨Tryz.f196.name, by decide, Tryz.func196.trans (congrArg some (by kernel_rfl))⟩
  f21 := ⟨Tryz.f197.name, by decide, Tryz.func197.trans (congrArg some (by kernel_rfl))⟩
  f22 := ⟨Tryz.f198.name, by decide, Tryz.func198.trans (congrArg some (by kernel_rfl))⟩
  f23 := ⟨Tryz.f199.name, by decide, Tryz.func199.trans (congrArg some (by kernel_rfl))⟩
  f24 := ⟨Tryz.f200.name, by decide, Tryz.func200.trans (congrArg some (by kernel_rfl))⟩
  f25 := ⟨Tryz.f201.name, by decide, Tryz.func201.trans (congrArg some (by kernel_rfl))⟩
  f26 := ⟨Tryz.f202.name, by decide, Tryz.func202.trans (congrArg some (by kernel_rfl))⟩
  f27 := ⟨Tryz.f203.name, by decide, Tryz.func203.trans (congrArg some (by kernel_rfl))⟩
  f28 := Tryz.func145.trans (congrArg some (by kernel_rfl))
  f29 := Tryz.func93.trans (congrArg some (by kernel_rfl))
  f46 := ⟨Tryz.f206.name, by decide, Tryz.func206.trans (congrArg some (by kernel_rfl))⟩
  f47 := Tryz.func184.trans (congrArg some (by kernel_rfl))
  f48 := Tryz.func185.trans (congrArg some (by kernel_rfl))
  f49 := ⟨Tryz.f207.name, by decide, Tryz.func207.trans (congrArg some (by kernel_rfl))⟩
  f50 := ⟨Tryz.f208.name, by decide, Tryz.func208.trans (congrArg some (by kernel_rfl))⟩
  f57 := ⟨Tryz.f209.name, by decide, Tryz.func209.trans (congrArg some (by kernel_rfl))⟩
  t0 := Tryz.underlying0
  a0 := Tryz.isAgg0
  z0 := Tryz.sizeOf0
  v0 := Tryz.zeroValue0
  t3 := Tryz.underlying3
  a3 := Tryz.isAgg3
  z3 := Tryz.sizeOf3
  v3 := Tryz.zeroValue3
  t4 := Tryz.underlying4
  a4 := Tryz.isAgg4
  z4 := Tryz.sizeOf4
  v4 := Tryz.zeroValue4
  t5 := Tryz.underlying5
  a5 := Tryz.isAgg5
  z5 := Tryz.sizeOf5
  v5 := Tryz.zeroValue5
  t9 := Tryz.underlying9
  a9 := Tryz.isAgg9
  z9 := Tryz.sizeOf9
  v9 := Tryz.zeroValue9
  t22 := Tryz.underlying41
  a22 := Tryz.isAgg41
  z22 := Tryz.sizeOf41
  v22 := Tryz.zeroValue41
  t25 := Tryz.underlying151
  a25 := Tryz.isAgg151
  z25 := Tryz.sizeOf151
  v25 := Tryz.zeroValue151
  t39 := Tryz.underlying140
  a39 := Tryz.isAgg140
  z39 := Tryz.sizeOf140
  v39 := Tryz.zeroValue140
  t45 := Tryz.underlying185
  a45 := Tryz.isAgg185
  z45 := Tryz.sizeOf185
  v45 := Tryz.zeroValue185
  t46 := Tryz.underlying186
  a46 := Tryz.isAgg186
  z46 := Tryz.sizeOf186
  v46 := Tryz.zeroValue186
  t50 := Tryz.underlying190
  a50 := Tryz.isAgg190
  z50 := Tryz.sizeOf190
  v50 := Tryz.zeroValue190
  t53 := Tryz.underlying193
  a53 := Tryz.isAgg193
  z53 := Tryz.sizeOf193
  v53 := Tryz.zeroValue193
  t55 := Tryz.underlying111
  a55 := Tryz.isAgg111
  z55 := Tryz.sizeOf111
  v55 := Tryz.zeroValue111
  t66 := Tryz.underlying211
  a66 := Tryz.isAgg211
  z66 := Tryz.sizeOf211
  v66 := Tryz.zeroValue211
  t70 := Tryz.underlying214
  a70 := Tryz.isAgg214
  z70 := Tryz.sizeOf214
  v70 := Tryz.zeroValue214
  t76 := Tryz.underlying221
  a76 := Tryz.isAgg221
  z76 := Tryz.sizeOf221
  v76 := Tryz.zeroValue221
  t77 := Tryz.underlying222
  a77 := Tryz.isAgg222
  z77 := Tryz.sizeOf222
  v77 := Tryz.zeroValue222 }
end Go.Proofs.YtboapdcmaeojgaaGreatDoor
namespace Go.Proofs.YtboapdcmaeojgaaGreatDoor
open SL Cat Fen
set_option linter.unusedVariables false
def Fen.UR := { a : U // URng a }
instance : Inhabited UR := ⟨⟨⟨0, 0, 0, 0, 0⟩, by unfold URng; simp⟩⟩
section
open Go.RowKit Go.Sort Go.Shelf
theorem Fen.alloc2 (W : World) (a b : Obj) : (W.alloc a).alloc b = grow W #[a, b] := by
  unfold World.alloc grow
  simp only [World.mk.injEq, true_and, and_true]
  apply Array.ext'
  simp
set_option maxRecDepth 100000 in
theorem Fen.cmpU (a b : UR) (W : World) : Calls Tryz.prog 102 #[.agg a.1.c.toArray, .agg b.1.c.toArray] W fun e w' => e = .returned (.int .i64 (cfU a.1 b.1)) ∧ ∃ os, w' = grow W os := by
  obtain ⟨⟨a1, a2, a3, a4, a5⟩, ha⟩ := a
  obtain ⟨⟨b1, b2, b3, b4, b5⟩, hb⟩ := b
  unfold URng at ha hb
  simp only at ha hb
  show Calls Tryz.prog 102 #[.agg #[.int .i64 a1, .int .i64 a2, .int .i64 a3, .int .i64 a4, .int .i64 a5], .agg #[.int .i64 b1, .int .i64 b2, .int .i64 b3, .int .i64 b4, .int .i64 b5]] W _
  go_enter Tryz.func102, Tryz.ntmps102
  go_wp2
  all_goals (try go_ret)
  · rename_i h
    have hne : a1 ≠ b1 := by simpa using h
    refine ⟨?_, #[_, _], alloc2 _ _ _⟩
    show Ending.returned (.int .i64 (a1 - b1)) = _
    unfold cfU
    rw [if_pos hne]
  · rename_i h
    have hne : ¬ a1 ≠ b1 := by simpa using h
    refine ⟨?_, #[_, _], alloc2 _ _ _⟩
    show Ending.returned (.int .i64 (a2 - b2)) = _
    unfold cfU
    rw [if_neg hne]
theorem Fen.swoU : SWO (ltOf fun a b : UR => cfU a.1 b.1) where
  irrefl x := by unfold ltOf cfU; simp
  trans x y z h1 h2 := by
    unfold ltOf at *
    simp only [decide_eq_true_eq, cfU_lt, Fen.lt, Bool.or_eq_true, Bool.and_eq_true] at *
    omega
  ntrans x y z h1 h2 := by
    unfold ltOf at *
    simp only [decide_eq_false_iff_not, cfU_lt, Fen.lt, Bool.or_eq_true, Bool.and_eq_true, decide_eq_true_eq] at *
    omega
theorem Fen.sortH (blk cap : Nat) (l : List UR) (w : World) (hH : HoldsK (fun a : UR => a.1.c) 5 w blk 0 l.toArray) (hblk : blk < w.heap.size) (hsz : l.length < 4611686018427387904) : Calls Tryz.prog 182 #[.slice (some ⟨blk, 0, none⟩) l.length cap, .func (.func 102) #[] #[]] w fun e w' =>
    e = .returned (.tuple #[]) ∧ ∃ (l' : List UR) (n : Nat) (os : Array Obj), (l'.Perm l ∧ l'.Pairwise fun a b : UR => lt a.1 b.1 = false) ∧ w' = sortWorldK (fun a : UR => a.1.c) 5 w blk 0 n l'.toArray os := by
  have eg : ∀ args w, (callFunc 102 args).run Tryz.prog w = .ok (.enter 102 args) w := enters_of Tryz.func102 (by kernel_rfl) rfl
  have hcmp : CmpLays Tryz.prog 102 #[] (fun a : UR => a.1.c) 5 (fun a b : UR => cfU a.1 b.1) blk 0 l.toArray.size w := fun m os dk hs x y =>
    (cmpU x y _).mono fun _ _ ⟨he, os', hw⟩ => ⟨he, 0, os', by rw [hw]; rfl⟩
  refine (AnyQ.slices_SortFunc Tryz.laysH 5 Tryz.isAgg48 Tryz.sizeOf48 (fun a : UR => a.1.c) (fun _ => rfl) (fun a => U.one a.1) (fun a b : UR => cfU a.1 b.1) swoU 102 #[] blk 0 cap l.toArray w eg hcmp hH hblk (by simpa using hsz)).mono ?_
  rintro e w' ⟨he, d', n, os, hp, hs, hw⟩
  obtain ⟨p1, _, p2⟩ := hp
  refine ⟨he, d'.toList, n, os, ⟨?_, ?_⟩, by simpa using hw⟩
  · have e1 : d'.extract 0 l.toArray.size = d' := by rw [← p1]; simp
    have e2 : l.toArray.extract 0 l.toArray.size = l.toArray := by simp
    rw [e1, e2] at p2
    simpa using p2
  · rw [List.pairwise_iff_getElem]
    intro i j hi hj hij
    have hj' : j < d'.size := by simpa using hj
    have h := hs i j (Nat.zero_le _) hij (by rw [← p1]; exact hj')
    unfold ltOf at h
    rw [decide_eq_false_iff_not, cfU_lt, getElem!_pos d' i (Nat.lt_trans hij hj'), getElem!_pos d' j hj'] at h
    simpa using h
end
theorem sortH_ct (us : List U) (u : U) (hp : us.Pairwise R) (hu : ∀ a ∈ us, ¬ (a.it = u.it ∧ a.rp = u.rp)) (hr : ∀ a ∈ us ++ [u], URng a) {H : PH} {p : Option Addr} {c : Nat} (hO : Own H p c 48 5 ((us ++ [u]).map U.c)) (hb : us.length ≤ 1000000) :
    Ct Tryz.prog 182 [.slice p (us ++ [u]).length c, .func (.func 102) [].toArray [].toArray] [H] (fun v Hs => v = .tuple #[] ∧ ∃ H', Own H' p c 48 5 ((ins us u).map U.c) ∧ Hs = [H']) := by
  obtain ⟨l, hl⟩ : ∃ l : List UR, l.map (·.1) = us ++ [u] := ⟨(us ++ [u]).attach.map fun a => ⟨a.1, hr a.1 a.2⟩, by simp [UR]⟩
  have hlm : (us ++ [u]).map U.c = l.map fun a : UR => a.1.c := by rw [← hl, List.map_map]; rfl
  have hll : (us ++ [u]).length = l.length := by rw [← hl, List.length_map]
  have hbl : l.length < 4611686018427387904 := by rw [← hll, List.length_append]; simp; omega
  rw [hlm] at hO
  rw [hll]
  have hO2 := hO
  obtain ⟨g1, g2, g3, g4⟩ := hO2
  cases p with
  | none =>
    have h0 : l = [] := List.map_eq_nil_iff.1 g4.1
    rw [h0] at hll; simp at hll
  | some a =>
    obtain ⟨b, o, s⟩ := a
    obtain ⟨g5, g6, _⟩ := g4
    simp only at g5 g6
    subst g5; subst g6
    refine (sortK_ct_of (.func (.func 102) #[] #[]) (fun a : UR => a.1.c) 5 (by decide) (fun _ => rfl) (fun a => U.one a.1) (fun l l' => l'.Perm l ∧ l'.Pairwise fun a b : UR => lt a.1 b.1 = false) (fun l l' h => h.1.length_eq) sortH hO hbl).mono ?_
    rintro v Hs ⟨hv, l', H', ⟨h1, h2⟩, hO', hHs⟩
    refine ⟨hv, H', ?_, hHs⟩
    have h3 : l'.map (·.1) = ins us u := sorted_ins hp hu (by rw [← hl]; exact h1.map _) (List.pairwise_map.2 h2)
    rw [← h3, List.map_map]
    exact hO'
end Go.Proofs.YtboapdcmaeojgaaGreatDoor
namespace Go.Proofs.YtboapdcmaeojgaaGreatDoor
open SL Cat Fen
set_option linter.unusedVariables false
set_option linter.unusedSimpArgs false
theorem zc48 : zc Tryz.prog 48 [.int .i64 0, .int .i64 0, .int .i64 0, .int .i64 0, .int .i64 0] := (by kernel_rfl : ((Tryz.prog.info? 48).bind (·.zero)).map (fun v => v.cells.toList) = some [.int .i64 0, .int .i64 0, .int .i64 0, .int .i64 0, .int .i64 0])
theorem el48 : el Tryz.prog 48 5 40 := .mk (by kernel_rfl)
theorem sz41 : sz Tryz.prog 41 1 := (by kernel_rfl : (Tryz.prog.info? 41).map (·.size) = some 1)
theorem ent182 : Ent Tryz.prog 182 := ⟨_, _, Tryz.func182, by kernel_rfl, rfl⟩
set_option maxRecDepth 100000 in
set_option maxHeartbeats 1600000 in
theorem add_ct (m : Md) (mach : Int) (b : Nat) (x : Tb) (HU : PH) (us : List U) (hnu : x.nu = us.length) (hO : Own HU x.pu x.cu 48 5 (us.map U.c)) (u : U) (hp : us.Pairwise R) (hu : ∀ a ∈ us, ¬ (a.it = u.it ∧ a.rp = u.rp)) (hr : ∀ a ∈ us ++ [u], URng a) (hb : us.length ≤ 1000000) : Ct Tryz.prog 131 [.pointer (some ⟨b, 0, none⟩), .agg [.int .i64 u.it, .int .i64 u.rp, .int .i64 u.st, .int .i64 u.va, .int .i64 u.ca].toArray] [single b (.cells [.slice m.psi m.si.length m.csi, .slice m.pfe m.fe.length m.cfe, .slice m.prk m.rk.length m.crk, .slice m.pmc m.mc.length m.cmc, .slice m.pln m.ln.length m.cln, .slice m.pis m.is.length m.cis, .int .i64 m.da, .int .i64 m.sl, .int .i64 m.re, .int .i64 m.fa, .slice m.prl m.rl.length m.crl, .int .i64 mach, .slice x.pu x.nu x.cu, .slice x.pc x.nc x.cc, .int .i64 x.gen, .map (some x.d)].toArray 82 (0, 0)), HU] (fun v Hs => ∃ p' c' H', v = .tuple #[] ∧ Own H' p' c' 48 5 ((ins us u).map U.c) ∧ Hs = [single b (.cells [.slice m.psi m.si.length m.csi, .slice m.pfe m.fe.length m.cfe, .slice m.prk m.rk.length m.crk, .slice m.pmc m.mc.length m.cmc, .slice m.pln m.ln.length m.cln, .slice m.pis m.is.length m.cis, .int .i64 m.da, .int .i64 m.sl, .int .i64 m.re, .int .i64 m.fa, .slice m.prl m.rl.length m.crl, .int .i64 mach, .slice p' (us ++ [u]).length c', .slice x.pc x.nc x.cc, .int .i64 x.gen, .map (some x.d)].toArray 82 (0, 0)), H']) := by
  refine Ct.body Tryz.func131 rfl Tryz.ntmps131 rfl ?_
  intro E F
  refine W.seq (W.region ?_)
  refine RL.e (Eff.box 103 _ rfl rfl) rfl ?_
  rintro _ _ ⟨b3, rfl, rfl⟩
  refine RL.nil (N.next ?_)
  refine W.seq ?_
  refine W.draw (.q 0 (.q 1 (.q 2 (.q 3 (.q 5 (.two 4 (.one 6 (.one 7 (.q 8 (.q 9 (.one 10 .done))))) 6 (.one 4 (.one 7 (.q 8 (.q 9 (.one 10 .done))))))))))) (.of [0, 103] rfl) mix (by kernel_rfl) (by kernel_rfl) ?_
  refine DL.q rfl (Yld.move rfl) rfl ?_
  refine DL.q rfl (Yld.move rfl) rfl ?_
  refine DL.q rfl (Yld.nilP rfl) rfl ?_
  refine DL.q rfl (Yld.fieldAddr fo82_2 rfl) rfl ?_
  refine DL.q rfl (Yld.ldW 103 Tryz.underlying48 sz48 rfl rfl rfl rfl) rfl ?_
  refine DL.two ?_ ?_
  ·
   refine DL.one rfl (Yld.eff (Yld.ld 1 Tryz.underlying41 rfl rfl rfl rfl)) rfl (by rintro _ _ ⟨rfl, rfl⟩; repeat (first | exact .nil | refine .cons rfl ?_)) ?_
   rintro _ _ ⟨rfl, rfl⟩
   refine DL.one rfl (Eff.buildSlice 110 Tryz.underlying41 sz48 zc48 rfl rfl (.cons rfl rfl .nil) rfl) rfl (by rintro _ _ ⟨b10, rfl, rfl⟩; repeat (first | exact .nil | refine .cons rfl ?_)) ?_
   rintro _ _ ⟨b10, rfl, rfl⟩
   refine DL.one rfl (Eff.appendE (tc := 2) (sc := 110) (ms := [u]) U.c Tryz.underlying41 el48 rfl rfl rfl rfl hO hnu (Own.one (l := u.c) rfl (U.one u) rfl).sl rfl (fun a _ => U.one a) (by decide) (by simp; omega) (by simp [maxLen]; omega)) rfl (by rintro _ _ ⟨Ha, pa, ca, rfl, hOa, rfl⟩; repeat (first | exact .nil | refine .cons rfl ?_)) ?_
   rintro _ _ ⟨Ha, pa, ca, rfl, hOa, rfl⟩
   refine DL.q rfl (Yld.nilP rfl) rfl ?_
   refine DL.q rfl (Yld.fieldAddr fo82_2 rfl) rfl ?_
   refine DL.one0 rfl (Eff.storeS (c := 1) _ sz41 rfl rfl rfl rfl rfl rfl rfl (by (try simp only [putAt, List.take, List.drop, List.nil_append, List.cons_append, List.append_nil, List.length_cons, List.length_nil, Nat.add_zero, Nat.zero_add, Nat.reduceAdd]); rfl)) (by rintro _ _ rfl; repeat (first | exact .nil | refine .cons rfl ?_)) ?_
   rintro _ _ rfl
   refine DL.done ?_
   refine N.next ?_
   refine W.keep (.of [0] rfl) (.of [0, 1, 2, 103, 110] rfl) ?_
   refine W.region ?_
   refine RL.q (Yld.move rfl) rfl ?_
   refine RL.q (Yld.nilP rfl) rfl ?_
   refine RL.q (Yld.fieldAddr fo82_2 rfl) rfl ?_
   refine RL.q (Yld.ld 1 Tryz.underlying41 rfl rfl rfl rfl) rfl ?_
   refine RL.e (Eff.call ent182 [2] [2] (.cons rfl (.cons rfl .nil)) (sortH_ct us u hp hu hr hOa hb) rfl rfl rfl rfl (by rintro _ _ ⟨_, _, _, rfl⟩; rfl)) rfl ?_
   rintro _ _ ⟨_, ⟨rfl, Hs1, hOs, rfl⟩, rfl⟩
   refine RL.nil ?_
   exact N.endBy [1, 2] .nil rfl rfl rfl rfl ⟨pa, ca, Hs1, rfl, hOs, rfl⟩
  ·
   refine DL.one rfl (Eff.buildSlice 110 Tryz.underlying41 sz48 zc48 rfl rfl (.cons rfl rfl .nil) rfl) rfl (by rintro _ _ ⟨b10, rfl, rfl⟩; repeat (first | exact .nil | refine .cons rfl ?_)) ?_
   rintro _ _ ⟨b10, rfl, rfl⟩
   refine DL.one rfl (Yld.eff (Yld.ld 1 Tryz.underlying41 rfl rfl rfl rfl)) rfl (by rintro _ _ ⟨rfl, rfl⟩; repeat (first | exact .nil | refine .cons rfl ?_)) ?_
   rintro _ _ ⟨rfl, rfl⟩
   refine DL.one rfl (Eff.appendE (tc := 2) (sc := 110) (ms := [u]) U.c Tryz.underlying41 el48 rfl rfl rfl rfl hO hnu (Own.one (l := u.c) rfl (U.one u) rfl).sl rfl (fun a _ => U.one a) (by decide) (by simp; omega) (by simp [maxLen]; omega)) rfl (by rintro _ _ ⟨Ha, pa, ca, rfl, hOa, rfl⟩; repeat (first | exact .nil | refine .cons rfl ?_)) ?_
   rintro _ _ ⟨Ha, pa, ca, rfl, hOa, rfl⟩
   refine DL.q rfl (Yld.nilP rfl) rfl ?_
   refine DL.q rfl (Yld.fieldAddr fo82_2 rfl) rfl ?_
   refine DL.one0 rfl (Eff.storeS (c := 1) _ sz41 rfl rfl rfl rfl rfl rfl rfl (by (try simp only [putAt, List.take, List.drop, List.nil_append, List.cons_append, List.append_nil, List.length_cons, List.length_nil, Nat.add_zero, Nat.zero_add, Nat.reduceAdd]); rfl)) (by rintro _ _ rfl; repeat (first | exact .nil | refine .cons rfl ?_)) ?_
   rintro _ _ rfl
   refine DL.done ?_
   refine N.next ?_
   refine W.keep (.of [0] rfl) (.of [0, 1, 2, 103, 110] rfl) ?_
   refine W.region ?_
   refine RL.q (Yld.move rfl) rfl ?_
   refine RL.q (Yld.nilP rfl) rfl ?_
   refine RL.q (Yld.fieldAddr fo82_2 rfl) rfl ?_
   refine RL.q (Yld.ld 1 Tryz.underlying41 rfl rfl rfl rfl) rfl ?_
   refine RL.e (Eff.call ent182 [2] [2] (.cons rfl (.cons rfl .nil)) (sortH_ct us u hp hu hr hOa hb) rfl rfl rfl rfl (by rintro _ _ ⟨_, _, _, rfl⟩; rfl)) rfl ?_
   rintro _ _ ⟨_, ⟨rfl, Hs1, hOs, rfl⟩, rfl⟩
   refine RL.nil ?_
   exact N.endBy [1, 2] .nil rfl rfl rfl rfl ⟨pa, ca, Hs1, rfl, hOs, rfl⟩
end Go.Proofs.YtboapdcmaeojgaaGreatDoor
namespace Go.Proofs.YtboapdcmaeojgaaGreatDoor.SL
set_option linter.unusedVariables false
section
variable {X : Cx} {σ : Loc} {L : Sh} {ty T : TypeId} {x y z : Operand}
theorem Yld.slice3 {e m n c : Nat} {p : Option Addr} {k k' k'' : IntKind} {l h g : Int} {v : Operand} (ht : X.P.underlying T = some (.slice e)) (hm : sz X.P e m) (hx : ev σ x = some (.slice p n c)) (hy : ev σ y = some (.int k l)) (hz : ev σ z = some (.int k' h)) (hv : ev σ v = some (.int k'' g)) (h0 : 0 ≤ l) (h1 : l ≤ h) (h2 : h ≤ g) (h3 : g ≤ c) :
    Yld X (.slice T x (some y) (some z) (some v)) ty σ L (.slice (subP p g.toNat l.toNat m) (h.toNat - l.toNat) (g.toNat - l.toNat)) :=
  Yld.of (fun ρ => Instr.sliceAt T (ρ x) (some (ρ y)) (some (ρ z)) (some (ρ v))) (fun ρ o ho => by simp [execOp, ho]) fun a w ha hmem => by
    rw [ha.ev hx, ha.ev hy, ha.ev hz, ha.ev hv]
    simp only [Instr.sliceAt, Sem.run_bind, run_underlying ht, Result.andThen_ok, Instr.slice, Instr.sliceBounds, Sem.run_pure, run_sliceB _ (show 0 ≤ g by omega) h3, run_sizeOf hm, subP, Option.isSome_some, if_true]
    simp [run_sliceB (y := g.toNat) _ (show 0 ≤ h by omega) (show h ≤ (g.toNat : Int) by omega), run_sliceB (y := h.toNat) _ h0 (show l ≤ (h.toNat : Int) by omega)]
theorem Eff.appendF {e n by_ tc sc : Nat} {pa : Addr} {q : Option Addr} {c d len1 len2 : Nat} {H G : PH} {ls ms : List (List Value)} (ht : X.P.underlying T = some (.slice e)) (he : el X.P e n by_) (hx : ev σ x = some (.slice (some pa) len1 c)) (hy : ev σ y = some (.slice q len2 d))
    (hL : lk L tc = some H) (hG : lk L sc = some G) (hO : Own H (some pa) c e n ls) (hl1 : len1 = ls.length) (hS : Sl G q d n ms) (hl2 : len2 = ms.length) (h1 : ∀ l ∈ ms, ∀ v ∈ l, v.oneCell' = true) (hn : 0 < n) (hb : (ls.length + ms.length) * by_ ≤ 140737488355328) (hmax : ls.length + ms.length ≤ maxLen) (hroom : ls.length + ms.length ≤ c) :
    Eff X (.call { callee := .builtin .append, args := #[x, y], argTypes := #[T, T] }) ty σ L (fun v L' => ∃ H', v = .slice (some pa) (ls ++ ms).length c ∧ Own H' (some pa) c e n (ls ++ ms) ∧ L' = (tc, H') :: L) := fun a w ha hm o ho hty K Q hK => by
  subst hl1; subst hl2
  obtain ⟨i, z, hi, hz0, hz1, hz2, hz3⟩ := he
  have hms : ∀ l ∈ ms, l.length = n ∧ ∀ v ∈ l, v.oneCell' = true := fun l hl => by
    obtain ⟨j, hj, rfl⟩ := List.getElem_of_mem hl
    obtain ⟨a', _, hr⟩ := hS.row hj
    exact ⟨hr.len (List.getElem?_eq_getElem hj), h1 _ (List.getElem_mem hj)⟩
  have hls := hO.1
  have hall : ∀ l ∈ ls ++ ms, l.length = n ∧ ∀ v ∈ l, v.oneCell' = true := fun l hl => by
    rcases List.mem_append.1 hl with h | h
    · exact hls l h
    · exact hms l h
  have key : ∀ w', w.grownBy w' (Value.ownBlock (.slice (some pa) ls.length c)) → w'.ownsRow 0 e n (.slice (some pa) (ls ++ ms).length c) (ls ++ ms).length (ls ++ ms).flatten →
      ∃ H', Own H' (some pa) c e n (ls ++ ms) ∧ Mem X.E ((tc, H') :: L) w' := by
    intro w' hg hown
    obtain ⟨H', p', c', hv, hO', hs', hdom⟩ := Own.of_ownsRow hall hown rfl
    injection hv with e1 _ e2
    subst e1; subst e2
    refine ⟨H', hO', hm.set tc (.inl hL) ⟨hg.os, hg.output, hg.size, fun b hb hD => ?_⟩ hs' fun b x hb => ?_⟩
    · refine hg.block b hb fun e => hD ?_
      simp [Value.ownBlock] at e
      obtain ⟨_, _, _, _, _, sp, rfl, _⟩ := hO
      exact ⟨_, by rw [e]; exact single_self _ _⟩
    · have h := hdom b x hb
      simp [Value.ownBlock] at h
      obtain ⟨_, _, _, _, _, sp, rfl, _⟩ := hO
      exact .inl ⟨_, by rw [← h]; exact single_self _ _⟩
  have hrow := hO.ownsRow (hm.sub _ _ hL)
  have hrun : ∃ w', (Builtin.append_ #[T, T] ty #[.slice (some pa) ls.length c, .slice q ms.length d]).run X.P w = .ok (.slice (some pa) (ls ++ ms).length c) w' ∧ w.grownBy w' (Value.ownBlock (.slice (some pa) ls.length c)) ∧ w'.ownsRow 0 e n (.slice (some pa) (ls ++ ms).length c) (ls ++ ms).length (ls ++ ms).flatten := by
    cases q with
    | none =>
      obtain ⟨rfl, rfl⟩ := hS
      refine ⟨w, ?_, ⟨rfl, rfl, rfl, Nat.le_refl _, fun _ _ _ => rfl⟩, by simpa using hrow⟩
      rw [List.append_nil]
      exact run_append_owned_none (P := X.P) (w := w) 0 T ty e i n ht hi _ _ _ hrow
    | some qa =>
      have hlo : ms.flatten.length = ms.length * n := flatten_length fun l hl => (hms l hl).1
      have hcells := sl_cells hS (hm.sub _ _ hG) rfl
      have hone : ∀ u ∈ ms.flatten, u.oneCell' = true := fun u hu => by
        obtain ⟨l, hl, hu'⟩ := List.mem_flatten.1 hu
        exact (hms l hl).2 u hu'
      obtain ⟨v', w', hr, hown', hg, _⟩ := run_append_own (P := X.P) w 0 T ty e i z n by_ ht hi hz0 hz1 hz3 hz2 hn _ _ _ hrow qa ms.length d ms.flatten hlo hcells hone hmax hb (Nat.zero_le _)
      obtain ⟨_, _, _, h5, h6, sp, rfl, h7⟩ := hO
      obtain ⟨b, o', s'⟩ := pa
      simp only at h5 h6
      subst h5; subst h6
      have hr2 := run_append_room (P := X.P) w T ty e i ht hi b ls.length c (ls.flatten ++ sp).toArray (hm.sub _ _ hL b _ (single_self _ _)) qa ms.length d ms.flatten (by rw [hz1]; exact hlo) hcells hone hroom (by
        rw [hz1, hlo, ← Nat.add_mul]; simp only [List.size_toArray, h7]; exact Nat.mul_le_mul_right _ hroom)
      rw [hr] at hr2
      injection hr2 with e1 e2
      subst e1
      refine ⟨w', by rw [List.length_append]; exact hr, hg, ?_⟩
      simpa using hown'
  obtain ⟨w', hr, hg, hown⟩ := hrun
  obtain ⟨H', hO', hm'⟩ := key w' hg hown
  unfold Oper.wp
  have : (execOp a.eval o).run X.P w = .ok (.value (.slice (some pa) (ls ++ ms).length c)) w' := by
    simp only [execOp, ho, resolve, Sem.run_bind, Sem.run_pure, Result.andThen_ok, invoke, builtin, eval2 hx hy a ha, hty]
    rw [hr]; rfl
  rw [this]
  exact hK _ _ w' ⟨H', rfl, hO', rfl⟩ hm'
theorem Eff.clearSp {e n tc : Nat} {H : PH} {pa : Addr} {q : Option Addr} {c c' m : Nat} {ls : List (List Value)} {zs : List Value} (ht : X.P.underlying T = some (.slice e)) (hz : zc X.P e zs) (hzl : zs.length = n) (hzo : zs.all (·.oneCell') = true)
    (hx : ev σ x = some (.slice q m c')) (hL : lk L tc = some H) (hO : Own H (some pa) c e n ls) (hm0 : 0 < m) (hmc : ls.length + m ≤ c) (hq : q = subP (some pa) c ls.length n) :
    Eff X (.call { callee := .builtin .clear, args := #[x], argTypes := #[T] }) ty σ L (fun v L' => v = .tuple #[] ∧ ∃ H', Own H' (some pa) c e n ls ∧ L' = (tc, H') :: L) := fun a w ha hmm o ho hty K Q hK => by
  subst hq
  have run : ∃ w' H', (Builtin.clear_ #[T] ty #[.slice (subP (some pa) c ls.length n) m c']).run X.P w = .ok (.tuple #[]) w' ∧ Own H' (some pa) c e n ls ∧ Mem X.E ((tc, H') :: L) w' := by
    obtain ⟨h1, h2, h3, h4⟩ := hO
    obtain ⟨h5, h6, sp, rfl, h7⟩ := h4
    obtain ⟨b, po, ps⟩ := pa
    simp only at h5 h6 h7
    subst h5; subst h6
    have hsub : subP (some ⟨b, 0, none⟩) c ls.length n = some ⟨b, ls.length * n, none⟩ := by
      unfold subP
      rw [if_neg (by omega)]
      simp [Addr.add_lit]
    obtain ⟨z, hzc, hrun⟩ := hz.run
    have hfl := flatten_length (n := n) (ls := ls) fun l hl => (h1 l hl).1
    have hrl : ((List.replicate m zs).flatten).length = m * n := by simp [hzl]
    have hmn : ls.length * n + m * n ≤ c * n := by rw [← Nat.add_mul]; exact Nat.mul_le_mul_right _ hmc
    have h7' : ls.flatten.length + sp.length = c * n := by rw [← h7, List.length_append]
    have hfit : (List.replicate m zs).flatten.length ≤ sp.length := by rw [hrl]; omega
    obtain ⟨w', hr, hm'⟩ := hmm.putCells hL (b := b) (single_self _ _) (o := ls.length * n) (vs := (List.replicate m zs).flatten) (by rw [hrl, List.length_append, hfl]; omega)
      (by intro v hv; obtain ⟨l, hl, hvl⟩ := List.mem_flatten.1 hv; rw [List.eq_of_mem_replicate hl] at hvl; exact List.all_eq_true.1 hzo v hvl) X.P
    rw [pset_single] at hm'
    have hput : putAt (ls.flatten ++ sp) (ls.length * n) (List.replicate m zs).flatten = ls.flatten ++ putAt sp 0 (List.replicate m zs).flatten := by
      have := putAt_right (a := ls.flatten) (r := sp) (o := 0) (vs := (List.replicate m zs).flatten)
      rw [Nat.add_zero, hfl] at this
      exact this
    refine ⟨w', _, ?_, ?_, hm'⟩
    · rw [hsub]
      obtain ⟨k, hk⟩ : ∃ k, m = k + 1 := ⟨m - 1, by omega⟩
      subst hk
      have hzr := zeroCells_rep hzc (k + 1)
      simp only [Builtin.clear_, Sem.run_bind, run_underlying ht, Result.andThen_ok, hrun w, Sem.run_pure, List.getElem?_toArray, List.getElem?_cons_zero]
      rw [hzr, hr]
      rfl
    · refine ⟨h1, h2, h3, rfl, rfl, putAt sp 0 (List.replicate m zs).flatten, by rw [hput], ?_⟩
      rw [List.length_append, putAt_len (by omega), ← List.length_append]
      exact h7
  obtain ⟨w', H', hr, hO', hm'⟩ := run
  unfold Oper.wp
  have : (execOp a.eval o).run X.P w = .ok (.value (.tuple #[])) w' := by
    simp only [execOp, ho, resolve, Sem.run_bind, Sem.run_pure, Result.andThen_ok, invoke, builtin, eval1 hx a ha, hty]
    rw [hr]; rfl
  rw [this]
  exact hK _ _ w' ⟨rfl, H', hO', rfl⟩ hm'
end
end Go.Proofs.YtboapdcmaeojgaaGreatDoor.SL
