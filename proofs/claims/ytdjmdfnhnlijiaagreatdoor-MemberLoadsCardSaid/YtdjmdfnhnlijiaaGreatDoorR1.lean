/- The reference of wire: numbers as bytes. Written by program (walk2.py). -/
import Derived.Test.YtdjmdfnhnlijiaaGreatDoorW4
namespace Go.Proofs.YtdjmdfnhnlijiaaGreatDoor
open SL Cfg
set_option linter.unusedVariables false
set_option linter.unusedSimpArgs false
theorem ent103 : Ent Tryz.prog 103 := ⟨_, _, Tryz.func103, by kernel_rfl, rfl⟩
set_option maxRecDepth 100000 in
set_option maxHeartbeats 1600000 in
theorem rnum_ct (l : List Int) (H1 : PH) (p : Option Addr) (c : Nat) (hl : Sl H1 p c 1 (bz l)) (n : Int) (hn : U64 n) (hb : l.length ≤ 1000000) : Ct Tryz.prog 103 [.slice p l.length c, .int .u64 n] [H1] (fun v Hs => ∃ H' p' c', v = .slice p' (l ++ encN n).length c' ∧ Own H' p' c' 5 1 (bz (l ++ encN n)) ∧ Hs = [H1, H']) := by
  refine Ct.body Tryz.func103 rfl Tryz.ntmps103 rfl ?_
  intro E F
  have hmx := hl.len_le
  simp only [bz_len, maxLen] at hmx
  obtain ⟨hn0, hn1⟩ := hn
  have hk8 := digs_len8 n.toNat (by omega)
  obtain ⟨N0, hN0⟩ : ∃ m : Nat, n = m := ⟨n.toNat, by omega⟩
  refine W.seq ?_
  refine W.region ?_
  refine RL.q (Yld.assign rfl) rfl ?_
  refine RL.nil ?_
  refine N.next ?_
  refine W.seq ?_
  refine W.region ?_
  refine RL.e (Eff.buildSlice 107 Tryz.underlying73 sz5 zc5 rfl rfl .nil rfl) rfl ?_
  rintro _ _ ⟨b7, rfl, rfl⟩
  refine RL.q (Yld.assign rfl) rfl ?_
  refine RL.nil ?_
  refine N.next ?_
  refine W.seq ?_
  refine W.seq ?_
  refine W.region ?_
  refine RL.q (Yld.move rfl) rfl ?_
  refine RL.q (Yld.assign rfl) rfl ?_
  refine RL.nil ?_
  refine N.next ?_
  refine W.keep (.cons (k := 0) rfl (.cons (k := 5) rfl (.cons (k := 6) rfl .nil))) (.cons (k := 0) rfl (.cons (k := 1) rfl (.cons (k := 107) rfl .nil))) ?_
  refine W.block ?_
  refine W.loopK (ι := SI) (fun x => (x.i ≤ N0 ∧ digs N0 = digs x.i ++ x.s ∧ Own x.H x.p x.c 5 1 (bz x.s))) (fun x => [(5, .slice x.p x.s.length x.c), (6, .int .u64 (x.i : Nat))]) (fun x => [(107, x.H)]) (fun x => x.i) (.cons (k := 0) rfl .nil) (.cons (k := 0) rfl (.cons (k := 1) rfl .nil)) ⟨N0, single b7 (.cells [].toArray 5 (0, 0)), some ⟨b7, 0, none⟩, 0, []⟩ ?_ ?_ ?_ ?_
  · exact ⟨Nat.le_refl _, (List.append_nil _).symm, bz_none rfl⟩
  · exact (.as rfl (by first | rfl | (simp; done) | (congr 1; simp; done) | (congr 1; omega)) (.as rfl (by show Value.int .u64 _ = Value.int .u64 _; rw [hN0]) .nil))
  · exact (.cons rfl .nil)
  rintro x ⟨hi, hds, hOx⟩
  refine W.keep (.cons (k := 5) rfl (.cons (k := 6) rfl (.cons (k := 0) rfl .nil))) (.cons (k := 107) rfl (.cons (k := 0) rfl (.cons (k := 1) rfl .nil))) ?_
  refine W.seq ?_
  refine W.seq ?_
  refine W.region ?_
  refine RL.q (Yld.move rfl) rfl ?_
  refine RL.q (Yld.bin rfl rfl BinV.gtr) rfl ?_
  refine RL.nil ?_
  refine N.next ?_
  first | refine W.condD rfl (fun hc10 => ?_) (fun hc10 => ?_) | (refine W.cond rfl (fun hc10 => ?_) (fun hc10 => ?_) <;> try simp only [Bool.or_eq_true, Bool.and_eq_true, Bool.not_eq_true', Bool.not_eq_false', decide_eq_true_eq, Bool.or_eq_false_iff, Bool.and_eq_false_iff, decide_eq_false_iff_not, beq_iff_eq, beq_eq_false_iff_ne, ne_eq, Decidable.not_not] at hc10)
  ·
    have hi0 : 0 < x.i := by omega
    have hsl : x.s.length ≤ 8 := by have := congrArg List.length hds; rw [List.length_append] at this; rw [show n.toNat = N0 by omega] at hk8; omega
    refine W.skip ?_
    refine N.next ?_
    refine W.seq ?_
    refine W.block ?_
    refine W.region ?_
    refine RL.q (Yld.move rfl) rfl ?_
    refine RL.q (Yld.bin rfl rfl (by first | exact BinV.rem (by omega) (by omega) | exact BinV.remW (by omega))) rfl ?_
    refine RL.q (Yld.eq (v' := .int .u8 ((x.i % 256 : Nat) : Int)) (Yld.convIs Tryz.underlying82 Tryz.underlying5 rfl (by first | exact IntWalk.u8_in _ ⟨by omega, by omega⟩ | rfl)) (by rfl)) rfl ?_
    refine RL.e (Eff.buildSlice 116 Tryz.underlying73 sz5 zc5 rfl rfl (.cons rfl rfl .nil) rfl) rfl ?_
    rintro _ _ ⟨b16, rfl, rfl⟩
    refine RL.q (Yld.move rfl) rfl ?_
    refine RL.e (Eff.appendE (tc := 116) (sc := 107) (fun z : Int => [Value.int .u8 z]) Tryz.underlying73 el5 rfl rfl rfl rfl (bz_single (l := [((x.i % 256 : Nat) : Int)]) rfl (by simp [maxLen])) rfl hOx.sl rfl (bz_one1 _) (by decide) (by first | (simp; done) | (simp; omega)) (by first | (simp [maxLen]; done) | (simp [maxLen]; omega))) rfl ?_
    rintro _ _ ⟨Hb, pb, cb, rfl, hOb, rfl⟩
    refine RL.q (Yld.assign rfl) rfl ?_
    refine RL.nil ?_
    refine N.block_normal ?_
    refine N.next ?_
    refine W.keep (.cons (k := 0) rfl (.cons (k := 5) rfl (.cons (k := 6) rfl .nil))) (.cons (k := 0) rfl (.cons (k := 1) rfl (.cons (k := 107) rfl (.cons (k := 116) rfl .nil)))) ?_
    refine W.region ?_
    refine RL.q (Yld.move rfl) rfl ?_
    refine RL.q (Yld.eq (v' := .int .u64 ((x.i / 256 : Nat) : Int)) (Yld.bin rfl rfl (by first | exact BinV.quo (by omega) (by omega) (by omega) | exact BinV.quoW (by omega))) (by rw [show ((x.i : Nat) : Int).tdiv 256 = ((x.i / 256 : Nat) : Int) from rfl, IntWalk.u64_in _ ⟨by omega, by omega⟩])) rfl ?_
    refine RL.q (Yld.assign rfl) rfl ?_
    refine RL.nil ?_
    refine N.imp (Imp.move (c := 116) (c' := 107) rfl rfl) ?_
    exact N.famK ⟨x.i / 256, Hb, pb, cb, [((x.i % 256 : Nat) : Int)] ++ x.s⟩ ⟨⟨by dsimp only; omega, by dsimp only; rw [hds, digs_pos (show x.i ≠ 0 by omega), List.append_assoc], hOb⟩, by dsimp only; omega⟩ (.as rfl (by first | rfl | (simp; done) | (congr 1; simp; done) | (congr 1; omega)) (.as rfl (by first | rfl | (simp; done) | (congr 1; simp; done) | (congr 1; omega)) .nil)) (.cons rfl .nil) (.cons rfl .nil) (.cons rfl (.cons rfl .nil))
  ·
    have hi0 : x.i = 0 := by omega
    rw [hi0, digs_zero, List.nil_append] at hds
    have hsd : x.s = digs n.toNat := by rw [← hds, hN0]; rfl
    have hsl : x.s.length ≤ 8 := by rw [hsd]; exact hk8
    have hfin : [] ++ l ++ [(((digs n.toNat).length : Nat) : Int)] ++ x.s = l ++ encN n := by rw [hsd, List.nil_append, List.append_assoc]; rfl
    refine W.exit ?_
    refine N.then_exit ?_
    refine N.then_exit ?_
    refine N.block_eq ?_
    refine N.next ?_
    refine W.seq ?_
    refine W.region ?_
    refine RL.e (Eff.buildSlice 119 Tryz.underlying73 sz5 zc5 rfl rfl .nil rfl) rfl ?_
    rintro _ _ ⟨b19, rfl, rfl⟩
    refine RL.q (Yld.move rfl) rfl ?_
    refine RL.e (Eff.appendE (tc := 119) (sc := 1) (fun z : Int => [Value.int .u8 z]) Tryz.underlying73 el5 rfl rfl rfl rfl (bz_none rfl) rfl hl rfl (bz_one1 _) (by decide) (by first | (simp; done) | (simp; omega)) (by first | (simp [maxLen]; done) | (simp [maxLen]; omega))) rfl ?_
    rintro _ _ ⟨Ha, pa, ca, rfl, hOa, rfl⟩
    refine RL.q (Yld.move rfl) rfl ?_
    refine RL.q (Yld.lenSl Tryz.underlying73 rfl) rfl ?_
    refine RL.q (Yld.eq (v' := .int .u8 (((digs n.toNat).length : Nat) : Int)) (Yld.convIs Tryz.underlying3 Tryz.underlying5 rfl (by first | exact IntWalk.u8_in _ ⟨by omega, by omega⟩ | rfl)) (by rw [hsd])) rfl ?_
    refine RL.e (Eff.buildSlice 125 Tryz.underlying73 sz5 zc5 rfl rfl (.cons rfl rfl .nil) rfl) rfl ?_
    rintro _ _ ⟨b25, rfl, rfl⟩
    refine RL.e (Eff.appendE (tc := 119) (sc := 125) (fun z : Int => [Value.int .u8 z]) Tryz.underlying73 el5 rfl rfl rfl rfl hOa rfl (bz_single (l := [(((digs n.toNat).length : Nat) : Int)]) rfl (by simp [maxLen])).sl rfl (bz_one1 _) (by decide) (by first | (simp; done) | (simp; omega)) (by first | (simp [maxLen]; done) | (simp [maxLen]; omega))) rfl ?_
    rintro _ _ ⟨Hc, pc, cc, rfl, hOc, rfl⟩
    refine RL.q (Yld.move rfl) rfl ?_
    refine RL.e (Eff.appendE (tc := 119) (sc := 107) (fun z : Int => [Value.int .u8 z]) Tryz.underlying73 el5 rfl rfl rfl rfl hOc rfl hOx.sl rfl (bz_one1 _) (by decide) (by first | (simp; done) | (simp; omega)) (by first | (simp [maxLen]; done) | (simp [maxLen]; omega))) rfl ?_
    rintro _ _ ⟨Hd, pd, cd, rfl, hOd, rfl⟩
    refine RL.q (Yld.assign rfl) rfl ?_
    refine RL.nil ?_
    refine N.next ?_
    refine W.keep (.cons (k := 4) rfl .nil) (.cons (k := 0) rfl (.cons (k := 1) rfl (.cons (k := 107) rfl (.cons (k := 119) rfl (.cons (k := 125) rfl .nil))))) ?_
    refine W.ret ?_
    exact N.retBy [1, 119] (.cons (.tmp rfl) .nil) rfl rfl rfl rfl ⟨Hd, pd, cd, by rw [← hfin]; rfl, by rw [← hfin]; exact hOd, rfl⟩

set_option maxRecDepth 100000 in
set_option maxHeartbeats 1600000 in
theorem rint_ct (l : List Int) (H1 : PH) (p : Option Addr) (c : Nat) (hl : Sl H1 p c 1 (bz l)) (z : Int) (hz : Cfg.I64 z) (hb : l.length ≤ 1000000) : Ct Tryz.prog 104 [.slice p l.length c, .int .i64 z] [H1] (fun v Hs => ∃ H' p' c', v = .slice p' (l ++ encZ z).length c' ∧ Own H' p' c' 5 1 (bz (l ++ encZ z)) ∧ Hs = [H1, H']) := by
  refine Ct.body Tryz.func104 rfl Tryz.ntmps104 rfl ?_
  intro E F
  obtain ⟨hz0, hz1⟩ := hz
  refine W.seq ?_
  refine W.region ?_
  refine RL.q (Yld.assign rfl) rfl ?_
  refine RL.nil ?_
  refine N.next ?_
  refine W.seq ?_
  refine W.seq ?_
  refine W.region ?_
  refine RL.q (Yld.move rfl) rfl ?_
  refine RL.q (Yld.bin rfl rfl BinV.geq) rfl ?_
  refine RL.nil ?_
  refine N.next ?_
  first | refine W.condD rfl (fun hc6 => ?_) (fun hc6 => ?_) | (refine W.cond rfl (fun hc6 => ?_) (fun hc6 => ?_) <;> try simp only [Bool.or_eq_true, Bool.and_eq_true, Bool.not_eq_true', Bool.not_eq_false', decide_eq_true_eq, Bool.or_eq_false_iff, Bool.and_eq_false_iff, decide_eq_false_iff_not, beq_iff_eq, beq_eq_false_iff_ne, ne_eq, Decidable.not_not] at hc6)
  ·
    refine W.seq ?_
    refine W.region ?_
    refine RL.q (Yld.move rfl) rfl ?_
    refine RL.q (Yld.move rfl) rfl ?_
    refine RL.q (Yld.convIs Tryz.underlying2 Tryz.underlying82 rfl (by first | exact IntWalk.u64_in _ ⟨by omega, by omega⟩ | rfl)) rfl ?_
    refine RL.q (Yld.eq (v' := .int .u64 (zig z)) (Yld.bin rfl rfl (by first | exact BinV.mulE (IntWalk.u64_in _ ⟨by omega, by omega⟩) | exact BinV.mulW)) (by unfold zig; rw [if_pos (by omega)])) rfl ?_
    refine RL.e (Eff.call ent103 [1] [1, 109] (.cons rfl (.cons rfl .nil)) (rnum_ct l H1 p c hl (zig z) (zig_u64 ⟨hz0, hz1⟩) hb) rfl rfl rfl rfl (by rintro _ _ ⟨_, _, _, _, _, _, rfl⟩; rfl)) rfl ?_
    rintro _ _ ⟨_, ⟨Ha, pa, ca, rfl, hOa, rfl⟩, rfl⟩
    refine RL.q (Yld.assign rfl) rfl ?_
    refine RL.nil ?_
    refine N.next ?_
    refine W.keep (.cons (k := 4) rfl .nil) (.cons (k := 0) rfl (.cons (k := 1) rfl (.cons (k := 109) rfl .nil))) ?_
    refine W.ret ?_
    refine N.then_ret ?_
    exact N.retBy [1, 109] (.cons (.tmp rfl) .nil) rfl rfl rfl rfl ⟨_, _, _, rfl, hOa, rfl⟩
  ·
    refine W.skip ?_
    refine N.next ?_
    refine W.seq ?_
    refine W.region ?_
    refine RL.q (Yld.move rfl) rfl ?_
    refine RL.q (Yld.move rfl) rfl ?_
    refine RL.q (Yld.bin rfl rfl (by first | exact BinV.add (by omega) (by omega) | exact BinV.addW)) rfl ?_
    refine RL.q (by first | exact Yld.negI rfl (by omega) (by omega) | exact Yld.neg rfl) rfl ?_
    refine RL.q (Yld.convIs Tryz.underlying2 Tryz.underlying82 rfl (by first | exact IntWalk.u64_in _ ⟨by omega, by omega⟩ | rfl)) rfl ?_
    refine RL.q (Yld.bin rfl rfl (by first | exact BinV.mulE (IntWalk.u64_in _ ⟨by omega, by omega⟩) | exact BinV.mulW)) rfl ?_
    refine RL.q (Yld.eq (v' := .int .u64 (zig z)) (Yld.bin rfl rfl (by first | exact BinV.addE (IntWalk.u64_in _ ⟨by omega, by omega⟩) | exact BinV.addW)) (by unfold zig; rw [if_neg (by omega)]; congr 1; omega)) rfl ?_
    refine RL.e (Eff.call ent103 [1] [1, 109] (.cons rfl (.cons rfl .nil)) (rnum_ct l H1 p c hl (zig z) (zig_u64 ⟨hz0, hz1⟩) hb) rfl rfl rfl rfl (by rintro _ _ ⟨_, _, _, _, _, _, rfl⟩; rfl)) rfl ?_
    rintro _ _ ⟨_, ⟨Ha, pa, ca, rfl, hOa, rfl⟩, rfl⟩
    refine RL.q (Yld.assign rfl) rfl ?_
    refine RL.nil ?_
    refine N.next ?_
    refine W.keep (.cons (k := 4) rfl .nil) (.cons (k := 0) rfl (.cons (k := 1) rfl (.cons (k := 109) rfl .nil))) ?_
    refine W.ret ?_
    exact N.retBy [1, 109] (.cons (.tmp rfl) .nil) rfl rfl rfl rfl ⟨_, _, _, rfl, hOa, rfl⟩

end Go.Proofs.YtdjmdfnhnlijiaaGreatDoor
