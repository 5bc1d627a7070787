/- Readers. Written by program (walk2.py). -/
import Derived.Test.YtdjmdfnhnlijiaaGreatDoorW1
import Derived.Test.YtdjmdfnhnlijiaaGreatDoorSlPart
namespace Go.Proofs.YtdjmdfnhnlijiaaGreatDoor
open SL Cfg
set_option linter.unusedVariables false
set_option linter.unusedSimpArgs false
theorem fo108_0 : fieldOff Tryz.prog 108 0 = some 0 := by kernel_rfl
theorem sz73 : sz Tryz.prog 73 1 := (by kernel_rfl : (Tryz.prog.info? 73).map (·.size) = some 1)
theorem ent99 : Ent Tryz.prog 99 := ⟨_, _, Tryz.func99, by kernel_rfl, rfl⟩
theorem fo108_1 : fieldOff Tryz.prog 108 1 = some 1 := by kernel_rfl
theorem sz45 : sz Tryz.prog 45 1 := (by kernel_rfl : (Tryz.prog.info? 45).map (·.size) = some 1)
structure Cfg.Rd where
  p : Option Addr
  c : Nat
  l : List Int
  e : Int
structure Cfg.Rd.In (x : Rd) (H : PH) : Prop where
  sl : Sl H x.p x.c 1 (bz x.l)
  byt : Byt x.l
def Cfg.Rd.s (x : Rd) : RS := (x.l, x.e)
def Cfg.takeV (x : Rd) (n : Int) : Value := if n ≤ x.l.length then .slice x.p n.toNat x.c else .slice none 0 0
def Cfg.Rd.take (x : Rd) (n : Int) : Rd := if n ≤ x.l.length then ⟨subP x.p x.c n.toNat 1, x.c - n.toNat, x.l.drop n.toNat, x.e⟩ else x
theorem Cfg.get_take {l : List Int} {k : Nat} (h : 0 < k) (h1 : 0 < l.length) : (l.take k)[(0 : Int).toNat]? = some (l.getD 0 0) := by
  rw [List.getElem?_take]
  cases l with
  | nil => simp at h1
  | cons a t => simp [h]
theorem Cfg.takeV_pos {x : Rd} {n : Int} (h : n ≤ x.l.length) : takeV x n = .slice x.p n.toNat x.c := if_pos h
theorem Cfg.Rd.In.take {x : Rd} {H : PH} (h : x.In H) (n : Int) (h0 : 0 ≤ n) : (x.take n).In H ∧ (x.take n).e = x.e := by
  unfold Rd.take
  split
  · exact ⟨⟨by rw [bz_drop]; exact h.sl.drop (by rw [bz_len]; omega), h.byt.drop _⟩, rfl⟩
  · exact ⟨h, rfl⟩
theorem Cfg.Rd.take_l {x : Rd} {n : Int} (h : n ≤ x.l.length) : (x.take n).l = x.l.drop n.toNat := by unfold Rd.take; rw [if_pos h]
theorem Cfg.Rd.In.head {x : Rd} {H : PH} (h : x.In H) {n : Nat} (hn : n ≤ x.l.length) : Sl H x.p x.c 1 (bz (x.l.take n)) := by rw [bz_take]; exact h.sl.take n

set_option maxRecDepth 100000 in
set_option maxHeartbeats 1600000 in
theorem take_ct (r : Nat) (x : Rd) (H1 : PH) (hx : x.In H1) (n : Int) (hn : U64 n) : Ct Tryz.prog 99 [.pointer (some ⟨r, 0, none⟩), .int .u64 n] [single r (.cells [.slice x.p x.l.length x.c, .int .i64 x.e].toArray 108 (0, 0)), H1] (fun v Hs => v = .tuple #[takeV x n, .bool (decide (n ≤ x.l.length))] ∧ Hs = [single r (.cells [.slice (x.take n).p (x.take n).l.length (x.take n).c, .int .i64 (x.take n).e].toArray 108 (0, 0)), H1]) := by
  refine Ct.body Tryz.func99 rfl Tryz.ntmps99 rfl ?_
  intro E F
  have hmx := hx.sl.len_le
  simp only [bz_len, maxLen] at hmx
  have hxs := hx.sl
  obtain ⟨hn0, hn1⟩ := hn
  refine W.seq ?_
  refine W.region ?_
  refine RL.q (Yld.assign rfl) rfl ?_
  refine RL.q (Yld.assign rfl) rfl ?_
  refine RL.nil ?_
  refine N.next ?_
  refine W.seq ?_
  refine W.seq ?_
  refine W.region ?_
  refine RL.q (Yld.move rfl) rfl ?_
  refine RL.q (Yld.nilP rfl) rfl ?_
  refine RL.q (Yld.fieldAddr fo108_0 rfl) rfl ?_
  refine RL.q (Yld.load1 (c := 1) Tryz.underlying73 rfl rfl rfl (by first | exact single_self _ _ | exact pset_self _ _ _ | assumption) rfl) rfl ?_
  refine RL.q (Yld.lenSl Tryz.underlying73 rfl) rfl ?_
  refine RL.q (Yld.convIs Tryz.underlying3 Tryz.underlying82 rfl (by first | exact IntWalk.u64_in _ ⟨by omega, by omega⟩ | rfl)) rfl ?_
  refine RL.q (Yld.move rfl) rfl ?_
  refine RL.q (Yld.bin rfl rfl BinV.lss) rfl ?_
  refine RL.nil ?_
  refine N.next ?_
  refine W.keep (.cons (k := 0) rfl (.cons (k := 1) rfl (.cons (k := 14) rfl .nil))) (.cons (k := 0) rfl (.cons (k := 1) rfl (.cons (k := 2) rfl .nil))) ?_
  first | refine W.condD rfl (fun hc14 => ?_) (fun hc14 => ?_) | (refine W.cond rfl (fun hc14 => ?_) (fun hc14 => ?_) <;> try simp only [Bool.or_eq_true, Bool.and_eq_true, Bool.not_eq_true', Bool.not_eq_false', decide_eq_true_eq, Bool.or_eq_false_iff, Bool.and_eq_false_iff, decide_eq_false_iff_not, beq_iff_eq, beq_eq_false_iff_ne, ne_eq, Decidable.not_not] at hc14)
  ·
    refine W.seq ?_
    refine W.region ?_
    refine RL.q (Yld.assign rfl) rfl ?_
    refine RL.q (Yld.assign rfl) rfl ?_
    refine RL.nil ?_
    refine N.next ?_
    refine W.ret ?_
    refine N.then_ret ?_
    exact N.retBy [1, 2] (.cons (.tmp rfl) (.cons (.tmp rfl) .nil)) rfl rfl rfl rfl ⟨by show _ = Value.tuple #[takeV x n, .bool (decide (n ≤ (x.l.length : Int)))]; unfold takeV; rw [if_neg (by omega), decide_eq_false (by omega)]; rfl, by unfold Rd.take; rw [if_neg (by omega)]⟩
  ·
    refine W.skip ?_
    refine N.next ?_
    refine W.seq ?_
    refine W.region ?_
    refine RL.q (Yld.move rfl) rfl ?_
    refine RL.q (Yld.nilP rfl) rfl ?_
    refine RL.q (Yld.fieldAddr fo108_0 rfl) rfl ?_
    refine RL.q (Yld.load1 (c := 1) Tryz.underlying73 rfl rfl rfl (by first | exact single_self _ _ | exact pset_self _ _ _ | assumption) rfl) rfl ?_
    refine RL.q (Yld.move rfl) rfl ?_
    refine RL.q (Yld.sliceH Tryz.underlying73 sz5 rfl rfl (by omega) (by first | omega | (simp; done) | (simp; omega))) rfl ?_
    refine RL.q (Yld.assign rfl) rfl ?_
    refine RL.nil ?_
    refine N.next ?_
    refine W.keep (.cons (k := 0) rfl (.cons (k := 1) rfl (.cons (k := 6) rfl .nil))) (.cons (k := 0) rfl (.cons (k := 1) rfl (.cons (k := 2) rfl .nil))) ?_
    refine W.seq ?_
    refine W.region ?_
    refine RL.q (Yld.move rfl) rfl ?_
    refine RL.q (Yld.move rfl) rfl ?_
    refine RL.q (Yld.nilP rfl) rfl ?_
    refine RL.q (Yld.fieldAddr fo108_0 rfl) rfl ?_
    refine RL.q (Yld.load1 (c := 1) Tryz.underlying73 rfl rfl rfl (by first | exact single_self _ _ | exact pset_self _ _ _ | assumption) rfl) rfl ?_
    refine RL.q (Yld.move rfl) rfl ?_
    refine RL.q (Yld.sliceL Tryz.underlying73 sz5 rfl rfl (by omega) (by first | omega | (simp; done) | (simp; omega))) rfl ?_
    refine RL.q (Yld.nilP rfl) rfl ?_
    refine RL.q (Yld.fieldAddr fo108_0 rfl) rfl ?_
    refine RL.e0 (Eff.storeS (c := 1) _ sz73 rfl rfl rfl rfl rfl rfl rfl (by (try simp only [putAt, List.take, List.drop, List.nil_append, List.cons_append, List.append_nil, List.length_cons, List.length_nil, Nat.add_zero, Nat.zero_add, Nat.reduceAdd]); rfl)) ?_
    rintro _ _ rfl
    refine RL.nil ?_
    refine N.next ?_
    refine W.keep (.cons (k := 6) rfl .nil) (.cons (k := 0) rfl (.cons (k := 1) rfl (.cons (k := 2) rfl .nil))) ?_
    refine W.seq ?_
    refine W.region ?_
    refine RL.q (Yld.move rfl) rfl ?_
    refine RL.q (Yld.assign rfl) rfl ?_
    refine RL.q (Yld.assign rfl) rfl ?_
    refine RL.nil ?_
    refine N.next ?_
    refine W.ret ?_
    exact N.retBy [1, 2] (.cons (.tmp rfl) (.cons (.tmp rfl) .nil)) rfl rfl rfl rfl ⟨by show _ = Value.tuple #[takeV x n, .bool (decide (n ≤ (x.l.length : Int)))]; unfold takeV; rw [if_pos (by omega), decide_eq_true (by omega)]; rfl, by unfold Rd.take; rw [if_pos (by omega)]; simp only [List.length_drop]⟩

set_option maxRecDepth 100000 in
set_option maxHeartbeats 6400000 in
theorem number_ct (r : Nat) (x : Rd) (H1 K G : PH) (hx : x.In H1) : Ct Tryz.prog 78 [.pointer (some ⟨r, 0, none⟩)] [single r (.cells [.slice x.p x.l.length x.c, .int .i64 x.e].toArray 108 (0, 0)), H1, K, G] (fun v Hs => ∃ y : Rd, y.In H1 ∧ y.e = x.e ∧ (∀ n q, decN x.l = some (n, q) → y.l = q) ∧ v = .tuple #[.int .u64 (numV x.l), .int .i64 (numE x.l)] ∧ Hs = [single r (.cells [.slice y.p y.l.length y.c, .int .i64 y.e].toArray 108 (0, 0)), H1, K, G]) := by
  refine Ct.body Tryz.func78 rfl Tryz.ntmps78 rfl ?_
  intro E F
  have hmx := hx.sl.len_le
  simp only [bz_len, maxLen] at hmx
  have hxs := hx.sl
  have hhb := byt_getD hx.byt 0
  obtain ⟨hd, hhd⟩ : ∃ z, x.l.getD 0 0 = z := ⟨_, rfl⟩
  rw [hhd] at hhb
  refine W.seq ?_
  refine W.region ?_
  refine RL.q (Yld.assign rfl) rfl ?_
  refine RL.q (Yld.assign rfl) rfl ?_
  refine RL.nil ?_
  refine N.next ?_
  refine W.seq ?_
  refine W.region ?_
  refine RL.q (Yld.move rfl) rfl ?_
  refine RL.e (Eff.call ent99 [1, 2] [1, 2] (.cons rfl (.cons rfl .nil)) (take_ct r x H1 hx 1 ⟨by omega, by omega⟩) rfl rfl rfl rfl (by rintro _ _ ⟨_, rfl⟩; rfl)) rfl ?_
  rintro _ _ ⟨_, ⟨rfl, rfl⟩, rfl⟩
  refine RL.q (Yld.move rfl) rfl ?_
  refine RL.q (Yld.extract rfl rfl) rfl ?_
  refine RL.q (Yld.extract rfl rfl) rfl ?_
  refine RL.q (Yld.assign rfl) rfl ?_
  refine RL.q (Yld.assign rfl) rfl ?_
  refine RL.nil ?_
  refine N.next ?_
  refine W.keep (.cons (k := 0) rfl (.cons (k := 4) rfl (.cons (k := 5) rfl .nil))) (.cons (k := 0) rfl (.cons (k := 1) rfl (.cons (k := 2) rfl (.cons (k := 3) rfl (.cons (k := 4) rfl .nil))))) ?_
  refine W.seq ?_
  refine W.seq ?_
  refine W.region ?_
  refine RL.q (Yld.move rfl) rfl ?_
  refine RL.q (by first | exact Yld.notD rfl | exact Yld.not rfl) rfl ?_
  refine RL.q (Yld.move rfl) rfl ?_
  refine' RL.or (t := 17) (d := 22) 5 rfl (.cons (k := 0) rfl (.cons (k := 4) rfl (.cons (k := 5) rfl (.cons (k := 15) rfl (.cons (k := 16) rfl .nil))))) (.cons (k := 0) rfl (.cons (k := 1) rfl (.cons (k := 2) rfl (.cons (k := 3) rfl (.cons (k := 4) rfl .nil))))) ?_ ?_ ?_
  rotate_left 1
  ·
    intro hg17
    have hg17 := of_decide_eq_false hg17
    have h1 : (1 : Int) ≤ x.l.length := by omega
    have h1n : 1 ≤ x.l.length := by omega
    have hl0 : (bz (x.l.take 1))[(0 : Int).toNat]? = some [.int .u8 hd] := bz_get (by rw [← hhd]; exact get_take (by omega) (by omega))
    refine RL.gq rfl rfl (Yld.eq (v' := .slice x.p 1 x.c) (Yld.move rfl) (takeV_pos h1)) rfl ?_
    refine RL.gq rfl rfl (Yld.indexRow Tryz.underlying73 sz5 rfl rfl (hx.head h1n) (by rw [bz_len, List.length_take]; omega) (by omega) (by rw [bz_len, List.length_take]; omega)) rfl ?_
    refine RL.gq rfl rfl (Yld.loadRow1 (cl := 2) Tryz.underlying5 rfl rfl rfl (hx.head h1n) hl0) rfl ?_
    refine RL.gq rfl rfl (Yld.bin rfl rfl BinV.gtr) rfl ?_
    refine RL.q (by first | exact Yld.pickT rfl rfl | exact Yld.pickF rfl rfl) rfl ?_
    exact RL.nil (N.meet (.cons rfl (.cons rfl (.cons rfl (.cons rfl (.cons rfl (.cons rfl .nil)))))) (.cons rfl (.cons rfl (.cons rfl (.cons rfl (.cons rfl .nil))))))
  ·
    intro hg17
    refine RL.gskip rfl rfl rfl rfl ?_
    refine RL.gskip rfl rfl rfl rfl ?_
    refine RL.gskip rfl rfl rfl rfl ?_
    refine RL.gskip rfl rfl rfl rfl ?_
    refine RL.q (by first | exact Yld.pickT rfl rfl | exact Yld.pickF rfl rfl) rfl ?_
    exact RL.nil (N.meet (.cons rfl (.cons rfl (.cons rfl (.cons rfl (.cons rfl (.cons rfl .nil)))))) (.cons rfl (.cons rfl (.cons rfl (.cons rfl (.cons rfl .nil))))))
  refine RL.nil ?_
  refine N.next ?_
  first | refine W.condD rfl (fun hc22 => ?_) (fun hc22 => ?_) | (refine W.cond rfl (fun hc22 => ?_) (fun hc22 => ?_) <;> try simp only [Bool.or_eq_true, Bool.and_eq_true, Bool.not_eq_true', Bool.not_eq_false', decide_eq_true_eq, Bool.or_eq_false_iff, Bool.and_eq_false_iff, decide_eq_false_iff_not, beq_iff_eq, beq_eq_false_iff_ne, ne_eq, Decidable.not_not] at hc22)
  ·
    have hnone : decN x.l = none := by
      by_cases e : 1 ≤ x.l.length
      · exact decN_big (by rw [hhd]; rcases hc22 with h | h <;> omega)
      · exact decN_nil e
    obtain ⟨hI1, he1⟩ := hx.take 1 (by omega)
    obtain ⟨e1, e2⟩ := num_none hnone
    refine W.seq ?_
    refine W.region ?_
    refine RL.q (Yld.assign rfl) rfl ?_
    refine RL.q (Yld.assign rfl) rfl ?_
    refine RL.nil ?_
    refine N.next ?_
    refine W.keep (.cons (k := 2) rfl (.cons (k := 3) rfl .nil)) (.cons (k := 0) rfl (.cons (k := 1) rfl (.cons (k := 2) rfl (.cons (k := 3) rfl (.cons (k := 4) rfl .nil))))) ?_
    refine W.ret ?_
    refine N.then_ret ?_
    exact N.retBy [1, 2, 3, 4] (.cons (.tmp rfl) (.cons (.tmp rfl) .nil)) rfl rfl rfl rfl ⟨x.take 1, hI1, he1, fun n q h => by (rw [hnone] at h; cases h), by rw [e1, e2]; rfl, rfl⟩
  ·
    have h1 : (1 : Int) ≤ x.l.length := by omega
    have h1n : 1 ≤ x.l.length := by omega
    have hl0 : (bz (x.l.take 1))[(0 : Int).toNat]? = some [.int .u8 hd] := bz_get (by rw [← hhd]; exact get_take (by omega) (by omega))
    have hh8 : hd ≤ 8 := by omega
    obtain ⟨hI1, he1⟩ := hx.take 1 (by omega)
    have hl1 := Rd.take_l (x := x) h1
    obtain ⟨y, hyd⟩ : ∃ y, x.take 1 = y := ⟨_, rfl⟩
    rw [hyd] at hI1 he1 hl1
    rw [hyd]
    have hy := hI1
    replace hl1 : y.l = x.l.drop 1 := hl1
    obtain ⟨b0, hb0d⟩ : ∃ z, y.l.getD 0 0 = z := ⟨_, rfl⟩
    refine W.skip ?_
    refine N.next ?_
    refine W.keep (.cons (k := 0) rfl (.cons (k := 4) rfl .nil)) (.cons (k := 0) rfl (.cons (k := 1) rfl (.cons (k := 2) rfl (.cons (k := 3) rfl (.cons (k := 4) rfl .nil))))) ?_
    refine W.seq ?_
    refine W.region ?_
    refine RL.q (Yld.move rfl) rfl ?_
    refine RL.q (Yld.eq (v' := .slice x.p 1 x.c) (Yld.move rfl) (takeV_pos h1)) rfl ?_
    refine RL.q (Yld.indexRow Tryz.underlying73 sz5 rfl rfl (hx.head h1n) (by rw [bz_len, List.length_take]; omega) (by omega) (by rw [bz_len, List.length_take]; omega)) rfl ?_
    refine RL.q (Yld.loadRow1 (cl := 2) Tryz.underlying5 rfl rfl rfl (hx.head h1n) hl0) rfl ?_
    refine RL.q (Yld.convIs Tryz.underlying5 Tryz.underlying82 rfl (by first | exact IntWalk.u64_in _ ⟨by omega, by omega⟩ | rfl)) rfl ?_
    refine RL.e (Eff.call ent99 [1, 2] [1, 2] (.cons rfl (.cons rfl .nil)) (take_ct r y H1 hy hd ⟨by omega, by omega⟩) rfl rfl rfl rfl (by rintro _ _ ⟨_, rfl⟩; rfl)) rfl ?_
    rintro _ _ ⟨_, ⟨rfl, rfl⟩, rfl⟩
    refine RL.q (Yld.move rfl) rfl ?_
    refine RL.q (Yld.extract rfl rfl) rfl ?_
    refine RL.q (Yld.extract rfl rfl) rfl ?_
    refine RL.q (Yld.assign rfl) rfl ?_
    refine RL.q (Yld.assign rfl) rfl ?_
    refine RL.nil ?_
    refine N.next ?_
    refine W.keep (.cons (k := 5) rfl (.cons (k := 6) rfl .nil)) (.cons (k := 0) rfl (.cons (k := 1) rfl (.cons (k := 2) rfl (.cons (k := 3) rfl (.cons (k := 4) rfl .nil))))) ?_
    refine W.seq ?_
    refine W.seq ?_
    refine W.region ?_
    refine RL.q (Yld.move rfl) rfl ?_
    refine RL.q (by first | exact Yld.notD rfl | exact Yld.not rfl) rfl ?_
    refine RL.q (Yld.move rfl) rfl ?_
    refine' RL.or (t := 34) (d := 44) 10 rfl (.cons (k := 5) rfl (.cons (k := 6) rfl (.cons (k := 32) rfl (.cons (k := 33) rfl .nil)))) (.cons (k := 0) rfl (.cons (k := 1) rfl (.cons (k := 2) rfl (.cons (k := 3) rfl (.cons (k := 4) rfl .nil))))) ?_ ?_ ?_
    rotate_left 1
    ·
      intro hg34
      have hg34 := of_decide_eq_false hg34
      have hok : hd ≤ y.l.length := by omega
      have hokn : hd.toNat ≤ y.l.length := by omega
      refine RL.gq rfl rfl (Yld.eq (v' := .slice y.p hd.toNat y.c) (Yld.move rfl) (takeV_pos hok)) rfl ?_
      refine RL.gq rfl rfl (Yld.lenSl Tryz.underlying73 rfl) rfl ?_
      refine RL.gq rfl rfl (Yld.bin rfl rfl BinV.gtr) rfl ?_
      refine RL.gq rfl rfl (Yld.move rfl) rfl ?_
      refine' RL.and (t := 38) (d := 43) 5 rfl (.cons (k := 5) rfl (.cons (k := 6) rfl (.cons (k := 32) rfl (.cons (k := 33) rfl (.cons (k := 34) rfl (.cons (k := 35) rfl (.cons (k := 36) rfl (.cons (k := 37) rfl .nil)))))))) (.cons (k := 0) rfl (.cons (k := 1) rfl (.cons (k := 2) rfl (.cons (k := 3) rfl (.cons (k := 4) rfl .nil))))) ?_ ?_ ?_
      rotate_left 1
      ·
        intro hg38
        have hg38 := of_decide_eq_true hg38
        have hb0 : (bz (y.l.take hd.toNat))[(0 : Int).toNat]? = some [.int .u8 b0] := bz_get (by rw [← hb0d]; exact get_take (by omega) (by omega))
        refine RL.gq rfl rfl (Yld.eq (v' := .slice y.p hd.toNat y.c) (Yld.move rfl) (takeV_pos hok)) rfl ?_
        refine RL.gq rfl rfl (Yld.indexRow Tryz.underlying73 sz5 rfl rfl (hy.head hokn) (by rw [bz_len, List.length_take]; omega) (by omega) (by rw [bz_len, List.length_take]; omega)) rfl ?_
        refine RL.gq rfl rfl (Yld.loadRow1 (cl := 2) Tryz.underlying5 rfl rfl rfl (hy.head hokn) hb0) rfl ?_
        refine RL.gq rfl rfl (Yld.bin rfl rfl BinV.eql) rfl ?_
        refine RL.gq rfl rfl (by first | exact Yld.pickT rfl rfl | exact Yld.pickF rfl rfl) rfl ?_
        exact RL.nil (N.meet (.cons rfl (.cons rfl (.cons rfl (.cons rfl (.cons rfl (.cons rfl (.cons rfl (.cons rfl (.cons rfl .nil))))))))) (.cons rfl (.cons rfl (.cons rfl (.cons rfl (.cons rfl .nil))))))
      ·
        intro hg38
        refine RL.gskip rfl rfl rfl rfl ?_
        refine RL.gskip rfl rfl rfl rfl ?_
        refine RL.gskip rfl rfl rfl rfl ?_
        refine RL.gskip rfl rfl rfl rfl ?_
        refine RL.gq rfl rfl (by first | exact Yld.pickT rfl rfl | exact Yld.pickF rfl rfl) rfl ?_
        exact RL.nil (N.meet (.cons rfl (.cons rfl (.cons rfl (.cons rfl (.cons rfl (.cons rfl (.cons rfl (.cons rfl (.cons rfl .nil))))))))) (.cons rfl (.cons rfl (.cons rfl (.cons rfl (.cons rfl .nil))))))
      refine RL.q (by first | exact Yld.pickT rfl rfl | exact Yld.pickF rfl rfl) rfl ?_
      exact RL.nil (N.meet (.cons rfl (.cons rfl (.cons rfl (.cons rfl (.cons rfl .nil))))) (.cons rfl (.cons rfl (.cons rfl (.cons rfl (.cons rfl .nil))))))
    ·
      intro hg34
      refine RL.gskip rfl rfl rfl rfl ?_
      refine RL.gskip rfl rfl rfl rfl ?_
      refine RL.gskip rfl rfl rfl rfl ?_
      refine RL.gskip rfl rfl rfl rfl ?_
      refine RL.gskipU rfl rfl rfl ?_
      refine RL.gskipU rfl rfl rfl ?_
      refine RL.gskipU rfl rfl rfl ?_
      refine RL.gskipU rfl rfl rfl ?_
      refine RL.gskip rfl rfl rfl rfl ?_
      refine RL.q (by first | exact Yld.pickT rfl rfl | exact Yld.pickF rfl rfl) rfl ?_
      exact RL.nil (N.meet (.cons rfl (.cons rfl (.cons rfl (.cons rfl (.cons rfl .nil))))) (.cons rfl (.cons rfl (.cons rfl (.cons rfl (.cons rfl .nil))))))
    refine RL.nil ?_
    refine N.next ?_
    first | refine W.condD rfl (fun hc44 => ?_) (fun hc44 => ?_) | (refine W.cond rfl (fun hc44 => ?_) (fun hc44 => ?_) <;> try simp only [Bool.or_eq_true, Bool.and_eq_true, Bool.not_eq_true', Bool.not_eq_false', decide_eq_true_eq, Bool.or_eq_false_iff, Bool.and_eq_false_iff, decide_eq_false_iff_not, beq_iff_eq, beq_eq_false_iff_ne, ne_eq, Decidable.not_not] at hc44)
    ·
      have hnone : decN x.l = none := by
        by_cases e : hd ≤ y.l.length
        · exact decN_zero (by rw [hhd]; omega) (by rw [← hl1, hhd]; exact e) (by rw [← hl1, hb0d]; omega)
        · exact decN_short' (by rw [← hl1, hhd]; omega)
      obtain ⟨hI2, he2⟩ := hy.take hd (by omega)
      obtain ⟨e1, e2⟩ := num_none hnone
      refine W.seq ?_
      refine W.region ?_
      refine RL.q (Yld.assign rfl) rfl ?_
      refine RL.q (Yld.assign rfl) rfl ?_
      refine RL.nil ?_
      refine N.next ?_
      refine W.keep (.cons (k := 2) rfl (.cons (k := 3) rfl .nil)) (.cons (k := 0) rfl (.cons (k := 1) rfl (.cons (k := 2) rfl (.cons (k := 3) rfl (.cons (k := 4) rfl .nil))))) ?_
      refine W.ret ?_
      refine N.then_ret ?_
      exact N.retBy [1, 2, 3, 4] (.cons (.tmp rfl) (.cons (.tmp rfl) .nil)) rfl rfl rfl rfl ⟨y.take hd, hI2, by rw [he2, he1], fun n q h => by (rw [hnone] at h; cases h), by rw [e1, e2]; rfl, rfl⟩
    ·
      have hok : hd ≤ y.l.length := by omega
      have hokn : hd.toNat ≤ y.l.length := by omega
      have hsome := decN_some h1n (by rw [hhd]; exact hh8) (by rw [← hl1, hhd]; exact hok) (by rw [← hl1, hhd, hb0d]; rintro ⟨g1, g2⟩; omega)
      rw [← hl1, hhd] at hsome
      obtain ⟨hI2, he2⟩ := hy.take hd (by omega)
      have hl2 := Rd.take_l (x := y) hok
      obtain ⟨e1, e2⟩ := num_some hsome
      have hbb := hy.byt.take hd.toNat
      have hbl : (y.l.take hd.toNat).length = hd.toNat := by rw [List.length_take]; omega
      refine W.skip ?_
      refine N.next ?_
      refine W.keep (.cons (k := 6) rfl .nil) (.cons (k := 0) rfl (.cons (k := 1) rfl (.cons (k := 2) rfl (.cons (k := 3) rfl (.cons (k := 4) rfl .nil))))) ?_
      refine W.seq ?_
      refine W.region ?_
      refine RL.q (Yld.assign rfl) rfl ?_
      refine RL.nil ?_
      refine N.next ?_
      refine W.seq ?_
      refine W.seq ?_
      refine W.region ?_
      refine RL.q (Yld.eq (v' := .slice y.p hd.toNat y.c) (Yld.move rfl) (takeV_pos hok)) rfl ?_
      refine RL.q (Yld.lenSl Tryz.underlying73 rfl) rfl ?_
      refine RL.q (Yld.move rfl) rfl ?_
      refine RL.nil ?_
      refine N.next ?_
      refine W.block ?_
      refine W.loopK (ι := Nat) (fun j => (j ≤ hd.toNat)) (fun j => [(7, .int .u64 (val ((y.l.take hd.toNat).take j))), (47, .int .i64 (j : Nat))]) (fun j => []) (fun j => hd.toNat - j) (.cons (k := 45) rfl (.cons (k := 46) rfl .nil)) (.cons (k := 0) rfl (.cons (k := 1) rfl (.cons (k := 2) rfl (.cons (k := 3) rfl (.cons (k := 4) rfl .nil))))) 0 ?_ ?_ ?_ ?_
      · exact Nat.zero_le _
      · exact (.as rfl (by first | rfl | (simp; done) | (congr 1; simp; done) | (congr 1; omega)) (.as rfl (by first | rfl | (simp; done) | (congr 1; simp; done) | (congr 1; omega)) .nil))
      · exact .nil
      rintro j hj
      refine W.keep (.cons (k := 7) rfl (.cons (k := 47) rfl (.cons (k := 45) rfl (.cons (k := 46) rfl .nil)))) (.cons (k := 0) rfl (.cons (k := 1) rfl (.cons (k := 2) rfl (.cons (k := 3) rfl (.cons (k := 4) rfl .nil))))) ?_
      refine W.seq ?_
      refine W.region ?_
      refine RL.q (Yld.bin rfl rfl BinV.lss) rfl ?_
      refine RL.nil ?_
      refine N.next ?_
      refine W.seq ?_
      first | refine W.condD rfl (fun hc48 => ?_) (fun hc48 => ?_) | (refine W.cond rfl (fun hc48 => ?_) (fun hc48 => ?_) <;> try simp only [Bool.or_eq_true, Bool.and_eq_true, Bool.not_eq_true', Bool.not_eq_false', decide_eq_true_eq, Bool.or_eq_false_iff, Bool.and_eq_false_iff, decide_eq_false_iff_not, beq_iff_eq, beq_eq_false_iff_ne, ne_eq, Decidable.not_not] at hc48)
      ·
        obtain ⟨z, hz, hlz⟩ := bz_at (show j < (y.l.take hd.toNat).length by omega)
        have hzb := hbb z (List.mem_of_getElem? hz)
        refine W.skip ?_
        refine N.next ?_
        refine W.seq ?_
        refine W.block ?_
        refine W.seq ?_
        refine W.region ?_
        refine RL.q (Yld.indexRow Tryz.underlying73 sz5 rfl rfl (hy.head hokn) (by rw [bz_len, List.length_take]; omega) (by omega) (by rw [bz_len, List.length_take]; omega)) rfl ?_
        refine RL.q (Yld.loadRow1 (cl := 2) Tryz.underlying5 rfl rfl rfl (hy.head hokn) hlz) rfl ?_
        refine RL.q (Yld.assign rfl) rfl ?_
        refine RL.nil ?_
        refine N.next ?_
        refine W.region ?_
        refine RL.q (Yld.move rfl) rfl ?_
        refine RL.q (Yld.bin rfl rfl (BinV.shlW (by omega) (by first | decide | (simp [IntKind.bits]; done) | (simp [IntKind.bits]; omega)))) rfl ?_
        refine RL.q (Yld.move rfl) rfl ?_
        refine RL.q (Yld.convIs Tryz.underlying5 Tryz.underlying82 rfl (by first | exact IntWalk.u64_in _ ⟨by omega, by omega⟩ | rfl)) rfl ?_
        refine RL.q (Yld.eq (v' := .int .u64 (val ((y.l.take hd.toNat).take (j + 1)))) (Yld.bin rfl rfl BinV.or) (by rw [val_snoc_take hz]; show Value.int .u64 _ = _; rw [← u64_or_byte (val_small hbb (show j ≤ 7 by omega)).1 (val_small hbb (show j ≤ 7 by omega)).2 hzb]; rfl)) rfl ?_
        refine RL.q (Yld.assign rfl) rfl ?_
        refine RL.nil ?_
        refine N.block_normal ?_
        refine N.next ?_
        refine W.keep (.cons (k := 7) rfl (.cons (k := 45) rfl (.cons (k := 46) rfl (.cons (k := 47) rfl .nil)))) (.cons (k := 0) rfl (.cons (k := 1) rfl (.cons (k := 2) rfl (.cons (k := 3) rfl (.cons (k := 4) rfl .nil))))) ?_
        refine W.region ?_
        refine RL.q (Yld.bin rfl rfl (by first | exact BinV.add (by omega) (by omega) | exact BinV.addW)) rfl ?_
        refine RL.q (Yld.move rfl) rfl ?_
        refine RL.nil ?_
        exact N.famK (j + 1) ⟨by omega, by omega⟩ (.as rfl (by first | rfl | (simp; done) | (congr 1; simp; done) | (congr 1; omega)) (.as rfl (by first | rfl | (simp; done) | (congr 1; simp; done) | (congr 1; omega)) .nil)) (.cons rfl (.cons rfl .nil)) .nil (.cons rfl (.cons rfl (.cons rfl (.cons rfl (.cons rfl .nil)))))
      ·
        have hj8 : j = hd.toNat := by omega
        refine W.exit ?_
        refine N.then_exit ?_
        refine N.then_exit ?_
        refine N.block_eq ?_
        refine N.next ?_
        refine W.keep (.cons (k := 7) rfl .nil) (.cons (k := 0) rfl (.cons (k := 1) rfl (.cons (k := 2) rfl (.cons (k := 3) rfl (.cons (k := 4) rfl .nil))))) ?_
        refine W.seq ?_
        refine W.region ?_
        refine RL.q (Yld.move rfl) rfl ?_
        refine RL.q (Yld.assign rfl) rfl ?_
        refine RL.q (Yld.assign rfl) rfl ?_
        refine RL.nil ?_
        refine N.next ?_
        refine W.ret ?_
        exact N.retBy [1, 2, 3, 4] (.cons (.tmp rfl) (.cons (.tmp rfl) .nil)) rfl rfl rfl rfl ⟨y.take hd, hI2, by rw [he2, he1], fun n q h => by rw [hsome] at h; cases h; exact hl2, by rw [e1, e2, hj8]; rw [List.take_of_length_le (by omega)]; rfl, rfl⟩

set_option maxRecDepth 100000 in
set_option maxHeartbeats 1600000 in
theorem read_ct (r : Nat) (x : Rd) (H1 K G G2 : PH) (hx : x.In H1) (f : Nat) (first cap : List Value) (nv ne : Int) (Ry : Rd → Prop) (hent : Ent Tryz.prog f) (hf : x.e = 0 → Ct Tryz.prog f (first ++ [] ++ cap) [single r (.cells [.slice x.p x.l.length x.c, .int .i64 x.e].toArray 108 (0, 0)), H1, K, G] (fun v Hs => ∃ y : Rd, y.In H1 ∧ y.e = x.e ∧ Ry y ∧ v = .tuple #[.int .u64 nv, .int .i64 ne] ∧ Hs = [single r (.cells [.slice y.p y.l.length y.c, .int .i64 y.e].toArray 108 (0, 0)), H1, K, G2])) : Ct Tryz.prog 76 [.pointer (some ⟨r, 0, none⟩), .func (.func f) first.toArray cap.toArray] [single r (.cells [.slice x.p x.l.length x.c, .int .i64 x.e].toArray 108 (0, 0)), H1, K, G] (fun v Hs => ∃ y : Rd, y.In H1 ∧ ((x.e ≠ 0 ∧ y = x ∧ v = .int .u64 0 ∧ Hs = [single r (.cells [.slice y.p y.l.length y.c, .int .i64 y.e].toArray 108 (0, 0)), H1, K, G]) ∨ (x.e = 0 ∧ ne ≠ 0 ∧ y.l = [] ∧ y.e = ne ∧ v = .int .u64 0 ∧ Hs = [single r (.cells [.slice y.p y.l.length y.c, .int .i64 y.e].toArray 108 (0, 0)), H1, K, G2]) ∨ (x.e = 0 ∧ ne = 0 ∧ y.e = 0 ∧ Ry y ∧ v = .int .u64 nv ∧ Hs = [single r (.cells [.slice y.p y.l.length y.c, .int .i64 y.e].toArray 108 (0, 0)), H1, K, G2]))) := by
  refine Ct.body Tryz.func76 rfl Tryz.ntmps76 rfl ?_
  intro E F
  have hmx := hx.sl.len_le
  simp only [bz_len, maxLen] at hmx
  have hxs := hx.sl
  refine W.seq ?_
  refine W.region ?_
  refine RL.q (Yld.assign rfl) rfl ?_
  refine RL.nil ?_
  refine N.next ?_
  refine W.seq ?_
  refine W.seq ?_
  refine W.region ?_
  refine RL.q (Yld.move rfl) rfl ?_
  refine RL.q (Yld.nilP rfl) rfl ?_
  refine RL.q (Yld.fieldAddr fo108_1 rfl) rfl ?_
  refine RL.q (Yld.load1 (c := 1) Tryz.underlying45 rfl rfl rfl (by first | exact single_self _ _ | exact pset_self _ _ _ | assumption) rfl) rfl ?_
  refine RL.q (Yld.bin rfl rfl BinV.neq) rfl ?_
  refine RL.nil ?_
  refine N.next ?_
  refine W.keep (.cons (k := 0) rfl (.cons (k := 1) rfl (.cons (k := 11) rfl .nil))) (.cons (k := 0) rfl (.cons (k := 1) rfl (.cons (k := 2) rfl (.cons (k := 3) rfl (.cons (k := 4) rfl .nil))))) ?_
  first | refine W.condD rfl (fun hc11 => ?_) (fun hc11 => ?_) | (refine W.cond rfl (fun hc11 => ?_) (fun hc11 => ?_) <;> try simp only [Bool.or_eq_true, Bool.and_eq_true, Bool.not_eq_true', Bool.not_eq_false', decide_eq_true_eq, Bool.or_eq_false_iff, Bool.and_eq_false_iff, decide_eq_false_iff_not, beq_iff_eq, beq_eq_false_iff_ne, ne_eq, Decidable.not_not] at hc11)
  ·
    refine W.seq ?_
    refine W.region ?_
    refine RL.q (Yld.assign rfl) rfl ?_
    refine RL.nil ?_
    refine N.next ?_
    refine W.ret ?_
    refine N.then_ret ?_
    exact N.retBy [1, 2, 3, 4] (.cons (.tmp rfl) .nil) rfl rfl rfl rfl ⟨x, hx, .inl ⟨hc11, rfl, rfl, rfl⟩⟩
  ·
    refine W.skip ?_
    refine N.next ?_
    refine W.seq ?_
    refine W.region ?_
    refine RL.q (Yld.move rfl) rfl ?_
    refine RL.e (Eff.callV hent [1, 2, 3, 4] [1, 2, 3, 4] rfl .nil (hf (by omega)) rfl rfl rfl rfl (by rintro _ _ ⟨_, _, _, _, _, rfl⟩; rfl)) rfl ?_
    rintro _ _ ⟨_, ⟨y, hy, hye, hR, rfl, rfl⟩, rfl⟩
    refine RL.q (Yld.move rfl) rfl ?_
    refine RL.q (Yld.extract rfl rfl) rfl ?_
    refine RL.q (Yld.extract rfl rfl) rfl ?_
    refine RL.q (Yld.assign rfl) rfl ?_
    refine RL.q (Yld.assign rfl) rfl ?_
    refine RL.nil ?_
    refine N.next ?_
    refine W.keep (.cons (k := 0) rfl (.cons (k := 5) rfl (.cons (k := 6) rfl .nil))) (.cons (k := 0) rfl (.cons (k := 1) rfl (.cons (k := 2) rfl (.cons (k := 3) rfl (.cons (k := 4) rfl .nil))))) ?_
    refine W.seq ?_
    refine W.seq ?_
    refine W.region ?_
    refine RL.q (Yld.move rfl) rfl ?_
    refine RL.q (Yld.bin rfl rfl BinV.neq) rfl ?_
    refine RL.nil ?_
    refine N.next ?_
    first | refine W.condD rfl (fun hc18 => ?_) (fun hc18 => ?_) | (refine W.cond rfl (fun hc18 => ?_) (fun hc18 => ?_) <;> try simp only [Bool.or_eq_true, Bool.and_eq_true, Bool.not_eq_true', Bool.not_eq_false', decide_eq_true_eq, Bool.or_eq_false_iff, Bool.and_eq_false_iff, decide_eq_false_iff_not, beq_iff_eq, beq_eq_false_iff_ne, ne_eq, Decidable.not_not] at hc18)
    ·
      refine W.seq ?_
      refine W.region ?_
      refine RL.q (Yld.move rfl) rfl ?_
      refine RL.q (Yld.move rfl) rfl ?_
      refine RL.q (Yld.move rfl) rfl ?_
      refine RL.q (Yld.nilP rfl) rfl ?_
      refine RL.q (Yld.fieldAddr fo108_1 rfl) rfl ?_
      refine RL.e0 (Eff.storeS (c := 1) _ sz45 rfl rfl rfl rfl rfl rfl rfl (by (try simp only [putAt, List.take, List.drop, List.nil_append, List.cons_append, List.append_nil, List.length_cons, List.length_nil, Nat.add_zero, Nat.zero_add, Nat.reduceAdd]); rfl)) ?_
      rintro _ _ rfl
      refine RL.q (Yld.nilP rfl) rfl ?_
      refine RL.q (Yld.fieldAddr fo108_0 rfl) rfl ?_
      refine RL.e0 (Eff.storeS (c := 1) _ sz73 rfl rfl rfl rfl rfl rfl rfl (by (try simp only [putAt, List.take, List.drop, List.nil_append, List.cons_append, List.append_nil, List.length_cons, List.length_nil, Nat.add_zero, Nat.zero_add, Nat.reduceAdd]); rfl)) ?_
      rintro _ _ rfl
      refine RL.nil ?_
      refine N.next ?_
      refine W.keep .nil (.cons (k := 0) rfl (.cons (k := 1) rfl (.cons (k := 2) rfl (.cons (k := 3) rfl (.cons (k := 4) rfl .nil))))) ?_
      refine W.seq ?_
      refine W.region ?_
      refine RL.q (Yld.assign rfl) rfl ?_
      refine RL.nil ?_
      refine N.next ?_
      refine W.ret ?_
      refine N.then_ret ?_
      exact N.retBy [1, 2, 3, 4] (.cons (.tmp rfl) .nil) rfl rfl rfl rfl ⟨⟨none, 0, [], ne⟩, ⟨⟨rfl, rfl⟩, .nil⟩, .inr (.inl ⟨by omega, hc18, rfl, rfl, rfl, rfl⟩)⟩
    ·
      refine W.skip ?_
      refine N.next ?_
      refine W.keep (.cons (k := 5) rfl .nil) (.cons (k := 0) rfl (.cons (k := 1) rfl (.cons (k := 2) rfl (.cons (k := 3) rfl (.cons (k := 4) rfl .nil))))) ?_
      refine W.seq ?_
      refine W.region ?_
      refine RL.q (Yld.move rfl) rfl ?_
      refine RL.q (Yld.assign rfl) rfl ?_
      refine RL.nil ?_
      refine N.next ?_
      refine W.ret ?_
      exact N.retBy [1, 2, 3, 4] (.cons (.tmp rfl) .nil) rfl rfl rfl rfl ⟨y, hy, .inr (.inr ⟨by omega, by omega, by rw [hye]; omega, hR, rfl, rfl⟩)⟩

end Go.Proofs.YtdjmdfnhnlijiaaGreatDoor
