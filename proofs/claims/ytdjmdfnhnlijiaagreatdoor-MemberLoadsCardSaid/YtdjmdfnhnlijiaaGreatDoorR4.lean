/- The reference of wire: readers. Written by program (walk2.py). -/
import Derived.Test.YtdjmdfnhnlijiaaGreatDoorR2
namespace Go.Proofs.YtdjmdfnhnlijiaaGreatDoor
open SL Cfg
set_option linter.unusedVariables false
set_option linter.unusedSimpArgs false
theorem zc92 : zc Tryz.prog 92 [.slice none 0 0, .int .i64 0] := (by kernel_rfl : ((Tryz.prog.info? 92).bind (·.zero)).map (fun v => v.cells.toList) = some [.slice none 0 0, .int .i64 0])
theorem lay92 : layS Tryz.prog 92 = some ([.slice none 0 0, .int .i64 0], [(0, 1), (1, 1)]) := by kernel_rfl
theorem sz92 : sz Tryz.prog 92 2 := (by kernel_rfl : (Tryz.prog.info? 92).map (·.size) = some 2)
theorem fo92_1 : fieldOff Tryz.prog 92 1 = some 1 := by kernel_rfl
theorem fo92_0 : fieldOff Tryz.prog 92 0 = some 0 := by kernel_rfl
theorem ent102 : Ent Tryz.prog 102 := ⟨_, _, Tryz.func102, by kernel_rfl, rfl⟩
theorem ent101 : Ent Tryz.prog 101 := ⟨_, _, Tryz.func101, by kernel_rfl, rfl⟩
theorem Cfg.rdN_ok {s : RS} {n : Int} {r : List Int} (h0 : s.2 = 0) (h : decN s.1 = some (n, r)) : rdN s = (n, (r, 0)) := by
  obtain ⟨l, e⟩ := s
  subst h0
  exact rdN_some h
theorem Cfg.rdT_er {s : RS} (h : (rdN s).2.2 ≠ 0) : rdT s = ([], (rdN s).2) := by
  unfold rdN at h ⊢
  unfold rdT
  by_cases e : s.2 ≠ 0
  · rw [if_pos e, if_pos e]
  · rw [if_neg e] at h ⊢
    rw [if_neg e]
    rcases hd : decN s.1 with _ | ⟨n, r⟩
    · rfl
    · rw [hd] at h; exact absurd rfl h
theorem Cfg.rdC_er {s : RS} {m : Int} (h : (rdN s).2.2 ≠ 0) : rdC s m = (0, (rdN s).2) := by
  unfold rdN at h ⊢
  unfold rdC
  by_cases e : s.2 ≠ 0
  · rw [if_pos e, if_pos e]
  · rw [if_neg e] at h ⊢
    rw [if_neg e]
    rcases hd : decN s.1 with _ | ⟨n, r⟩
    · rfl
    · rw [hd] at h; exact absurd rfl h
theorem Cfg.rdT_ok {s : RS} (h : (rdN s).2.2 = 0) : rdT s = if ((rdN s).2.1.length : Int) < (rdN s).1 then ([], ([], 11)) else ((rdN s).2.1.take (rdN s).1.toNat, ((rdN s).2.1.drop (rdN s).1.toNat, 0)) := by
  unfold rdN at h ⊢
  unfold rdT
  by_cases e : s.2 ≠ 0
  · rw [if_pos e] at h; exact absurd h e
  · rw [if_neg e] at h ⊢
    rw [if_neg e]
    rcases hd : decN s.1 with _ | ⟨n, r⟩
    · rw [hd] at h; cases h
    · rfl
theorem Cfg.rdC_ok {s : RS} {m : Int} (h : (rdN s).2.2 = 0) : rdC s m = if m < 0 ∨ m < (rdN s).1 then (0, ([], 8)) else ((rdN s).1, ((rdN s).2.1, 0)) := by
  unfold rdN at h ⊢
  unfold rdC
  by_cases e : s.2 ≠ 0
  · rw [if_pos e] at h; exact absurd h e
  · rw [if_neg e] at h ⊢
    rw [if_neg e]
    rcases hd : decN s.1 with _ | ⟨n, r⟩
    · rw [hd] at h; cases h
    · rfl
theorem Cfg.drop_getD (l : List Int) : (l.drop 1).getD 0 0 = l.getD 1 0 := by simp [List.getD_eq_getElem?_getD, List.getElem?_drop]

set_option maxRecDepth 100000 in
set_option maxHeartbeats 400000 in
theorem rfail_ct (e : Int) : Ct Tryz.prog 102 [.int .i64 e] [] (fun v Hs => v = .agg [.slice none 0 0, .int .i64 e].toArray ∧ Hs = []) := by
  refine Ct.body Tryz.func102 rfl Tryz.ntmps102 rfl ?_
  intro E F
  refine W.seq ?_
  refine W.region ?_
  refine RL.e (Eff.alloc 102 zc92) rfl ?_
  rintro _ _ ⟨b2, rfl, rfl⟩
  refine RL.nil ?_
  refine N.next ?_
  refine W.seq ?_
  refine W.region ?_
  refine RL.q (Yld.move rfl) rfl ?_
  refine RL.q (Yld.buildP lay92 (.cons rfl rfl .nil) rfl) rfl ?_
  refine RL.e0 (Eff.storeS (c := 102) _ sz92 rfl rfl rfl rfl rfl rfl rfl (by (try simp only [putAt, List.take, List.drop, List.nil_append, List.cons_append, List.append_nil, List.length_cons, List.length_nil, Nat.add_zero, Nat.zero_add, Nat.reduceAdd]); rfl)) ?_
  rintro _ _ rfl
  refine RL.nil ?_
  refine N.next ?_
  refine W.ret ?_
  exact N.retBy [] (.cons (by first | exact .cell (c := 102) rfl rfl (fun w hs => run_loadVarA Tryz.underlying92 rfl sz92 rfl (fun j u hj => by rw [Nat.zero_add, PH.sub.cell hs (by first | exact single_self _ _ | exact pset_self _ _ _ | assumption)]; exact hj))) .nil) rfl rfl rfl rfl ⟨rfl, rfl⟩

set_option maxRecDepth 100000 in
set_option maxHeartbeats 3200000 in
theorem rgetN_ct (x : Rd) (H1 : PH) (hx : x.In H1) : Ct Tryz.prog 101 [.agg [.slice x.p x.l.length x.c, .int .i64 x.e].toArray] [H1] (fun v Hs => ∃ y : Rd, y.In H1 ∧ y.s = (rdN x.s).2 ∧ v = .tuple #[.agg [.slice y.p y.l.length y.c, .int .i64 y.e].toArray, .int .u64 (rdN x.s).1] ∧ Hs = [H1]) := by
  refine Ct.body Tryz.func101 rfl Tryz.ntmps101 rfl ?_
  intro E F
  have hmx := hx.sl.len_le
  simp only [bz_len, maxLen] at hmx
  have hxs := hx.sl
  have hbt := hx.byt
  have hhb := byt_getD hx.byt 0
  have hb1b := byt_getD hx.byt 1
  obtain ⟨hd, hhd⟩ : ∃ z, x.l.getD 0 0 = z := ⟨_, rfl⟩
  rw [hhd] at hhb
  obtain ⟨sb, hb1⟩ : ∃ z, x.l.getD 1 0 = z := ⟨_, rfl⟩
  rw [hb1] at hb1b
  have hdl : (x.l.drop 1).length = x.l.length - 1 := List.length_drop
  refine W.seq ?_
  refine W.region ?_
  refine RL.e (Eff.box 101 _ rfl rfl) rfl ?_
  rintro _ _ ⟨b1, rfl, rfl⟩
  refine RL.e (Eff.alloc 102 zc92) rfl ?_
  rintro _ _ ⟨b2, rfl, rfl⟩
  refine RL.q (Yld.assign rfl) rfl ?_
  refine RL.nil ?_
  refine N.next ?_
  refine W.seq ?_
  refine W.seq ?_
  refine W.region ?_
  refine RL.q (Yld.fieldAddr fo92_1 rfl) rfl ?_
  refine RL.q (Yld.load1 (c := 101) Tryz.underlying45 rfl rfl rfl (by first | exact single_self _ _ | exact pset_self _ _ _ | assumption) rfl) rfl ?_
  refine RL.q (Yld.bin rfl rfl BinV.neq) rfl ?_
  refine RL.nil ?_
  refine N.next ?_
  refine W.keep (.cons (k := 1) rfl (.cons (k := 2) rfl (.cons (k := 9) rfl .nil))) (.cons (k := 0) rfl (.cons (k := 1) rfl (.cons (k := 101) rfl (.cons (k := 102) rfl .nil)))) ?_
  first | refine W.condD rfl (fun hc9 => ?_) (fun hc9 => ?_) | (refine W.cond rfl (fun hc9 => ?_) (fun hc9 => ?_) <;> try simp only [Bool.or_eq_true, Bool.and_eq_true, Bool.not_eq_true', Bool.not_eq_false', decide_eq_true_eq, Bool.or_eq_false_iff, Bool.and_eq_false_iff, decide_eq_false_iff_not, beq_iff_eq, beq_eq_false_iff_ne, ne_eq, Decidable.not_not] at hc9)
  ·
    refine W.seq ?_
    refine W.region ?_
    refine RL.q (Yld.loadW (c := 101) Tryz.underlying92 rfl sz92 rfl rfl (by first | exact single_self _ _ | exact pset_self _ _ _ | assumption) rfl) rfl ?_
    refine RL.e0 (Eff.storeS (c := 102) _ sz92 rfl rfl rfl rfl rfl rfl rfl (by (try simp only [putAt, List.take, List.drop, List.nil_append, List.cons_append, List.append_nil, List.length_cons, List.length_nil, Nat.add_zero, Nat.zero_add, Nat.reduceAdd]); rfl)) ?_
    rintro _ _ rfl
    refine RL.q (Yld.assign rfl) rfl ?_
    refine RL.nil ?_
    refine N.next ?_
    refine W.ret ?_
    refine N.then_ret ?_
    exact N.retBy [1] (.cons (by first | exact .cell (c := 102) rfl rfl (fun w hs => run_loadVarA Tryz.underlying92 rfl sz92 rfl (fun j u hj => by rw [Nat.zero_add, PH.sub.cell hs (by first | exact single_self _ _ | exact pset_self _ _ _ | assumption)]; exact hj))) (.cons (.tmp rfl) .nil)) rfl rfl rfl rfl ⟨x, hx, by rw [show x.s = (x.l, x.e) from rfl, rdN_err hc9], by rw [show x.s = (x.l, x.e) from rfl, rdN_err hc9]; rfl, rfl⟩
  ·
    have he0 : x.e = 0 := by simpa using hc9
    refine W.skip ?_
    refine N.next ?_
    refine W.seq ?_
    refine W.seq ?_
    refine W.draw (.q 0 (.q 1 (.q 2 (.q 3 (.q 4 (.q 5 (.q 6 (.q 7 (.q 8 (.q 9 (.q 10 (.q 11 (.q 12 (.q 13 (.q 14 (.q 15 (.q 16 (.q 17 (.q 18 (.q 19 (.q 20 (.q 21 (.q 22 .done))))))))))))))))))))))) (.cons (k := 0) rfl (.cons (k := 1) rfl (.cons (k := 101) rfl (.cons (k := 102) rfl .nil)))) mix (by kernel_rfl) (by kernel_rfl) ?_
    refine DL.q rfl (Yld.fieldAddr fo92_0 rfl) rfl ?_
    refine DL.q rfl (Yld.load1 (c := 101) Tryz.underlying73 rfl rfl rfl (by first | exact single_self _ _ | exact pset_self _ _ _ | assumption) rfl) rfl ?_
    refine DL.q rfl (Yld.lenSl Tryz.underlying73 rfl) rfl ?_
    refine DL.q rfl (Yld.bin rfl rfl BinV.eql) rfl ?_
    refine DL.q rfl (Yld.move rfl) rfl ?_
    refine' DL.or (t := 15) (d := 21) 6 rfl (.cons (k := 1) rfl (.cons (k := 2) rfl (.cons (k := 9) rfl (.cons (k := 11) rfl (.cons (k := 12) rfl (.cons (k := 13) rfl (.cons (k := 14) rfl .nil))))))) (.cons (k := 0) rfl (.cons (k := 1) rfl (.cons (k := 101) rfl (.cons (k := 102) rfl .nil)))) ?_ ?_ ?_
    rotate_left 1
    ·
      intro hg15
      have hg15 := of_decide_eq_false hg15
      have hl0 : (bz x.l)[(0 : Int).toNat]? = some [.int .u8 hd] := bz_get (by rw [← hhd, List.getD_eq_getElem?_getD]; rw [show (0 : Int).toNat = 0 from rfl, List.getElem?_eq_getElem (show 0 < x.l.length by omega)]; rfl)
      refine DL.gq rfl rfl rfl (Yld.fieldAddr fo92_0 rfl) rfl ?_
      refine DL.gq rfl rfl rfl (Yld.load1 (c := 101) Tryz.underlying73 rfl rfl rfl (by first | exact single_self _ _ | exact pset_self _ _ _ | assumption) rfl) rfl ?_
      refine DL.gq rfl rfl rfl (Yld.indexRow Tryz.underlying73 sz5 rfl rfl (by first | assumption | exact Own.sl (by assumption)) (by first | rfl | omega | (simp; done) | (simp; omega)) (by omega) (by first | omega | (simp; done) | (simp; omega))) rfl ?_
      refine DL.gq rfl rfl rfl (by first | exact (by first | exact Yld.loadRow1 (cl := 102) Tryz.underlying5 rfl rfl rfl (by first | assumption | exact Own.sl (by assumption)) (by assumption) | exact Yld.loadRow1 (cl := 101) Tryz.underlying5 rfl rfl rfl (by first | assumption | exact Own.sl (by assumption)) (by assumption) | exact Yld.loadRow1 (cl := 1) Tryz.underlying5 rfl rfl rfl (by first | assumption | exact Own.sl (by assumption)) (by assumption)) | exact (by first | exact Yld.loadRowF (cl := 102) (j := 0) Tryz.underlying5 rfl rfl rfl (by first | assumption | exact Own.sl (by assumption)) (by assumption) rfl | exact Yld.loadRowF (cl := 101) (j := 0) Tryz.underlying5 rfl rfl rfl (by first | assumption | exact Own.sl (by assumption)) (by assumption) rfl | exact Yld.loadRowF (cl := 1) (j := 0) Tryz.underlying5 rfl rfl rfl (by first | assumption | exact Own.sl (by assumption)) (by assumption) rfl)) rfl ?_
      refine DL.gq rfl rfl rfl (Yld.bin rfl rfl BinV.gtr) rfl ?_
      refine DL.q rfl (by first | exact Yld.pickT rfl rfl | exact Yld.pickF rfl rfl) rfl ?_
      exact DL.meet (.cons rfl (.cons rfl (.cons rfl (.cons rfl (.cons rfl (.cons rfl (.cons rfl (.cons rfl .nil)))))))) (.cons rfl (.cons rfl (.cons rfl (.cons rfl .nil))))
    ·
      intro hg15
      refine DL.gskip rfl rfl rfl rfl rfl ?_
      refine DL.gskip rfl rfl rfl rfl rfl ?_
      refine DL.gskip rfl rfl rfl rfl rfl ?_
      refine DL.gskip rfl rfl rfl rfl rfl ?_
      refine DL.gskip rfl rfl rfl rfl rfl ?_
      refine DL.q rfl (by first | exact Yld.pickT rfl rfl | exact Yld.pickF rfl rfl) rfl ?_
      exact DL.meet (.cons rfl (.cons rfl (.cons rfl (.cons rfl (.cons rfl (.cons rfl (.cons rfl (.cons rfl .nil)))))))) (.cons rfl (.cons rfl (.cons rfl (.cons rfl .nil))))
    refine DL.q rfl (Yld.move rfl) rfl ?_
    refine' DL.or (t := 22) (d := 33) 11 rfl (.cons (k := 1) rfl (.cons (k := 2) rfl (.cons (k := 9) rfl (.cons (k := 11) rfl (.cons (k := 12) rfl (.cons (k := 13) rfl (.cons (k := 14) rfl (.cons (k := 21) rfl .nil)))))))) (.cons (k := 0) rfl (.cons (k := 1) rfl (.cons (k := 101) rfl (.cons (k := 102) rfl .nil)))) ?_ ?_ ?_
    rotate_left 1
    ·
      intro hg22
      have hg22x := hg22
      rw [Bool.or_eq_false_iff, decide_eq_false_iff_not, decide_eq_false_iff_not] at hg22x
      have hl0 : (bz x.l)[(0 : Int).toNat]? = some [.int .u8 hd] := bz_get (by rw [← hhd, List.getD_eq_getElem?_getD]; rw [show (0 : Int).toNat = 0 from rfl, List.getElem?_eq_getElem (show 0 < x.l.length by omega)]; rfl)
      refine DL.gq rfl rfl rfl (Yld.fieldAddr fo92_0 rfl) rfl ?_
      refine DL.gq rfl rfl rfl (Yld.load1 (c := 101) Tryz.underlying73 rfl rfl rfl (by first | exact single_self _ _ | exact pset_self _ _ _ | assumption) rfl) rfl ?_
      refine DL.gq rfl rfl rfl (Yld.lenSl Tryz.underlying73 rfl) rfl ?_
      refine DL.gq rfl rfl rfl (Yld.fieldAddr fo92_0 rfl) rfl ?_
      refine DL.gq rfl rfl rfl (Yld.load1 (c := 101) Tryz.underlying73 rfl rfl rfl (by first | exact single_self _ _ | exact pset_self _ _ _ | assumption) rfl) rfl ?_
      refine DL.gq rfl rfl rfl (Yld.indexRow Tryz.underlying73 sz5 rfl rfl (by first | assumption | exact Own.sl (by assumption)) (by first | rfl | omega | (simp; done) | (simp; omega)) (by omega) (by first | omega | (simp; done) | (simp; omega))) rfl ?_
      refine DL.gq rfl rfl rfl (by first | exact (by first | exact Yld.loadRow1 (cl := 102) Tryz.underlying5 rfl rfl rfl (by first | assumption | exact Own.sl (by assumption)) (by assumption) | exact Yld.loadRow1 (cl := 101) Tryz.underlying5 rfl rfl rfl (by first | assumption | exact Own.sl (by assumption)) (by assumption) | exact Yld.loadRow1 (cl := 1) Tryz.underlying5 rfl rfl rfl (by first | assumption | exact Own.sl (by assumption)) (by assumption)) | exact (by first | exact Yld.loadRowF (cl := 102) (j := 0) Tryz.underlying5 rfl rfl rfl (by first | assumption | exact Own.sl (by assumption)) (by assumption) rfl | exact Yld.loadRowF (cl := 101) (j := 0) Tryz.underlying5 rfl rfl rfl (by first | assumption | exact Own.sl (by assumption)) (by assumption) rfl | exact Yld.loadRowF (cl := 1) (j := 0) Tryz.underlying5 rfl rfl rfl (by first | assumption | exact Own.sl (by assumption)) (by assumption) rfl)) rfl ?_
      refine DL.gq rfl rfl rfl (Yld.convIs Tryz.underlying5 Tryz.underlying3 rfl (by first | exact IntWalk.i64_in _ ⟨by omega, by omega⟩ | rfl)) rfl ?_
      refine DL.gq rfl rfl rfl (Yld.bin rfl rfl (by first | exact BinV.add (by omega) (by omega) | exact BinV.addW)) rfl ?_
      refine DL.gq rfl rfl rfl (Yld.bin rfl rfl BinV.lss) rfl ?_
      refine DL.q rfl (by first | exact Yld.pickT rfl rfl | exact Yld.pickF rfl rfl) rfl ?_
      exact DL.meet (.cons rfl (.cons rfl (.cons rfl (.cons rfl (.cons rfl (.cons rfl (.cons rfl (.cons rfl (.cons rfl .nil))))))))) (.cons rfl (.cons rfl (.cons rfl (.cons rfl .nil))))
    ·
      intro hg22
      refine DL.gskip rfl rfl rfl rfl rfl ?_
      refine DL.gskip rfl rfl rfl rfl rfl ?_
      refine DL.gskip rfl rfl rfl rfl rfl ?_
      refine DL.gskip rfl rfl rfl rfl rfl ?_
      refine DL.gskip rfl rfl rfl rfl rfl ?_
      refine DL.gskip rfl rfl rfl rfl rfl ?_
      refine DL.gskip rfl rfl rfl rfl rfl ?_
      refine DL.gskip rfl rfl rfl rfl rfl ?_
      refine DL.gskip rfl rfl rfl rfl rfl ?_
      refine DL.gskip rfl rfl rfl rfl rfl ?_
      refine DL.q rfl (by first | exact Yld.pickT rfl rfl | exact Yld.pickF rfl rfl) rfl ?_
      exact DL.meet (.cons rfl (.cons rfl (.cons rfl (.cons rfl (.cons rfl (.cons rfl (.cons rfl (.cons rfl (.cons rfl .nil))))))))) (.cons rfl (.cons rfl (.cons rfl (.cons rfl .nil))))
    refine DL.done ?_
    refine N.next ?_
    refine W.keep (.cons (k := 1) rfl (.cons (k := 2) rfl (.cons (k := 33) rfl .nil))) (.cons (k := 0) rfl (.cons (k := 1) rfl (.cons (k := 101) rfl (.cons (k := 102) rfl .nil)))) ?_
    first | refine W.condD rfl (fun hc33 => ?_) (fun hc33 => ?_) | (refine W.cond rfl (fun hc33 => ?_) (fun hc33 => ?_) <;> try simp only [Bool.or_eq_true, Bool.and_eq_true, Bool.not_eq_true', Bool.not_eq_false', decide_eq_true_eq, Bool.or_eq_false_iff, Bool.and_eq_false_iff, decide_eq_false_iff_not, beq_iff_eq, beq_eq_false_iff_ne, ne_eq, Decidable.not_not] at hc33)
    ·
      have hnone : decN x.l = none := by
        by_cases e : 1 ≤ x.l.length
        · by_cases e8 : 8 < hd
          · exact decN_big (by rw [hhd]; exact e8)
          · exact decN_short' (by rw [hhd]; omega)
        · exact decN_nil e
      refine W.seq ?_
      refine W.region ?_
      refine RL.e (Eff.call ent102 [] [] (.cons rfl .nil) (rfail_ct 11) rfl rfl rfl rfl (by rintro _ _ ⟨_, rfl⟩; rfl)) rfl ?_
      rintro _ _ ⟨_, ⟨rfl, rfl⟩, rfl⟩
      refine RL.e0 (Eff.storeS (c := 102) _ sz92 rfl rfl rfl rfl rfl rfl rfl (by (try simp only [putAt, List.take, List.drop, List.nil_append, List.cons_append, List.append_nil, List.length_cons, List.length_nil, Nat.add_zero, Nat.zero_add, Nat.reduceAdd]); rfl)) ?_
      rintro _ _ rfl
      refine RL.q (Yld.assign rfl) rfl ?_
      refine RL.nil ?_
      refine N.next ?_
      refine W.ret ?_
      refine N.then_ret ?_
      exact N.retBy [1] (.cons (by first | exact .cell (c := 102) rfl rfl (fun w hs => run_loadVarA Tryz.underlying92 rfl sz92 rfl (fun j u hj => by rw [Nat.zero_add, PH.sub.cell hs (by first | exact single_self _ _ | exact pset_self _ _ _ | assumption)]; exact hj))) (.cons (.tmp rfl) .nil)) rfl rfl rfl rfl ⟨⟨none, 0, [], 11⟩, ⟨⟨rfl, rfl⟩, .nil⟩, by rw [show x.s = (x.l, x.e) from rfl, he0, rdN_none hnone]; rfl, by rw [show x.s = (x.l, x.e) from rfl, he0, rdN_none hnone]; rfl, rfl⟩
    ·
      have h33 : 1 ≤ x.l.length ∧ hd ≤ 8 ∧ 1 + hd ≤ (x.l.length : Int) := by omega
      obtain ⟨h1n, hh8, hok⟩ := h33
      have hl0 : (bz x.l)[(0 : Int).toNat]? = some [.int .u8 hd] := bz_get (by rw [← hhd, List.getD_eq_getElem?_getD]; rw [show (0 : Int).toNat = 0 from rfl, List.getElem?_eq_getElem (show 0 < x.l.length by omega)]; rfl)
      refine W.skip ?_
      refine N.next ?_
      refine W.seq ?_
      refine W.region ?_
      refine RL.q (Yld.fieldAddr fo92_0 rfl) rfl ?_
      refine RL.q (Yld.load1 (c := 101) Tryz.underlying73 rfl rfl rfl (by first | exact single_self _ _ | exact pset_self _ _ _ | assumption) rfl) rfl ?_
      refine RL.q (Yld.indexRow Tryz.underlying73 sz5 rfl rfl (by first | assumption | exact Own.sl (by assumption)) (by first | rfl | omega | (simp; done) | (simp; omega)) (by omega) (by first | omega | (simp; done) | (simp; omega))) rfl ?_
      refine RL.q (by first | exact (by first | exact Yld.loadRow1 (cl := 102) Tryz.underlying5 rfl rfl rfl (by first | assumption | exact Own.sl (by assumption)) (by assumption) | exact Yld.loadRow1 (cl := 101) Tryz.underlying5 rfl rfl rfl (by first | assumption | exact Own.sl (by assumption)) (by assumption) | exact Yld.loadRow1 (cl := 1) Tryz.underlying5 rfl rfl rfl (by first | assumption | exact Own.sl (by assumption)) (by assumption)) | exact (by first | exact Yld.loadRowF (cl := 102) (j := 0) Tryz.underlying5 rfl rfl rfl (by first | assumption | exact Own.sl (by assumption)) (by assumption) rfl | exact Yld.loadRowF (cl := 101) (j := 0) Tryz.underlying5 rfl rfl rfl (by first | assumption | exact Own.sl (by assumption)) (by assumption) rfl | exact Yld.loadRowF (cl := 1) (j := 0) Tryz.underlying5 rfl rfl rfl (by first | assumption | exact Own.sl (by assumption)) (by assumption) rfl)) rfl ?_
      refine RL.q (Yld.convIs Tryz.underlying5 Tryz.underlying3 rfl (by first | exact IntWalk.i64_in _ ⟨by omega, by omega⟩ | rfl)) rfl ?_
      refine RL.q (Yld.assign rfl) rfl ?_
      refine RL.nil ?_
      refine N.next ?_
      refine W.keep (.cons (k := 1) rfl (.cons (k := 2) rfl (.cons (k := 4) rfl .nil))) (.cons (k := 0) rfl (.cons (k := 1) rfl (.cons (k := 101) rfl (.cons (k := 102) rfl .nil)))) ?_
      refine W.seq ?_
      refine W.seq ?_
      refine W.region ?_
      refine RL.q (Yld.move rfl) rfl ?_
      refine RL.q (Yld.bin rfl rfl BinV.gtr) rfl ?_
      refine RL.q (Yld.move rfl) rfl ?_
      refine' RL.and (t := 42) (d := 48) 6 rfl (.cons (k := 1) rfl (.cons (k := 2) rfl (.cons (k := 4) rfl (.cons (k := 40) rfl (.cons (k := 41) rfl .nil))))) (.cons (k := 0) rfl (.cons (k := 1) rfl (.cons (k := 101) rfl (.cons (k := 102) rfl .nil)))) ?_ ?_ ?_
      rotate_left 1
      ·
        intro hg42
        have hg42 := of_decide_eq_true hg42
        have hl1 : (bz x.l)[(1 : Int).toNat]? = some [.int .u8 sb] := bz_get (by rw [← hb1, List.getD_eq_getElem?_getD]; rw [show (1 : Int).toNat = 1 from rfl, List.getElem?_eq_getElem (show 1 < x.l.length by omega)]; rfl)
        refine RL.gq rfl rfl (Yld.fieldAddr fo92_0 rfl) rfl ?_
        refine RL.gq rfl rfl (Yld.load1 (c := 101) Tryz.underlying73 rfl rfl rfl (by first | exact single_self _ _ | exact pset_self _ _ _ | assumption) rfl) rfl ?_
        refine RL.gq rfl rfl (Yld.indexRow Tryz.underlying73 sz5 rfl rfl (by first | assumption | exact Own.sl (by assumption)) (by first | rfl | omega | (simp; done) | (simp; omega)) (by omega) (by first | omega | (simp; done) | (simp; omega))) rfl ?_
        refine RL.gq rfl rfl (by first | exact (by first | exact Yld.loadRow1 (cl := 102) Tryz.underlying5 rfl rfl rfl (by first | assumption | exact Own.sl (by assumption)) (by assumption) | exact Yld.loadRow1 (cl := 101) Tryz.underlying5 rfl rfl rfl (by first | assumption | exact Own.sl (by assumption)) (by assumption) | exact Yld.loadRow1 (cl := 1) Tryz.underlying5 rfl rfl rfl (by first | assumption | exact Own.sl (by assumption)) (by assumption)) | exact (by first | exact Yld.loadRowF (cl := 102) (j := 0) Tryz.underlying5 rfl rfl rfl (by first | assumption | exact Own.sl (by assumption)) (by assumption) rfl | exact Yld.loadRowF (cl := 101) (j := 0) Tryz.underlying5 rfl rfl rfl (by first | assumption | exact Own.sl (by assumption)) (by assumption) rfl | exact Yld.loadRowF (cl := 1) (j := 0) Tryz.underlying5 rfl rfl rfl (by first | assumption | exact Own.sl (by assumption)) (by assumption) rfl)) rfl ?_
        refine RL.gq rfl rfl (Yld.bin rfl rfl BinV.eql) rfl ?_
        refine RL.q (by first | exact Yld.pickT rfl rfl | exact Yld.pickF rfl rfl) rfl ?_
        exact RL.nil (N.meet (.cons rfl (.cons rfl (.cons rfl (.cons rfl (.cons rfl (.cons rfl .nil)))))) (.cons rfl (.cons rfl (.cons rfl (.cons rfl .nil)))))
      ·
        intro hg42
        refine RL.gskip rfl rfl rfl rfl ?_
        refine RL.gskip rfl rfl rfl rfl ?_
        refine RL.gskip rfl rfl rfl rfl ?_
        refine RL.gskip rfl rfl rfl rfl ?_
        refine RL.gskip rfl rfl rfl rfl ?_
        refine RL.q (by first | exact Yld.pickT rfl rfl | exact Yld.pickF rfl rfl) rfl ?_
        exact RL.nil (N.meet (.cons rfl (.cons rfl (.cons rfl (.cons rfl (.cons rfl (.cons rfl .nil)))))) (.cons rfl (.cons rfl (.cons rfl (.cons rfl .nil)))))
      refine RL.nil ?_
      refine N.next ?_
      first | refine W.condD rfl (fun hc48 => ?_) (fun hc48 => ?_) | (refine W.cond rfl (fun hc48 => ?_) (fun hc48 => ?_) <;> try simp only [Bool.or_eq_true, Bool.and_eq_true, Bool.not_eq_true', Bool.not_eq_false', decide_eq_true_eq, Bool.or_eq_false_iff, Bool.and_eq_false_iff, decide_eq_false_iff_not, beq_iff_eq, beq_eq_false_iff_ne, ne_eq, Decidable.not_not] at hc48)
      ·
        have hnone : decN x.l = none := decN_zero (by rw [hhd]; omega) (by rw [hhd, hdl]; omega) (by rw [drop_getD, hb1]; omega)
        refine W.seq ?_
        refine W.region ?_
        refine RL.e (Eff.call ent102 [] [] (.cons rfl .nil) (rfail_ct 11) rfl rfl rfl rfl (by rintro _ _ ⟨_, rfl⟩; rfl)) rfl ?_
        rintro _ _ ⟨_, ⟨rfl, rfl⟩, rfl⟩
        refine RL.e0 (Eff.storeS (c := 102) _ sz92 rfl rfl rfl rfl rfl rfl rfl (by (try simp only [putAt, List.take, List.drop, List.nil_append, List.cons_append, List.append_nil, List.length_cons, List.length_nil, Nat.add_zero, Nat.zero_add, Nat.reduceAdd]); rfl)) ?_
        rintro _ _ rfl
        refine RL.q (Yld.assign rfl) rfl ?_
        refine RL.nil ?_
        refine N.next ?_
        refine W.keep (.cons (k := 2) rfl (.cons (k := 3) rfl .nil)) (.cons (k := 0) rfl (.cons (k := 1) rfl (.cons (k := 101) rfl (.cons (k := 102) rfl .nil)))) ?_
        refine W.ret ?_
        refine N.then_ret ?_
        exact N.retBy [1] (.cons (by first | exact .cell (c := 102) rfl rfl (fun w hs => run_loadVarA Tryz.underlying92 rfl sz92 rfl (fun j u hj => by rw [Nat.zero_add, PH.sub.cell hs (by first | exact single_self _ _ | exact pset_self _ _ _ | assumption)]; exact hj))) (.cons (.tmp rfl) .nil)) rfl rfl rfl rfl ⟨⟨none, 0, [], 11⟩, ⟨⟨rfl, rfl⟩, .nil⟩, by rw [show x.s = (x.l, x.e) from rfl, he0, rdN_none hnone]; rfl, by rw [show x.s = (x.l, x.e) from rfl, he0, rdN_none hnone]; rfl, rfl⟩
      ·
        have hsome := decN_some h1n (by rw [hhd]; exact hh8) (by rw [hhd, hdl]; omega) (by rw [drop_getD, hhd, hb1]; rintro ⟨g1, g2⟩; omega)
        rw [hhd] at hsome
        have hbb := hbt.drop 1
        obtain ⟨hyI, hye⟩ := hx.take (1 + hd) (by omega)
        have hrn := rdN_ok (s := x.s) he0 hsome
        refine W.skip ?_
        refine N.next ?_
        refine W.seq ?_
        refine W.region ?_
        refine RL.q (Yld.assign rfl) rfl ?_
        refine RL.nil ?_
        refine N.next ?_
        refine W.seq ?_
        refine W.seq ?_
        refine W.region ?_
        refine RL.q (Yld.assign rfl) rfl ?_
        refine RL.nil ?_
        refine N.next ?_
        refine W.block ?_
        refine W.loopK (ι := Nat) (fun j => (j ≤ hd.toNat)) (fun j => [(5, .int .u64 (val ((x.l.drop 1).take j))), (6, .int .i64 ((j : Nat) + 1 : Int))]) (fun j => []) (fun j => hd.toNat - j) (.cons (k := 1) rfl (.cons (k := 2) rfl (.cons (k := 4) rfl .nil))) (.cons (k := 0) rfl (.cons (k := 1) rfl (.cons (k := 101) rfl (.cons (k := 102) rfl .nil)))) 0 ?_ ?_ ?_ ?_
        · exact Nat.zero_le _
        · exact (.as rfl (by first | rfl | (simp; done) | (congr 1; simp; done) | (congr 1; omega)) (.as rfl (by first | rfl | (simp; done) | (congr 1; simp; done) | (congr 1; omega)) .nil))
        · exact .nil
        rintro j hj
        refine W.keep (.cons (k := 5) rfl (.cons (k := 6) rfl (.cons (k := 1) rfl (.cons (k := 2) rfl (.cons (k := 4) rfl .nil))))) (.cons (k := 0) rfl (.cons (k := 1) rfl (.cons (k := 101) rfl (.cons (k := 102) rfl .nil)))) ?_
        refine W.seq ?_
        refine W.seq ?_
        refine W.region ?_
        refine RL.q (Yld.move rfl) rfl ?_
        refine RL.q (Yld.move rfl) rfl ?_
        refine RL.q (Yld.bin rfl rfl BinV.leq) rfl ?_
        refine RL.nil ?_
        refine N.next ?_
        first | refine W.condD rfl (fun hc52 => ?_) (fun hc52 => ?_) | (refine W.cond rfl (fun hc52 => ?_) (fun hc52 => ?_) <;> try simp only [Bool.or_eq_true, Bool.and_eq_true, Bool.not_eq_true', Bool.not_eq_false', decide_eq_true_eq, Bool.or_eq_false_iff, Bool.and_eq_false_iff, decide_eq_false_iff_not, beq_iff_eq, beq_eq_false_iff_ne, ne_eq, Decidable.not_not] at hc52)
        ·
          obtain ⟨z, hz⟩ : ∃ z, (x.l.drop 1)[j]? = some z := ⟨_, List.getElem?_eq_getElem (show j < (x.l.drop 1).length by omega)⟩
          have hzb := hbb z (List.mem_of_getElem? hz)
          have hvs := val_small hbb (show j ≤ 7 by omega)
          have hlz : (bz x.l)[(((j : Nat) : Int) + 1).toNat]? = some [.int .u8 z] := bz_get (by rw [List.getElem?_drop] at hz; rw [← hz]; congr 1; omega)
          refine W.skip ?_
          refine N.next ?_
          refine W.seq ?_
          refine W.block ?_
          refine W.region ?_
          refine RL.q (Yld.move rfl) rfl ?_
          refine RL.q (Yld.bin rfl rfl (by first | exact BinV.mulE (IntWalk.u64_in _ ⟨by omega, by omega⟩) | exact BinV.mulW)) rfl ?_
          refine RL.q (Yld.fieldAddr fo92_0 rfl) rfl ?_
          refine RL.q (Yld.load1 (c := 101) Tryz.underlying73 rfl rfl rfl (by first | exact single_self _ _ | exact pset_self _ _ _ | assumption) rfl) rfl ?_
          refine RL.q (Yld.move rfl) rfl ?_
          refine RL.q (Yld.indexRow Tryz.underlying73 sz5 rfl rfl (by first | assumption | exact Own.sl (by assumption)) (by first | rfl | omega | (simp; done) | (simp; omega)) (by omega) (by first | omega | (simp; done) | (simp; omega))) rfl ?_
          refine RL.q (by first | exact (by first | exact Yld.loadRow1 (cl := 1) Tryz.underlying5 rfl rfl rfl (by first | assumption | exact Own.sl (by assumption)) (by assumption) | exact Yld.loadRow1 (cl := 101) Tryz.underlying5 rfl rfl rfl (by first | assumption | exact Own.sl (by assumption)) (by assumption) | exact Yld.loadRow1 (cl := 102) Tryz.underlying5 rfl rfl rfl (by first | assumption | exact Own.sl (by assumption)) (by assumption)) | exact (by first | exact Yld.loadRowF (cl := 1) (j := 0) Tryz.underlying5 rfl rfl rfl (by first | assumption | exact Own.sl (by assumption)) (by assumption) rfl | exact Yld.loadRowF (cl := 101) (j := 0) Tryz.underlying5 rfl rfl rfl (by first | assumption | exact Own.sl (by assumption)) (by assumption) rfl | exact Yld.loadRowF (cl := 102) (j := 0) Tryz.underlying5 rfl rfl rfl (by first | assumption | exact Own.sl (by assumption)) (by assumption) rfl)) rfl ?_
          refine RL.q (Yld.convIs Tryz.underlying5 Tryz.underlying82 rfl (by first | exact IntWalk.u64_in _ ⟨by omega, by omega⟩ | rfl)) rfl ?_
          refine RL.q (Yld.eq (v' := .int .u64 (val ((x.l.drop 1).take (j + 1)))) (Yld.bin rfl rfl (by first | exact BinV.addE (IntWalk.u64_in _ ⟨by omega, by omega⟩) | exact BinV.addW)) (by rw [val_snoc_take hz])) rfl ?_
          refine RL.q (Yld.assign rfl) rfl ?_
          refine RL.nil ?_
          refine N.block_normal ?_
          refine N.next ?_
          refine W.keep (.cons (k := 1) rfl (.cons (k := 2) rfl (.cons (k := 4) rfl (.cons (k := 5) rfl (.cons (k := 6) rfl .nil))))) (.cons (k := 0) rfl (.cons (k := 1) rfl (.cons (k := 101) rfl (.cons (k := 102) rfl .nil)))) ?_
          refine W.region ?_
          refine RL.q (Yld.move rfl) rfl ?_
          refine RL.q (Yld.bin rfl rfl (by first | exact BinV.add (by omega) (by omega) | exact BinV.addW)) rfl ?_
          refine RL.q (Yld.assign rfl) rfl ?_
          refine RL.nil ?_
          exact N.famK (j + 1) ⟨by omega, by omega⟩ (.as rfl (by first | rfl | (simp; done) | (congr 1; simp; done) | (congr 1; omega)) (.as rfl (by first | rfl | (simp; done) | (congr 1; simp; done) | (congr 1; omega)) .nil)) (.cons rfl (.cons rfl (.cons rfl .nil))) .nil (.cons rfl (.cons rfl (.cons rfl (.cons rfl .nil))))
        ·
          have hj8 : j = hd.toNat := by omega
          refine W.exit ?_
          refine N.then_exit ?_
          refine N.then_exit ?_
          refine N.block_eq ?_
          refine N.next ?_
          refine W.keep (.cons (k := 1) rfl (.cons (k := 2) rfl (.cons (k := 4) rfl (.cons (k := 5) rfl .nil)))) (.cons (k := 0) rfl (.cons (k := 1) rfl (.cons (k := 101) rfl (.cons (k := 102) rfl .nil)))) ?_
          refine W.seq ?_
          refine W.region ?_
          refine RL.q (Yld.fieldAddr fo92_0 rfl) rfl ?_
          refine RL.q (Yld.load1 (c := 101) Tryz.underlying73 rfl rfl rfl (by first | exact single_self _ _ | exact pset_self _ _ _ | assumption) rfl) rfl ?_
          refine RL.q (Yld.move rfl) rfl ?_
          refine RL.q (Yld.bin rfl rfl (by first | exact BinV.add (by omega) (by omega) | exact BinV.addW)) rfl ?_
          refine RL.q (Yld.sliceL Tryz.underlying73 sz5 rfl rfl (by omega) (by first | omega | (simp; done) | (simp; omega))) rfl ?_
          refine RL.q (Yld.fieldAddr fo92_0 rfl) rfl ?_
          refine RL.e0 (Eff.storeS (c := 101) _ sz73 rfl rfl rfl rfl rfl rfl rfl (by (try simp only [putAt, List.take, List.drop, List.nil_append, List.cons_append, List.append_nil, List.length_cons, List.length_nil, Nat.add_zero, Nat.zero_add, Nat.reduceAdd]); rfl)) ?_
          rintro _ _ rfl
          refine RL.nil ?_
          refine N.next ?_
          refine W.keep (.cons (k := 1) rfl (.cons (k := 2) rfl (.cons (k := 5) rfl .nil))) (.cons (k := 0) rfl (.cons (k := 1) rfl (.cons (k := 101) rfl (.cons (k := 102) rfl .nil)))) ?_
          refine W.seq ?_
          refine W.region ?_
          refine RL.q (Yld.loadW (c := 101) Tryz.underlying92 rfl sz92 rfl rfl (by first | exact single_self _ _ | exact pset_self _ _ _ | assumption) rfl) rfl ?_
          refine RL.q (Yld.move rfl) rfl ?_
          refine RL.e0 (Eff.storeS (c := 102) _ sz92 rfl rfl rfl rfl rfl rfl rfl (by (try simp only [putAt, List.take, List.drop, List.nil_append, List.cons_append, List.append_nil, List.length_cons, List.length_nil, Nat.add_zero, Nat.zero_add, Nat.reduceAdd]); rfl)) ?_
          rintro _ _ rfl
          refine RL.q (Yld.assign rfl) rfl ?_
          refine RL.nil ?_
          refine N.next ?_
          refine W.keep (.cons (k := 2) rfl (.cons (k := 3) rfl .nil)) (.cons (k := 0) rfl (.cons (k := 1) rfl (.cons (k := 101) rfl (.cons (k := 102) rfl .nil)))) ?_
          refine W.ret ?_
          exact N.retBy [1] (.cons (by first | exact .cell (c := 102) rfl rfl (fun w hs => run_loadVarA Tryz.underlying92 rfl sz92 rfl (fun j u hj => by rw [Nat.zero_add, PH.sub.cell hs (by first | exact single_self _ _ | exact pset_self _ _ _ | assumption)]; exact hj))) (.cons (.tmp rfl) .nil)) rfl rfl rfl rfl ⟨x.take (1 + hd), hyI, by rw [hrn]; show ((x.take (1 + hd)).l, (x.take (1 + hd)).e) = _; rw [Rd.take_l (by omega), hye, he0, List.drop_drop]; congr 2; omega, by rw [hrn, hj8]; show _ = Value.tuple _; unfold Rd.take; rw [if_pos (by omega)]; simp only [List.length_drop]; rfl, rfl⟩

set_option maxRecDepth 100000 in
set_option maxHeartbeats 1600000 in
theorem rgetZ_ct (x : Rd) (H1 : PH) (hx : x.In H1) : Ct Tryz.prog 90 [.agg [.slice x.p x.l.length x.c, .int .i64 x.e].toArray] [H1] (fun v Hs => ∃ y : Rd, y.In H1 ∧ y.s = (rdZ x.s).2 ∧ v = .tuple #[.agg [.slice y.p y.l.length y.c, .int .i64 y.e].toArray, .int .i64 (rdZ x.s).1] ∧ Hs = [H1]) := by
  refine Ct.body Tryz.func90 rfl Tryz.ntmps90 rfl ?_
  intro E F
  have hmx := hx.sl.len_le
  simp only [bz_len, maxLen] at hmx
  have hxs := hx.sl
  refine W.seq ?_
  refine W.region ?_
  refine RL.e (Eff.box 101 _ rfl rfl) rfl ?_
  rintro _ _ ⟨b1, rfl, rfl⟩
  refine RL.e (Eff.alloc 102 zc92) rfl ?_
  rintro _ _ ⟨b2, rfl, rfl⟩
  refine RL.q (Yld.assign rfl) rfl ?_
  refine RL.nil ?_
  refine N.next ?_
  refine W.seq ?_
  refine W.region ?_
  refine RL.q (Yld.loadW (c := 101) Tryz.underlying92 rfl sz92 rfl rfl (by first | exact single_self _ _ | exact pset_self _ _ _ | assumption) rfl) rfl ?_
  refine RL.e (Eff.call ent101 [1] [1] (.cons rfl .nil) (rgetN_ct x H1 hx) rfl rfl rfl rfl (by rintro _ _ ⟨_, _, _, _, _, rfl⟩; rfl)) rfl ?_
  rintro _ _ ⟨_, ⟨y, hy, hys, rfl, rfl⟩, rfl⟩
  obtain ⟨n, hn⟩ : ∃ n, (rdN x.s).1 = n := ⟨_, rfl⟩
  rw [hn]
  have hnu := (rdN_byt (s := x.s) hx.byt).2
  rw [hn] at hnu
  obtain ⟨hn0, hn1⟩ := hnu
  have hye : (rdN x.s).2.2 = y.e := by rw [← hys]; rfl
  have hyl : (rdN x.s).2.1 = y.l := by rw [← hys]; rfl
  have hms := hy.sl.len_le
  simp only [bz_len, maxLen] at hms
  have hxs := hy.sl
  refine RL.q (Yld.move rfl) rfl ?_
  refine RL.q (Yld.extract rfl rfl) rfl ?_
  refine RL.q (Yld.extract rfl rfl) rfl ?_
  refine RL.e0 (Eff.storeS (c := 101) _ sz92 rfl rfl rfl rfl rfl rfl rfl (by (try simp only [putAt, List.take, List.drop, List.nil_append, List.cons_append, List.append_nil, List.length_cons, List.length_nil, Nat.add_zero, Nat.zero_add, Nat.reduceAdd]); rfl)) ?_
  rintro _ _ rfl
  refine RL.q (Yld.assign rfl) rfl ?_
  refine RL.nil ?_
  refine N.next ?_
  refine W.keep (.cons (k := 1) rfl (.cons (k := 2) rfl (.cons (k := 4) rfl .nil))) (.cons (k := 0) rfl (.cons (k := 1) rfl (.cons (k := 101) rfl (.cons (k := 102) rfl .nil)))) ?_
  refine W.seq ?_
  refine W.seq ?_
  refine W.region ?_
  refine RL.q (Yld.move rfl) rfl ?_
  refine RL.q (Yld.bin rfl rfl (by first | exact BinV.rem (by omega) (by omega) | exact BinV.remW (by omega))) rfl ?_
  refine RL.q (Yld.bin rfl rfl BinV.eql) rfl ?_
  refine RL.nil ?_
  refine N.next ?_
  first | refine W.condD rfl (fun hc12 => ?_) (fun hc12 => ?_) | (refine W.cond rfl (fun hc12 => ?_) (fun hc12 => ?_) <;> try simp only [Bool.or_eq_true, Bool.and_eq_true, Bool.not_eq_true', Bool.not_eq_false', decide_eq_true_eq, Bool.or_eq_false_iff, Bool.and_eq_false_iff, decide_eq_false_iff_not, beq_iff_eq, beq_eq_false_iff_ne, ne_eq, Decidable.not_not] at hc12)
  ·
    have hz : (rdZ x.s).1 = n / 2 := by show unzig (rdN x.s).1 = _; rw [hn]; exact if_pos (by omega)
    refine W.seq ?_
    refine W.region ?_
    refine RL.q (Yld.loadW (c := 101) Tryz.underlying92 rfl sz92 rfl rfl (by first | exact single_self _ _ | exact pset_self _ _ _ | assumption) rfl) rfl ?_
    refine RL.q (Yld.move rfl) rfl ?_
    refine RL.q (Yld.eq (v' := .int .u64 (n / 2)) (Yld.bin rfl rfl (by first | exact BinV.quo (by omega) (by omega) (by omega) | exact BinV.quoW (by omega))) (by rw [show n.tdiv 2 = n / 2 from Int.tdiv_eq_ediv_of_nonneg hn0, IntWalk.u64_in _ ⟨by omega, by omega⟩])) rfl ?_
    refine RL.q (Yld.convIs Tryz.underlying82 Tryz.underlying2 rfl (by first | exact IntWalk.i64_in _ ⟨by omega, by omega⟩ | rfl)) rfl ?_
    refine RL.e0 (Eff.storeS (c := 102) _ sz92 rfl rfl rfl rfl rfl rfl rfl (by (try simp only [putAt, List.take, List.drop, List.nil_append, List.cons_append, List.append_nil, List.length_cons, List.length_nil, Nat.add_zero, Nat.zero_add, Nat.reduceAdd]); rfl)) ?_
    rintro _ _ rfl
    refine RL.q (Yld.assign rfl) rfl ?_
    refine RL.nil ?_
    refine N.next ?_
    refine W.keep (.cons (k := 2) rfl (.cons (k := 3) rfl .nil)) (.cons (k := 0) rfl (.cons (k := 1) rfl (.cons (k := 101) rfl (.cons (k := 102) rfl .nil)))) ?_
    refine W.ret ?_
    refine N.then_ret ?_
    exact N.retBy [1] (.cons (by first | exact .cell (c := 102) rfl rfl (fun w hs => run_loadVarA Tryz.underlying92 rfl sz92 rfl (fun j u hj => by rw [Nat.zero_add, PH.sub.cell hs (by first | exact single_self _ _ | exact pset_self _ _ _ | assumption)]; exact hj))) (.cons (.tmp rfl) .nil)) rfl rfl rfl rfl ⟨y, hy, hys, by rw [hz]; rfl, rfl⟩
  ·
    have hz : (rdZ x.s).1 = -(n / 2) - 1 := by show unzig (rdN x.s).1 = _; rw [hn]; exact if_neg (by omega)
    refine W.skip ?_
    refine N.next ?_
    refine W.seq ?_
    refine W.region ?_
    refine RL.q (Yld.loadW (c := 101) Tryz.underlying92 rfl sz92 rfl rfl (by first | exact single_self _ _ | exact pset_self _ _ _ | assumption) rfl) rfl ?_
    refine RL.q (Yld.move rfl) rfl ?_
    refine RL.q (Yld.eq (v' := .int .u64 (n / 2)) (Yld.bin rfl rfl (by first | exact BinV.quo (by omega) (by omega) (by omega) | exact BinV.quoW (by omega))) (by rw [show n.tdiv 2 = n / 2 from Int.tdiv_eq_ediv_of_nonneg hn0, IntWalk.u64_in _ ⟨by omega, by omega⟩])) rfl ?_
    refine RL.q (Yld.convIs Tryz.underlying82 Tryz.underlying2 rfl (by first | exact IntWalk.i64_in _ ⟨by omega, by omega⟩ | rfl)) rfl ?_
    refine RL.q (by first | exact Yld.negI rfl (by omega) (by omega) | exact Yld.neg rfl) rfl ?_
    refine RL.q (Yld.bin rfl rfl (by first | exact BinV.sub (by omega) (by omega) | exact BinV.subW)) rfl ?_
    refine RL.e0 (Eff.storeS (c := 102) _ sz92 rfl rfl rfl rfl rfl rfl rfl (by (try simp only [putAt, List.take, List.drop, List.nil_append, List.cons_append, List.append_nil, List.length_cons, List.length_nil, Nat.add_zero, Nat.zero_add, Nat.reduceAdd]); rfl)) ?_
    rintro _ _ rfl
    refine RL.q (Yld.assign rfl) rfl ?_
    refine RL.nil ?_
    refine N.next ?_
    refine W.keep (.cons (k := 2) rfl (.cons (k := 3) rfl .nil)) (.cons (k := 0) rfl (.cons (k := 1) rfl (.cons (k := 101) rfl (.cons (k := 102) rfl .nil)))) ?_
    refine W.ret ?_
    exact N.retBy [1] (.cons (by first | exact .cell (c := 102) rfl rfl (fun w hs => run_loadVarA Tryz.underlying92 rfl sz92 rfl (fun j u hj => by rw [Nat.zero_add, PH.sub.cell hs (by first | exact single_self _ _ | exact pset_self _ _ _ | assumption)]; exact hj))) (.cons (.tmp rfl) .nil)) rfl rfl rfl rfl ⟨y, hy, hys, by rw [hz]; rfl, rfl⟩

set_option maxRecDepth 100000 in
set_option maxHeartbeats 1600000 in
theorem rgetC_ct (x : Rd) (H1 : PH) (hx : x.In H1) (m : Int) (hm : m ≤ 9223372036854775807) : Ct Tryz.prog 89 [.agg [.slice x.p x.l.length x.c, .int .i64 x.e].toArray, .int .i64 m] [H1] (fun v Hs => ∃ y : Rd, y.In H1 ∧ y.s = (rdC x.s m).2 ∧ v = .tuple #[.agg [.slice y.p y.l.length y.c, .int .i64 y.e].toArray, .int .i64 (rdC x.s m).1] ∧ Hs = [H1]) := by
  refine Ct.body Tryz.func89 rfl Tryz.ntmps89 rfl ?_
  intro E F
  have hmx := hx.sl.len_le
  simp only [bz_len, maxLen] at hmx
  have hxs := hx.sl
  refine W.seq ?_
  refine W.region ?_
  refine RL.e (Eff.box 102 _ rfl rfl) rfl ?_
  rintro _ _ ⟨b2, rfl, rfl⟩
  refine RL.e (Eff.alloc 104 zc92) rfl ?_
  rintro _ _ ⟨b4, rfl, rfl⟩
  refine RL.q (Yld.assign rfl) rfl ?_
  refine RL.nil ?_
  refine N.next ?_
  refine W.seq ?_
  refine W.region ?_
  refine RL.q (Yld.loadW (c := 102) Tryz.underlying92 rfl sz92 rfl rfl (by first | exact single_self _ _ | exact pset_self _ _ _ | assumption) rfl) rfl ?_
  refine RL.e (Eff.call ent101 [1] [1] (.cons rfl .nil) (rgetN_ct x H1 hx) rfl rfl rfl rfl (by rintro _ _ ⟨_, _, _, _, _, rfl⟩; rfl)) rfl ?_
  rintro _ _ ⟨_, ⟨y, hy, hys, rfl, rfl⟩, rfl⟩
  obtain ⟨n, hn⟩ : ∃ n, (rdN x.s).1 = n := ⟨_, rfl⟩
  rw [hn]
  have hnu := (rdN_byt (s := x.s) hx.byt).2
  rw [hn] at hnu
  obtain ⟨hn0, hn1⟩ := hnu
  have hye : (rdN x.s).2.2 = y.e := by rw [← hys]; rfl
  have hyl : (rdN x.s).2.1 = y.l := by rw [← hys]; rfl
  have hms := hy.sl.len_le
  simp only [bz_len, maxLen] at hms
  have hxs := hy.sl
  refine RL.q (Yld.move rfl) rfl ?_
  refine RL.q (Yld.extract rfl rfl) rfl ?_
  refine RL.q (Yld.extract rfl rfl) rfl ?_
  refine RL.e0 (Eff.storeS (c := 102) _ sz92 rfl rfl rfl rfl rfl rfl rfl (by (try simp only [putAt, List.take, List.drop, List.nil_append, List.cons_append, List.append_nil, List.length_cons, List.length_nil, Nat.add_zero, Nat.zero_add, Nat.reduceAdd]); rfl)) ?_
  rintro _ _ rfl
  refine RL.q (Yld.assign rfl) rfl ?_
  refine RL.nil ?_
  refine N.next ?_
  refine W.keep (.cons (k := 1) rfl (.cons (k := 2) rfl (.cons (k := 4) rfl (.cons (k := 6) rfl .nil)))) (.cons (k := 0) rfl (.cons (k := 1) rfl (.cons (k := 102) rfl (.cons (k := 104) rfl .nil)))) ?_
  refine W.seq ?_
  refine W.seq ?_
  refine W.region ?_
  refine RL.q (Yld.fieldAddr fo92_1 rfl) rfl ?_
  refine RL.q (Yld.load1 (c := 102) Tryz.underlying45 rfl rfl rfl (by first | exact single_self _ _ | exact pset_self _ _ _ | assumption) rfl) rfl ?_
  refine RL.q (Yld.bin rfl rfl BinV.neq) rfl ?_
  refine RL.nil ?_
  refine N.next ?_
  first | refine W.condD rfl (fun hc14 => ?_) (fun hc14 => ?_) | (refine W.cond rfl (fun hc14 => ?_) (fun hc14 => ?_) <;> try simp only [Bool.or_eq_true, Bool.and_eq_true, Bool.not_eq_true', Bool.not_eq_false', decide_eq_true_eq, Bool.or_eq_false_iff, Bool.and_eq_false_iff, decide_eq_false_iff_not, beq_iff_eq, beq_eq_false_iff_ne, ne_eq, Decidable.not_not] at hc14)
  ·
    have hT := rdC_er (s := x.s) (m := m) (by rw [hye]; exact hc14)
    refine W.seq ?_
    refine W.region ?_
    refine RL.q (Yld.loadW (c := 102) Tryz.underlying92 rfl sz92 rfl rfl (by first | exact single_self _ _ | exact pset_self _ _ _ | assumption) rfl) rfl ?_
    refine RL.e0 (Eff.storeS (c := 104) _ sz92 rfl rfl rfl rfl rfl rfl rfl (by (try simp only [putAt, List.take, List.drop, List.nil_append, List.cons_append, List.append_nil, List.length_cons, List.length_nil, Nat.add_zero, Nat.zero_add, Nat.reduceAdd]); rfl)) ?_
    rintro _ _ rfl
    refine RL.q (Yld.assign rfl) rfl ?_
    refine RL.nil ?_
    refine N.next ?_
    refine W.keep (.cons (k := 4) rfl (.cons (k := 5) rfl .nil)) (.cons (k := 0) rfl (.cons (k := 1) rfl (.cons (k := 102) rfl (.cons (k := 104) rfl .nil)))) ?_
    refine W.ret ?_
    refine N.then_ret ?_
    exact N.retBy [1] (.cons (by first | exact .cell (c := 104) rfl rfl (fun w hs => run_loadVarA Tryz.underlying92 rfl sz92 rfl (fun j u hj => by rw [Nat.zero_add, PH.sub.cell hs (by first | exact single_self _ _ | exact pset_self _ _ _ | assumption)]; exact hj))) (.cons (.tmp rfl) .nil)) rfl rfl rfl rfl ⟨y, hy, by rw [hT, hys], by rw [hT]; rfl, rfl⟩
  ·
    have hy0 : y.e = 0 := by omega
    have hT := rdC_ok (s := x.s) (m := m) (by rw [hye]; exact hy0)
    rw [hyl, hn] at hT
    refine W.skip ?_
    refine N.next ?_
    refine W.seq ?_
    refine W.seq ?_
    refine W.region ?_
    refine RL.q (Yld.move rfl) rfl ?_
    refine RL.q (Yld.bin rfl rfl BinV.lss) rfl ?_
    refine RL.q (Yld.move rfl) rfl ?_
    refine' RL.or (t := 18) (d := 23) 5 rfl (.cons (k := 1) rfl (.cons (k := 2) rfl (.cons (k := 4) rfl (.cons (k := 6) rfl (.cons (k := 12) rfl (.cons (k := 13) rfl (.cons (k := 14) rfl (.cons (k := 16) rfl (.cons (k := 17) rfl .nil))))))))) (.cons (k := 0) rfl (.cons (k := 1) rfl (.cons (k := 102) rfl (.cons (k := 104) rfl .nil)))) ?_ ?_ ?_
    rotate_left 1
    ·
      intro hg18
      have hg18 := of_decide_eq_false hg18
      refine RL.gq rfl rfl (Yld.move rfl) rfl ?_
      refine RL.gq rfl rfl (Yld.move rfl) rfl ?_
      refine RL.gq rfl rfl (Yld.convIs Tryz.underlying3 Tryz.underlying82 rfl (by first | exact IntWalk.u64_in _ ⟨by omega, by omega⟩ | rfl)) rfl ?_
      refine RL.gq rfl rfl (Yld.bin rfl rfl BinV.gtr) rfl ?_
      refine RL.q (by first | exact Yld.pickT rfl rfl | exact Yld.pickF rfl rfl) rfl ?_
      exact RL.nil (N.meet (.cons rfl (.cons rfl (.cons rfl (.cons rfl (.cons rfl (.cons rfl (.cons rfl (.cons rfl (.cons rfl (.cons rfl .nil)))))))))) (.cons rfl (.cons rfl (.cons rfl (.cons rfl .nil)))))
    ·
      intro hg18
      refine RL.gskip rfl rfl rfl rfl ?_
      refine RL.gskip rfl rfl rfl rfl ?_
      refine RL.gskip rfl rfl rfl rfl ?_
      refine RL.gskip rfl rfl rfl rfl ?_
      refine RL.q (by first | exact Yld.pickT rfl rfl | exact Yld.pickF rfl rfl) rfl ?_
      exact RL.nil (N.meet (.cons rfl (.cons rfl (.cons rfl (.cons rfl (.cons rfl (.cons rfl (.cons rfl (.cons rfl (.cons rfl (.cons rfl .nil)))))))))) (.cons rfl (.cons rfl (.cons rfl (.cons rfl .nil)))))
    refine RL.nil ?_
    refine N.next ?_
    refine W.keep (.cons (k := 2) rfl (.cons (k := 4) rfl (.cons (k := 6) rfl (.cons (k := 23) rfl .nil)))) (.cons (k := 0) rfl (.cons (k := 1) rfl (.cons (k := 102) rfl (.cons (k := 104) rfl .nil)))) ?_
    first | refine W.condD rfl (fun hc23 => ?_) (fun hc23 => ?_) | (refine W.cond rfl (fun hc23 => ?_) (fun hc23 => ?_) <;> try simp only [Bool.or_eq_true, Bool.and_eq_true, Bool.not_eq_true', Bool.not_eq_false', decide_eq_true_eq, Bool.or_eq_false_iff, Bool.and_eq_false_iff, decide_eq_false_iff_not, beq_iff_eq, beq_eq_false_iff_ne, ne_eq, Decidable.not_not] at hc23)
    ·
      rw [if_pos (by omega)] at hT
      refine W.seq ?_
      refine W.region ?_
      refine RL.e (Eff.call ent102 [] [] (.cons rfl .nil) (rfail_ct 8) rfl rfl rfl rfl (by rintro _ _ ⟨_, rfl⟩; rfl)) rfl ?_
      rintro _ _ ⟨_, ⟨rfl, rfl⟩, rfl⟩
      refine RL.e0 (Eff.storeS (c := 104) _ sz92 rfl rfl rfl rfl rfl rfl rfl (by (try simp only [putAt, List.take, List.drop, List.nil_append, List.cons_append, List.append_nil, List.length_cons, List.length_nil, Nat.add_zero, Nat.zero_add, Nat.reduceAdd]); rfl)) ?_
      rintro _ _ rfl
      refine RL.q (Yld.assign rfl) rfl ?_
      refine RL.nil ?_
      refine N.next ?_
      refine W.keep (.cons (k := 4) rfl (.cons (k := 5) rfl .nil)) (.cons (k := 0) rfl (.cons (k := 1) rfl (.cons (k := 102) rfl (.cons (k := 104) rfl .nil)))) ?_
      refine W.ret ?_
      refine N.then_ret ?_
      exact N.retBy [1] (.cons (by first | exact .cell (c := 104) rfl rfl (fun w hs => run_loadVarA Tryz.underlying92 rfl sz92 rfl (fun j u hj => by rw [Nat.zero_add, PH.sub.cell hs (by first | exact single_self _ _ | exact pset_self _ _ _ | assumption)]; exact hj))) (.cons (.tmp rfl) .nil)) rfl rfl rfl rfl ⟨⟨none, 0, [], 8⟩, ⟨⟨rfl, rfl⟩, .nil⟩, by rw [hT]; rfl, by rw [hT]; rfl, rfl⟩
    ·
      rw [if_neg (by omega)] at hT
      refine W.skip ?_
      refine N.next ?_
      refine W.seq ?_
      refine W.region ?_
      refine RL.q (Yld.loadW (c := 102) Tryz.underlying92 rfl sz92 rfl rfl (by first | exact single_self _ _ | exact pset_self _ _ _ | assumption) rfl) rfl ?_
      refine RL.q (Yld.move rfl) rfl ?_
      refine RL.q (Yld.convIs Tryz.underlying82 Tryz.underlying3 rfl (by first | exact IntWalk.i64_in _ ⟨by omega, by omega⟩ | rfl)) rfl ?_
      refine RL.e0 (Eff.storeS (c := 104) _ sz92 rfl rfl rfl rfl rfl rfl rfl (by (try simp only [putAt, List.take, List.drop, List.nil_append, List.cons_append, List.append_nil, List.length_cons, List.length_nil, Nat.add_zero, Nat.zero_add, Nat.reduceAdd]); rfl)) ?_
      rintro _ _ rfl
      refine RL.q (Yld.assign rfl) rfl ?_
      refine RL.nil ?_
      refine N.next ?_
      refine W.keep (.cons (k := 4) rfl (.cons (k := 5) rfl .nil)) (.cons (k := 0) rfl (.cons (k := 1) rfl (.cons (k := 102) rfl (.cons (k := 104) rfl .nil)))) ?_
      refine W.ret ?_
      exact N.retBy [1] (.cons (by first | exact .cell (c := 104) rfl rfl (fun w hs => run_loadVarA Tryz.underlying92 rfl sz92 rfl (fun j u hj => by rw [Nat.zero_add, PH.sub.cell hs (by first | exact single_self _ _ | exact pset_self _ _ _ | assumption)]; exact hj))) (.cons (.tmp rfl) .nil)) rfl rfl rfl rfl ⟨y, hy, by rw [hT]; show (y.l, y.e) = _; rw [hy0], by rw [hT]; rfl, rfl⟩

set_option maxRecDepth 100000 in
set_option maxHeartbeats 400000 in
theorem rend_ct (x : Rd) (H1 : PH) (hx : x.In H1) : Ct Tryz.prog 56 [.agg [.slice x.p x.l.length x.c, .int .i64 x.e].toArray] [H1] (fun v Hs => v = .int .i64 (rdE x.s) ∧ Hs = [H1]) := by
  refine Ct.body Tryz.func56 rfl Tryz.ntmps56 rfl ?_
  intro E F
  have hmx := hx.sl.len_le
  simp only [bz_len, maxLen] at hmx
  have hxs := hx.sl
  refine W.seq ?_
  refine W.region ?_
  refine RL.e (Eff.box 101 _ rfl rfl) rfl ?_
  rintro _ _ ⟨b1, rfl, rfl⟩
  refine RL.q (Yld.assign rfl) rfl ?_
  refine RL.nil ?_
  refine N.next ?_
  refine W.seq ?_
  refine W.seq ?_
  refine W.region ?_
  refine RL.q (Yld.fieldAddr fo92_1 rfl) rfl ?_
  refine RL.q (Yld.load1 (c := 101) Tryz.underlying45 rfl rfl rfl (by first | exact single_self _ _ | exact pset_self _ _ _ | assumption) rfl) rfl ?_
  refine RL.q (Yld.bin rfl rfl BinV.eql) rfl ?_
  refine RL.q (Yld.move rfl) rfl ?_
  refine' RL.and (t := 6) (d := 11) 5 rfl (.cons (k := 0) rfl (.cons (k := 1) rfl (.cons (k := 2) rfl (.cons (k := 3) rfl (.cons (k := 4) rfl (.cons (k := 5) rfl .nil)))))) (.cons (k := 0) rfl (.cons (k := 1) rfl (.cons (k := 101) rfl .nil))) ?_ ?_ ?_
  rotate_left 1
  ·
    intro hg6
    refine RL.gq rfl rfl (Yld.fieldAddr fo92_0 rfl) rfl ?_
    refine RL.gq rfl rfl (Yld.load1 (c := 101) Tryz.underlying73 rfl rfl rfl (by first | exact single_self _ _ | exact pset_self _ _ _ | assumption) rfl) rfl ?_
    refine RL.gq rfl rfl (Yld.lenSl Tryz.underlying73 rfl) rfl ?_
    refine RL.gq rfl rfl (Yld.bin rfl rfl BinV.gtr) rfl ?_
    refine RL.q (by first | exact Yld.pickT rfl rfl | exact Yld.pickF rfl rfl) rfl ?_
    exact RL.nil (N.meet (.cons rfl (.cons rfl (.cons rfl (.cons rfl (.cons rfl (.cons rfl (.cons rfl .nil))))))) (.cons rfl (.cons rfl (.cons rfl .nil))))
  ·
    intro hg6
    refine RL.gskip rfl rfl rfl rfl ?_
    refine RL.gskip rfl rfl rfl rfl ?_
    refine RL.gskip rfl rfl rfl rfl ?_
    refine RL.gskip rfl rfl rfl rfl ?_
    refine RL.q (by first | exact Yld.pickT rfl rfl | exact Yld.pickF rfl rfl) rfl ?_
    exact RL.nil (N.meet (.cons rfl (.cons rfl (.cons rfl (.cons rfl (.cons rfl (.cons rfl (.cons rfl .nil))))))) (.cons rfl (.cons rfl (.cons rfl .nil))))
  refine RL.nil ?_
  refine N.next ?_
  refine W.keep (.cons (k := 1) rfl (.cons (k := 11) rfl .nil)) (.cons (k := 0) rfl (.cons (k := 1) rfl (.cons (k := 101) rfl .nil))) ?_
  first | refine W.condD rfl (fun hc11 => ?_) (fun hc11 => ?_) | (refine W.cond rfl (fun hc11 => ?_) (fun hc11 => ?_) <;> try simp only [Bool.or_eq_true, Bool.and_eq_true, Bool.not_eq_true', Bool.not_eq_false', decide_eq_true_eq, Bool.or_eq_false_iff, Bool.and_eq_false_iff, decide_eq_false_iff_not, beq_iff_eq, beq_eq_false_iff_ne, ne_eq, Decidable.not_not] at hc11)
  ·
    refine W.seq ?_
    refine W.region ?_
    refine RL.q (Yld.assign rfl) rfl ?_
    refine RL.nil ?_
    refine N.next ?_
    refine W.ret ?_
    refine N.then_ret ?_
    exact N.retBy [1] (.cons (.tmp rfl) .nil) rfl rfl rfl rfl ⟨by show _ = Value.int .i64 (rdE (x.l, x.e)); rw [rdE_pos (by omega)]; rfl, rfl⟩
  ·
    refine W.skip ?_
    refine N.next ?_
    refine W.seq ?_
    refine W.region ?_
    refine RL.q (Yld.fieldAddr fo92_1 rfl) rfl ?_
    refine RL.q (Yld.load1 (c := 101) Tryz.underlying45 rfl rfl rfl (by first | exact single_self _ _ | exact pset_self _ _ _ | assumption) rfl) rfl ?_
    refine RL.q (Yld.assign rfl) rfl ?_
    refine RL.nil ?_
    refine N.next ?_
    refine W.keep (.cons (k := 2) rfl .nil) (.cons (k := 0) rfl (.cons (k := 1) rfl (.cons (k := 101) rfl .nil))) ?_
    refine W.ret ?_
    exact N.retBy [1] (.cons (.tmp rfl) .nil) rfl rfl rfl rfl ⟨by show _ = Value.int .i64 (rdE (x.l, x.e)); rw [rdE_neg (by omega)]; rfl, rfl⟩

end Go.Proofs.YtdjmdfnhnlijiaaGreatDoor
