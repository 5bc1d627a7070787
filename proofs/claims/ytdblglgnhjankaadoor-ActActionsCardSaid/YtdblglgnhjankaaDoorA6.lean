/- Action. Written by program (walk2.py). -/
import Derived.Test.YtdblglgnhjankaaDoorA5
namespace Go.Proofs.YtdblglgnhjankaaDoor
open SL Cfg
set_option linter.unusedVariables false
set_option linter.unusedSimpArgs false
theorem sz38 : sz Tryd.prog 38 9 := (by kernel_rfl : (Tryd.prog.info? 38).map (·.size) = some 9)
theorem ent32 : Ent Tryd.prog 32 := ⟨_, _, Tryd.func32, by kernel_rfl, rfl⟩
theorem sz86 : sz Tryd.prog 86 4 := (by kernel_rfl : (Tryd.prog.info? 86).map (·.size) = some 4)
theorem fo86_1 : fieldOff Tryd.prog 86 1 = some 1 := by kernel_rfl
theorem zc84 : zc Tryd.prog 84 [.int .i64 0, .int .i64 0, .int .i64 0] := (by kernel_rfl : ((Tryd.prog.info? 84).bind (·.zero)).map (fun v => v.cells.toList) = some [.int .i64 0, .int .i64 0, .int .i64 0])
theorem ent33 : Ent Tryd.prog 33 := ⟨_, _, Tryd.func33, by kernel_rfl, rfl⟩
theorem sz49 : sz Tryd.prog 49 4 := (by kernel_rfl : (Tryd.prog.info? 49).map (·.size) = some 4)
theorem ent34 : Ent Tryd.prog 34 := ⟨_, _, Tryd.func34, by kernel_rfl, rfl⟩
theorem zv44 : zv Tryd.prog 44 (.agg #[.int .i64 0, .int .i64 0, .int .i64 0, .int .i64 0, .int .i64 0, .int .i64 0, .int .i64 0, .int .i64 0, .int .i64 0]) := (by kernel_rfl : (Tryd.prog.info? 44).bind (·.zero) = some (.agg #[.int .i64 0, .int .i64 0, .int .i64 0, .int .i64 0, .int .i64 0, .int .i64 0, .int .i64 0, .int .i64 0, .int .i64 0]))
def Cfg.Ac.val (a : Ac) : Value := .agg [.int .i64 a.k, .int .i64 a.m, .int .i64 a.g, .int .i64 a.c, .int .i64 a.r, .int .i64 a.uk, .int .i64 a.ui, .int .i64 a.ur, .int .i64 a.uv].toArray
def Cfg.ac0 : Ac := ⟨0, 0, 0, 0, 0, 0, 0, 0, 0⟩
def Cfg.LookR (x : Mv) (y : St) (s : Int) (q : Int × Bool × Int) (a : Ac) (ok : Bool) : Prop :=
  (ok = true ∧ actD (fun _ => true) x y s q a.val) ∨ (ok = false ∧ a = ac0 ∧ ∀ v, ¬ actD (fun _ => true) x y s q v)
theorem Cfg.actD_ac {D : Nat → Bool} {x : Mv} {y : St} {s : Int} {q : Int × Bool × Int} {v : Value} (h : actD D x y s q v) : ∃ a : Ac, v = a.val := by
  rcases h with h | h | h | h | h | h | h | h | h | h | h | h | h
  · exact ⟨⟨0, x.t, x.i, 0, y.r, 0, x.i, y.r, 0⟩, h.2.2⟩
  · exact ⟨⟨1, 0, x.i, 0, y.r, 0, 0, 0, 0⟩, h.2.2⟩
  · exact ⟨⟨2, 0, x.i, 0, y.r, 0, 0, 0, 0⟩, h.2.2⟩
  · exact ⟨⟨1, x.f, x.i, 2, y.r, 0, 0, 0, 0⟩, h.2.2⟩
  · exact ⟨⟨0, x.f, x.i, 0, 0, 1, x.i, 0, 0⟩, h.2.2⟩
  · exact ⟨⟨1, 0, x.i, 1, y.r, 0, 0, 0, 0⟩, h.2.2⟩
  · exact ⟨⟨0, x.f, 0, 0, 0, 4, x.i, 0, 0⟩, h.2.2⟩
  · exact ⟨⟨0, x.t, 0, 0, 0, 2, x.i, 0, s⟩, h.2.2⟩
  · exact ⟨⟨0, x.f, 0, 0, 0, 5, x.i, 0, 0⟩, h.2.2⟩
  · exact ⟨⟨0, x.f, 0, 0, 0, 2, x.i, 0, 0⟩, h.2.2⟩
  · exact ⟨⟨0, x.t, 0, 0, 0, 2, x.i, 0, s⟩, h.2.2⟩
  · exact ⟨⟨0, x.f, 0, 0, 0, 3, x.i, 0, 0⟩, h.2.2⟩
  · exact ⟨⟨0, x.f, 0, 0, 0, 5, x.i, 0, 0⟩, h.2.2⟩
theorem Cfg.act_look {m : List ((Int × Bool × Int) × Value)} {x : Mv} {y : St} {s : Int} (h : ∀ q v, mget m q = some v ↔ actD (fun _ => true) x y s q v) (q : Int × Bool × Int) :
    ∃ a ok, (mget m q).getD ac0.val = a.val ∧ (mget m q).isSome = ok ∧ LookR x y s q a ok := by
  cases hm : mget m q with
  | none => exact ⟨ac0, false, rfl, rfl, .inr ⟨rfl, rfl, fun v hv => by rw [(h q v).2 hv] at hm; cases hm⟩⟩
  | some v =>
    obtain ⟨a, rfl⟩ := actD_ac ((h q v).1 hm)
    exact ⟨a, true, rfl, rfl, .inl ⟨rfl, (h q _).1 hm⟩⟩
def Cfg.ActR (m : Md) (s : Ins) (st ph : Int) (a : Ac) (ok : Bool) : Prop :=
  (exB s st = false ∧ a = ac0 ∧ ok = false) ∨ (exB s st = true ∧ ∃ t y, s.xs[(st - 1).toNat]? = some t ∧ s.ys[(st - 1).toNat]? = some y ∧
    (((phs (kindOf m.is t.2.i) t.2).1 = 0 ∧ a = ac0 ∧ ok = false) ∨ ((phs (kindOf m.is t.2.i) t.2).1 ≠ 0 ∧ LookR t.2 y (if kindOf m.is t.2.i = 2 then y.v else 0) (kindOf m.is t.2.i, decide (t.2.f = 0), ph) a ok)))
theorem Cfg.ex_rows {s : Ins} {st : Int} (h : exB s st = true) : ∃ t y, s.xs[(st - 1).toNat]? = some t ∧ s.ys[(st - 1).toNat]? = some y ∧ (s.xs.map tmC)[(st - 1).toNat]? = some [.int .i64 t.1, .int .i64 t.2.i, .int .i64 t.2.f, .int .i64 t.2.t] ∧ (s.ys.map St.c')[(st - 1).toNat]? = some [.int .i64 y.d, .int .i64 y.b, .int .i64 y.r, .int .i64 y.v] ∧ 1 ≤ st ∧ st ≤ s.xs.length ∧ st ≤ s.ys.length := by
  simp only [exB, Bool.and_eq_true, decide_eq_true_eq] at h
  have h1 : (st - 1).toNat < s.xs.length := by omega
  have h2 : (st - 1).toNat < s.ys.length := by omega
  exact ⟨_, _, List.getElem?_eq_getElem h1, List.getElem?_eq_getElem h2, by rw [List.getElem?_map, List.getElem?_eq_getElem h1]; rfl, by rw [List.getElem?_map, List.getElem?_eq_getElem h2]; rfl, h.1.1, h.1.2, h.2⟩
theorem Cfg.phs_kind {is : List It} {x : Mv} (h : (phs (kindOf is x.i) x).1 ≠ 0) : ¬ x.i < 1 ∧ ¬ (is.length : Int) < x.i := by
  by_cases hc : x.i < 1 ∨ (is.length : Int) < x.i
  · exfalso; apply h
    have : kindOf is x.i = -1 := if_pos hc
    rw [this]; simp [phs]
  · omega

set_option maxRecDepth 100000 in
set_option maxHeartbeats 3200000 in
theorem action_ct (m : Md) (s : Ins) (H1 : PH) (hm : m.In H1) (hs : s.In H1) (st ph : Int) : Ct Tryd.prog 12 [.agg [.slice m.a0 m.n0 m.c0, .slice m.a1 m.n1 m.c1, .slice m.a2 m.n2 m.c2, .slice m.pm m.ms.length m.cm, .slice m.a4 m.n4 m.c4, .slice m.pi m.is.length m.ci, .int .i64 m.d0, .int .i64 m.d1, .int .i64 m.d2, .int .i64 m.d3, .slice m.a5 m.n5 m.c5].toArray, .agg [.int .i64 s.g, .int .i64 s.v, .int .i64 s.sl, .slice s.pb s.nb s.cb, .slice s.pp s.xs.length s.cp, .slice s.ps s.ys.length s.cs, .bool s.ca, .int .i64 s.se, .int .i64 s.ou].toArray, .int .i64 st, .int .i64 ph] [H1] (fun v Hs => ∃ a ok, v = .tuple #[a.val, .bool ok] ∧ ActR m s st ph a ok ∧ Hs = [H1]) := by
  refine Ct.body Tryd.func12 rfl Tryd.ntmps12 rfl ?_
  intro E F
  have hmxi := hm.is.len_le
  have hmxx := hs.xs.len_le
  have hmxy := hs.ys.len_le
  simp only [List.length_map, maxLen] at hmxi hmxx hmxy
  have hsi := hm.is
  have hsx := hs.xs
  have hsy := hs.ys
  refine W.seq ?_
  refine W.region ?_
  refine RL.e (Eff.box 104 _ rfl rfl) rfl ?_
  rintro _ _ ⟨b4, rfl, rfl⟩
  refine RL.e (Eff.box 105 _ rfl rfl) rfl ?_
  rintro _ _ ⟨b5, rfl, rfl⟩
  refine RL.e (Eff.alloc 108 zc44) rfl ?_
  rintro _ _ ⟨b8, rfl, rfl⟩
  refine RL.q (Yld.assign rfl) rfl ?_
  refine RL.nil ?_
  refine N.next ?_
  refine W.seq ?_
  refine W.seq ?_
  refine W.region ?_
  refine RL.q (Yld.loadW (c := 105) Tryd.underlying38 rfl sz38 rfl rfl (by first | exact single_self _ _ | exact pset_self _ _ _ | assumption) rfl) rfl ?_
  refine RL.q (Yld.move rfl) rfl ?_
  refine RL.e (Eff.call ent32 [] [] (.cons rfl (.cons rfl .nil)) (exists_ct s st) rfl rfl rfl rfl (by rintro _ _ ⟨_, rfl⟩; rfl)) rfl ?_
  rintro _ _ ⟨_, ⟨rfl, rfl⟩, rfl⟩
  refine RL.q (by first | exact Yld.notD rfl | exact Yld.not rfl) rfl ?_
  refine RL.nil ?_
  refine N.next ?_
  refine W.keep (.cons (k := 2) rfl (.cons (k := 3) rfl (.cons (k := 4) rfl (.cons (k := 5) rfl (.cons (k := 8) rfl (.cons (k := 20) rfl .nil)))))) (.cons (k := 0) rfl (.cons (k := 1) rfl (.cons (k := 104) rfl (.cons (k := 105) rfl (.cons (k := 108) rfl .nil))))) ?_
  refine W.cond rfl (fun hc20 => ?_) (fun hc20 => ?_)
  ·
    have hx : exB s st = false := by simpa using hc20
    refine W.seq ?_
    refine W.region ?_
    refine RL.q (Yld.buildP lay44 .nil rfl) rfl ?_
    refine RL.e0 (Eff.storeS (c := 108) _ sz44 rfl rfl rfl rfl rfl rfl rfl (by (try simp only [putAt, List.take, List.drop, List.nil_append, List.cons_append, List.append_nil, List.length_cons, List.length_nil, Nat.add_zero, Nat.zero_add, Nat.reduceAdd]); rfl)) ?_
    rintro _ _ rfl
    refine RL.q (Yld.assign rfl) rfl ?_
    refine RL.nil ?_
    refine N.next ?_
    refine W.keep (.cons (k := 8) rfl (.cons (k := 9) rfl .nil)) (.cons (k := 0) rfl (.cons (k := 1) rfl (.cons (k := 104) rfl (.cons (k := 105) rfl (.cons (k := 108) rfl .nil))))) ?_
    refine W.ret ?_
    refine N.then_ret ?_
    exact N.retBy [1] (.cons (by first | exact .cell (c := 108) rfl rfl (fun w hs => run_loadVarA Tryd.underlying44 rfl sz44 rfl (fun j u hj => by rw [Nat.zero_add, PH.sub.cell hs (by first | exact single_self _ _ | exact pset_self _ _ _ | assumption)]; exact hj))) (.cons (.tmp rfl) .nil)) rfl rfl rfl rfl ⟨ac0, false, rfl, .inl ⟨hx, rfl, rfl⟩, rfl⟩
  ·
    have hx : exB s st = true := by simpa using hc20
    obtain ⟨t, y, ht, hy, hlt, hly, hst1, hst2, hst3⟩ := ex_rows hx
    refine W.skip ?_
    refine N.next ?_
    refine W.seq ?_
    refine W.region ?_
    refine RL.q (Yld.fieldAddr fo38_4 rfl) rfl ?_
    refine RL.q (Yld.fieldAddr fo35_0 rfl) rfl ?_
    refine RL.q (Yld.load1 (c := 105) Tryd.underlying33 rfl rfl rfl (by first | exact single_self _ _ | exact pset_self _ _ _ | assumption) rfl) rfl ?_
    refine RL.q (Yld.move rfl) rfl ?_
    refine RL.q (Yld.bin rfl rfl (by first | exact BinV.sub (by omega) (by omega) | exact BinV.subW)) rfl ?_
    refine RL.q (Yld.indexRow Tryd.underlying33 sz86 rfl rfl (by first | assumption | exact Own.sl (by assumption)) (by first | rfl | omega | (simp; done) | (simp; omega)) (by omega) (by first | omega | (simp; done) | (simp; omega))) rfl ?_
    refine RL.q (Yld.fieldAddr fo86_1 rfl) rfl ?_
    refine RL.q (by first | exact Yld.loadRowP (cl := 108) (j := 1) Tryd.underlying84 rfl sz84 rfl rfl (by first | assumption | exact Own.sl (by assumption)) (by assumption) rfl rfl | exact Yld.loadRowP (cl := 105) (j := 1) Tryd.underlying84 rfl sz84 rfl rfl (by first | assumption | exact Own.sl (by assumption)) (by assumption) rfl rfl | exact Yld.loadRowP (cl := 104) (j := 1) Tryd.underlying84 rfl sz84 rfl rfl (by first | assumption | exact Own.sl (by assumption)) (by assumption) rfl rfl | exact Yld.loadRowP (cl := 1) (j := 1) Tryd.underlying84 rfl sz84 rfl rfl (by first | assumption | exact Own.sl (by assumption)) (by assumption) rfl rfl) rfl ?_
    refine RL.e (Eff.alloc 110 zc84) rfl ?_
    rintro _ _ ⟨b10, rfl, rfl⟩
    refine RL.e0 (Eff.storeS (c := 110) _ sz84 rfl rfl rfl rfl rfl rfl rfl (by (try simp only [putAt, List.take, List.drop, List.nil_append, List.cons_append, List.append_nil, List.length_cons, List.length_nil, Nat.add_zero, Nat.zero_add, Nat.reduceAdd]); rfl)) ?_
    rintro _ _ rfl
    refine RL.nil ?_
    refine N.next ?_
    refine W.keep (.cons (k := 2) rfl (.cons (k := 3) rfl (.cons (k := 4) rfl (.cons (k := 5) rfl (.cons (k := 8) rfl (.cons (k := 10) rfl .nil)))))) (.cons (k := 0) rfl (.cons (k := 1) rfl (.cons (k := 104) rfl (.cons (k := 105) rfl (.cons (k := 108) rfl (.cons (k := 110) rfl .nil)))))) ?_
    refine W.seq ?_
    refine W.seq ?_
    refine W.region ?_
    refine RL.q (Yld.loadW (c := 104) Tryd.underlying29 rfl sz29 rfl rfl (by first | exact single_self _ _ | exact pset_self _ _ _ | assumption) rfl) rfl ?_
    refine RL.q (Yld.loadW (c := 110) Tryd.underlying84 rfl sz84 rfl rfl (by first | exact single_self _ _ | exact pset_self _ _ _ | assumption) rfl) rfl ?_
    refine RL.e (Eff.call ent33 [1] [1] (.cons rfl (.cons rfl .nil)) (phases_ct m t.2 H1 hm) rfl rfl rfl rfl (by rintro _ _ ⟨_, rfl⟩; rfl)) rfl ?_
    rintro _ _ ⟨_, ⟨rfl, rfl⟩, rfl⟩
    refine RL.q (Yld.move rfl) rfl ?_
    refine RL.q (Yld.extract rfl rfl) rfl ?_
    refine RL.q (Yld.extract rfl rfl) rfl ?_
    refine RL.q (Yld.extract rfl rfl) rfl ?_
    refine RL.q (Yld.assign rfl) rfl ?_
    refine RL.q (Yld.assign rfl) rfl ?_
    refine RL.q (Yld.assign rfl) rfl ?_
    refine RL.nil ?_
    refine N.next ?_
    refine W.keep (.cons (k := 2) rfl (.cons (k := 3) rfl (.cons (k := 4) rfl (.cons (k := 5) rfl (.cons (k := 8) rfl (.cons (k := 10) rfl (.cons (k := 11) rfl .nil))))))) (.cons (k := 0) rfl (.cons (k := 1) rfl (.cons (k := 104) rfl (.cons (k := 105) rfl (.cons (k := 108) rfl (.cons (k := 110) rfl .nil)))))) ?_
    refine W.seq ?_
    refine W.region ?_
    refine RL.q (Yld.move rfl) rfl ?_
    refine RL.q (Yld.bin rfl rfl BinV.eql) rfl ?_
    refine RL.nil ?_
    refine N.next ?_
    first | refine W.condD rfl (fun hc38 => ?_) (fun hc38 => ?_) | (refine W.cond rfl (fun hc38 => ?_) (fun hc38 => ?_) <;> try simp only [Bool.or_eq_true, Bool.and_eq_true, Bool.not_eq_true', Bool.not_eq_false', decide_eq_true_eq, Bool.or_eq_false_iff, Bool.and_eq_false_iff, decide_eq_false_iff_not, beq_iff_eq, beq_eq_false_iff_ne, ne_eq, Decidable.not_not] at hc38)
    ·
      refine W.seq ?_
      refine W.region ?_
      refine RL.q (Yld.buildP lay44 .nil rfl) rfl ?_
      refine RL.e0 (Eff.storeS (c := 108) _ sz44 rfl rfl rfl rfl rfl rfl rfl (by (try simp only [putAt, List.take, List.drop, List.nil_append, List.cons_append, List.append_nil, List.length_cons, List.length_nil, Nat.add_zero, Nat.zero_add, Nat.reduceAdd]); rfl)) ?_
      rintro _ _ rfl
      refine RL.q (Yld.assign rfl) rfl ?_
      refine RL.nil ?_
      refine N.next ?_
      refine W.keep (.cons (k := 8) rfl (.cons (k := 9) rfl .nil)) (.cons (k := 0) rfl (.cons (k := 1) rfl (.cons (k := 104) rfl (.cons (k := 105) rfl (.cons (k := 108) rfl (.cons (k := 110) rfl .nil)))))) ?_
      refine W.ret ?_
      refine N.then_ret ?_
      exact N.retBy [1] (.cons (by first | exact .cell (c := 108) rfl rfl (fun w hs => run_loadVarA Tryd.underlying44 rfl sz44 rfl (fun j u hj => by rw [Nat.zero_add, PH.sub.cell hs (by first | exact single_self _ _ | exact pset_self _ _ _ | assumption)]; exact hj))) (.cons (.tmp rfl) .nil)) rfl rfl rfl rfl ⟨ac0, false, rfl, .inr ⟨hx, t, y, ht, hy, .inl ⟨hc38, rfl, rfl⟩⟩, rfl⟩
    ·
      obtain ⟨hki1, hki2⟩ := phs_kind (is := m.is) (x := t.2) hc38
      obtain ⟨yi, hli, hk, _⟩ := kind_row hki1 hki2
      rw [← hk] at hli
      refine W.skip ?_
      refine N.next ?_
      refine W.seq ?_
      refine W.region ?_
      refine RL.q (Yld.fieldAddr fo29_5 rfl) rfl ?_
      refine RL.q (Yld.load1 (c := 104) Tryd.underlying26 rfl rfl rfl (by first | exact single_self _ _ | exact pset_self _ _ _ | assumption) rfl) rfl ?_
      refine RL.q (Yld.fieldAddr fo84_0 rfl) rfl ?_
      refine RL.q (Yld.load1 (c := 110) Tryd.underlying3 rfl rfl rfl (by first | exact single_self _ _ | exact pset_self _ _ _ | assumption) rfl) rfl ?_
      refine RL.q (Yld.bin rfl rfl (by first | exact BinV.sub (by omega) (by omega) | exact BinV.subW)) rfl ?_
      refine RL.q (Yld.indexRow Tryd.underlying26 sz90 rfl rfl (by first | assumption | exact Own.sl (by assumption)) (by first | rfl | omega | (simp; done) | (simp; omega)) (by omega) (by first | omega | (simp; done) | (simp; omega))) rfl ?_
      refine RL.q (Yld.fieldAddr fo90_1 rfl) rfl ?_
      refine RL.q (by first | exact Yld.loadRowF (cl := 1) (j := 1) Tryd.underlying3 rfl rfl rfl (by first | assumption | exact Own.sl (by assumption)) (by assumption) rfl | exact Yld.loadRowF (cl := 110) (j := 1) Tryd.underlying3 rfl rfl rfl (by first | assumption | exact Own.sl (by assumption)) (by assumption) rfl | exact Yld.loadRowF (cl := 108) (j := 1) Tryd.underlying3 rfl rfl rfl (by first | assumption | exact Own.sl (by assumption)) (by assumption) rfl | exact Yld.loadRowF (cl := 105) (j := 1) Tryd.underlying3 rfl rfl rfl (by first | assumption | exact Own.sl (by assumption)) (by assumption) rfl | exact Yld.loadRowF (cl := 104) (j := 1) Tryd.underlying3 rfl rfl rfl (by first | assumption | exact Own.sl (by assumption)) (by assumption) rfl) rfl ?_
      refine RL.q (Yld.assign rfl) rfl ?_
      refine RL.nil ?_
      refine N.next ?_
      refine W.keep (.cons (k := 2) rfl (.cons (k := 3) rfl (.cons (k := 5) rfl (.cons (k := 8) rfl (.cons (k := 10) rfl (.cons (k := 14) rfl .nil)))))) (.cons (k := 0) rfl (.cons (k := 1) rfl (.cons (k := 104) rfl (.cons (k := 105) rfl (.cons (k := 108) rfl (.cons (k := 110) rfl .nil)))))) ?_
      refine W.seq ?_
      refine W.draw (.q 0 (.q 1 (.q 2 (.q 3 (.q 4 (.q 5 (.q 6 (.q 7 (.q 9 (.q 10 (.q 11 (.q 12 (.q 13 (.q 14 (.two 8 (.two 15 (.q 16 (.q 17 (.q 18 (.one 19 (.one 20 (.q 21 .done)))))) 19 (.one 15 (.q 16 (.q 17 (.q 18 (.one 20 (.q 21 .done))))))) 19 (.one 8 (.one 15 (.q 16 (.q 17 (.q 18 (.one 20 (.q 21 .done)))))))))))))))))))))) (.cons (k := 0) rfl (.cons (k := 1) rfl (.cons (k := 104) rfl (.cons (k := 105) rfl (.cons (k := 108) rfl (.cons (k := 110) rfl .nil)))))) mix (by kernel_rfl) (by kernel_rfl) ?_
      refine DL.q rfl (Yld.move rfl) rfl ?_
      refine DL.q rfl (Yld.loadW (c := 110) Tryd.underlying84 rfl sz84 rfl rfl (by first | exact single_self _ _ | exact pset_self _ _ _ | assumption) rfl) rfl ?_
      refine DL.q rfl (Yld.fieldAddr fo38_5 rfl) rfl ?_
      refine DL.q rfl (Yld.load1 (c := 105) Tryd.underlying36 rfl rfl rfl (by first | exact single_self _ _ | exact pset_self _ _ _ | assumption) rfl) rfl ?_
      refine DL.q rfl (Yld.move rfl) rfl ?_
      refine DL.q rfl (Yld.bin rfl rfl (by first | exact BinV.sub (by omega) (by omega) | exact BinV.subW)) rfl ?_
      refine DL.q rfl (Yld.indexRow Tryd.underlying36 sz49 rfl rfl (by first | assumption | exact Own.sl (by assumption)) (by first | rfl | omega | (simp; done) | (simp; omega)) (by omega) (by first | omega | (simp; done) | (simp; omega))) rfl ?_
      refine DL.q rfl (by first | exact Yld.loadRow (cl := 1) Tryd.underlying49 rfl sz49 rfl rfl (by first | assumption | exact Own.sl (by assumption)) (by assumption) | exact Yld.loadRow (cl := 110) Tryd.underlying49 rfl sz49 rfl rfl (by first | assumption | exact Own.sl (by assumption)) (by assumption) | exact Yld.loadRow (cl := 108) Tryd.underlying49 rfl sz49 rfl rfl (by first | assumption | exact Own.sl (by assumption)) (by assumption) | exact Yld.loadRow (cl := 105) Tryd.underlying49 rfl sz49 rfl rfl (by first | assumption | exact Own.sl (by assumption)) (by assumption) | exact Yld.loadRow (cl := 104) Tryd.underlying49 rfl sz49 rfl rfl (by first | assumption | exact Own.sl (by assumption)) (by assumption)) rfl ?_
      refine DL.q rfl (Yld.move rfl) rfl ?_
      refine DL.q rfl (Yld.fieldAddr fo84_1 rfl) rfl ?_
      refine DL.q rfl (Yld.load1 (c := 110) Tryd.underlying3 rfl rfl rfl (by first | exact single_self _ _ | exact pset_self _ _ _ | assumption) rfl) rfl ?_
      refine DL.q rfl (Yld.bin rfl rfl BinV.eql) rfl ?_
      refine DL.q rfl (Yld.move rfl) rfl ?_
      refine DL.q rfl (Yld.buildP lay94 (.cons rfl rfl (.cons rfl rfl (.cons rfl rfl .nil))) rfl) rfl ?_
      refine DL.two ?_ ?_
      ·
        refine DL.one rfl (Eff.call ent34 [] [157] (.cons rfl (.cons rfl (.cons rfl .nil))) (actions_ct (kindOf m.is t.2.i) t.2 y) rfl rfl rfl rfl (by rintro _ _ ⟨_, _, _, _, _, _, _, rfl⟩; rfl)) rfl (by rintro _ _ ⟨_, ⟨b57, es, ck, mm, rfl, hM, hmg, rfl⟩, rfl⟩; repeat (first | exact .nil | refine .cons rfl ?_)) ?_
        rintro _ _ ⟨_, ⟨b57, es, ck, mm, rfl, hM, hmg, rfl⟩, rfl⟩
        obtain ⟨a, ok, hgo, hgi, hR⟩ := act_look hmg (kindOf m.is t.2.i, decide (t.2.f = 0), ph)
        refine DL.two ?_ ?_
        ·
          refine DL.one rfl (Yld.eff (Yld.eq (v' := .tuple #[a.val, .bool ok]) (Yld.lookupOk (c := 157) (k := (kindOf m.is t.2.i, decide (t.2.f = 0), ph)) Tryd.underlying91 key94 zv44 rfl rfl rfl (by assumption)) (by rw [← hgo, ← hgi]; rfl))) rfl (by rintro _ _ ⟨rfl, rfl⟩; repeat (first | exact .nil | refine .cons rfl ?_)) ?_
          rintro _ _ ⟨rfl, rfl⟩
          refine DL.q rfl (Yld.move rfl) rfl ?_
          refine DL.q rfl (Yld.extract rfl rfl) rfl ?_
          refine DL.q rfl (Yld.extract rfl rfl) rfl ?_
          refine DL.one rfl (Eff.alloc 115 zc44) rfl (by rintro _ _ ⟨b15, rfl, rfl⟩; repeat (first | exact .nil | refine .cons rfl ?_)) ?_
          rintro _ _ ⟨b15, rfl, rfl⟩
          refine DL.one0 rfl (Eff.storeS (c := 115) _ sz44 rfl rfl rfl rfl rfl rfl rfl (by (try simp only [putAt, List.take, List.drop, List.nil_append, List.cons_append, List.append_nil, List.length_cons, List.length_nil, Nat.add_zero, Nat.zero_add, Nat.reduceAdd]); rfl)) (by rintro _ _ rfl; repeat (first | exact .nil | refine .cons rfl ?_)) ?_
          rintro _ _ rfl
          refine DL.q rfl (Yld.assign rfl) rfl ?_
          refine DL.done ?_
          refine N.next ?_
          refine W.keep (.cons (k := 8) rfl (.cons (k := 15) rfl (.cons (k := 16) rfl .nil))) (.cons (k := 0) rfl (.cons (k := 1) rfl (.cons (k := 104) rfl (.cons (k := 105) rfl (.cons (k := 108) rfl (.cons (k := 110) rfl (.cons (k := 115) rfl (.cons (k := 157) rfl .nil)))))))) ?_
          refine W.seq ?_
          refine W.region ?_
          refine RL.q (Yld.loadW (c := 115) Tryd.underlying44 rfl sz44 rfl rfl (by first | exact single_self _ _ | exact pset_self _ _ _ | assumption) rfl) rfl ?_
          refine RL.q (Yld.move rfl) rfl ?_
          refine RL.e0 (Eff.storeS (c := 108) _ sz44 rfl rfl rfl rfl rfl rfl rfl (by (try simp only [putAt, List.take, List.drop, List.nil_append, List.cons_append, List.append_nil, List.length_cons, List.length_nil, Nat.add_zero, Nat.zero_add, Nat.reduceAdd]); rfl)) ?_
          rintro _ _ rfl
          refine RL.q (Yld.assign rfl) rfl ?_
          refine RL.nil ?_
          refine N.next ?_
          refine W.keep (.cons (k := 8) rfl (.cons (k := 9) rfl .nil)) (.cons (k := 0) rfl (.cons (k := 1) rfl (.cons (k := 104) rfl (.cons (k := 105) rfl (.cons (k := 108) rfl (.cons (k := 110) rfl (.cons (k := 115) rfl (.cons (k := 157) rfl .nil)))))))) ?_
          refine W.ret ?_
          exact N.retBy [1] (.cons (by first | exact .cell (c := 108) rfl rfl (fun w hs => run_loadVarA Tryd.underlying44 rfl sz44 rfl (fun j u hj => by rw [Nat.zero_add, PH.sub.cell hs (by first | exact single_self _ _ | exact pset_self _ _ _ | assumption)]; exact hj))) (.cons (.tmp rfl) .nil)) rfl rfl rfl rfl ⟨a, ok, rfl, .inr ⟨hx, t, y, ht, hy, .inr ⟨hc38, hR⟩⟩, rfl⟩
        ·
          refine DL.one rfl (Eff.alloc 115 zc44) rfl (by rintro _ _ ⟨b15, rfl, rfl⟩; repeat (first | exact .nil | refine .cons rfl ?_)) ?_
          rintro _ _ ⟨b15, rfl, rfl⟩
          refine DL.one rfl (Yld.eff (Yld.eq (v' := .tuple #[a.val, .bool ok]) (Yld.lookupOk (c := 157) (k := (kindOf m.is t.2.i, decide (t.2.f = 0), ph)) Tryd.underlying91 key94 zv44 rfl rfl rfl (by assumption)) (by rw [← hgo, ← hgi]; rfl))) rfl (by rintro _ _ ⟨rfl, rfl⟩; repeat (first | exact .nil | refine .cons rfl ?_)) ?_
          rintro _ _ ⟨rfl, rfl⟩
          refine DL.q rfl (Yld.move rfl) rfl ?_
          refine DL.q rfl (Yld.extract rfl rfl) rfl ?_
          refine DL.q rfl (Yld.extract rfl rfl) rfl ?_
          refine DL.one0 rfl (Eff.storeS (c := 115) _ sz44 rfl rfl rfl rfl rfl rfl rfl (by (try simp only [putAt, List.take, List.drop, List.nil_append, List.cons_append, List.append_nil, List.length_cons, List.length_nil, Nat.add_zero, Nat.zero_add, Nat.reduceAdd]); rfl)) (by rintro _ _ rfl; repeat (first | exact .nil | refine .cons rfl ?_)) ?_
          rintro _ _ rfl
          refine DL.q rfl (Yld.assign rfl) rfl ?_
          refine DL.done ?_
          refine N.next ?_
          refine W.keep (.cons (k := 8) rfl (.cons (k := 15) rfl (.cons (k := 16) rfl .nil))) (.cons (k := 0) rfl (.cons (k := 1) rfl (.cons (k := 104) rfl (.cons (k := 105) rfl (.cons (k := 108) rfl (.cons (k := 110) rfl (.cons (k := 115) rfl (.cons (k := 157) rfl .nil)))))))) ?_
          refine W.seq ?_
          refine W.region ?_
          refine RL.q (Yld.loadW (c := 115) Tryd.underlying44 rfl sz44 rfl rfl (by first | exact single_self _ _ | exact pset_self _ _ _ | assumption) rfl) rfl ?_
          refine RL.q (Yld.move rfl) rfl ?_
          refine RL.e0 (Eff.storeS (c := 108) _ sz44 rfl rfl rfl rfl rfl rfl rfl (by (try simp only [putAt, List.take, List.drop, List.nil_append, List.cons_append, List.append_nil, List.length_cons, List.length_nil, Nat.add_zero, Nat.zero_add, Nat.reduceAdd]); rfl)) ?_
          rintro _ _ rfl
          refine RL.q (Yld.assign rfl) rfl ?_
          refine RL.nil ?_
          refine N.next ?_
          refine W.keep (.cons (k := 8) rfl (.cons (k := 9) rfl .nil)) (.cons (k := 0) rfl (.cons (k := 1) rfl (.cons (k := 104) rfl (.cons (k := 105) rfl (.cons (k := 108) rfl (.cons (k := 110) rfl (.cons (k := 115) rfl (.cons (k := 157) rfl .nil)))))))) ?_
          refine W.ret ?_
          exact N.retBy [1] (.cons (by first | exact .cell (c := 108) rfl rfl (fun w hs => run_loadVarA Tryd.underlying44 rfl sz44 rfl (fun j u hj => by rw [Nat.zero_add, PH.sub.cell hs (by first | exact single_self _ _ | exact pset_self _ _ _ | assumption)]; exact hj))) (.cons (.tmp rfl) .nil)) rfl rfl rfl rfl ⟨a, ok, rfl, .inr ⟨hx, t, y, ht, hy, .inr ⟨hc38, hR⟩⟩, rfl⟩
      ·
        refine DL.one rfl (Eff.alloc 115 zc44) rfl (by rintro _ _ ⟨b15, rfl, rfl⟩; repeat (first | exact .nil | refine .cons rfl ?_)) ?_
        rintro _ _ ⟨b15, rfl, rfl⟩
        refine DL.one rfl (Eff.call ent34 [] [157] (.cons rfl (.cons rfl (.cons rfl .nil))) (actions_ct (kindOf m.is t.2.i) t.2 y) rfl rfl rfl rfl (by rintro _ _ ⟨_, _, _, _, _, _, _, rfl⟩; rfl)) rfl (by rintro _ _ ⟨_, ⟨b57, es, ck, mm, rfl, hM, hmg, rfl⟩, rfl⟩; repeat (first | exact .nil | refine .cons rfl ?_)) ?_
        rintro _ _ ⟨_, ⟨b57, es, ck, mm, rfl, hM, hmg, rfl⟩, rfl⟩
        obtain ⟨a, ok, hgo, hgi, hR⟩ := act_look hmg (kindOf m.is t.2.i, decide (t.2.f = 0), ph)
        refine DL.one rfl (Yld.eff (Yld.eq (v' := .tuple #[a.val, .bool ok]) (Yld.lookupOk (c := 157) (k := (kindOf m.is t.2.i, decide (t.2.f = 0), ph)) Tryd.underlying91 key94 zv44 rfl rfl rfl (by assumption)) (by rw [← hgo, ← hgi]; rfl))) rfl (by rintro _ _ ⟨rfl, rfl⟩; repeat (first | exact .nil | refine .cons rfl ?_)) ?_
        rintro _ _ ⟨rfl, rfl⟩
        refine DL.q rfl (Yld.move rfl) rfl ?_
        refine DL.q rfl (Yld.extract rfl rfl) rfl ?_
        refine DL.q rfl (Yld.extract rfl rfl) rfl ?_
        refine DL.one0 rfl (Eff.storeS (c := 115) _ sz44 rfl rfl rfl rfl rfl rfl rfl (by (try simp only [putAt, List.take, List.drop, List.nil_append, List.cons_append, List.append_nil, List.length_cons, List.length_nil, Nat.add_zero, Nat.zero_add, Nat.reduceAdd]); rfl)) (by rintro _ _ rfl; repeat (first | exact .nil | refine .cons rfl ?_)) ?_
        rintro _ _ rfl
        refine DL.q rfl (Yld.assign rfl) rfl ?_
        refine DL.done ?_
        refine N.next ?_
        refine W.keep (.cons (k := 8) rfl (.cons (k := 15) rfl (.cons (k := 16) rfl .nil))) (.cons (k := 0) rfl (.cons (k := 1) rfl (.cons (k := 104) rfl (.cons (k := 105) rfl (.cons (k := 108) rfl (.cons (k := 110) rfl (.cons (k := 115) rfl (.cons (k := 157) rfl .nil)))))))) ?_
        refine W.seq ?_
        refine W.region ?_
        refine RL.q (Yld.loadW (c := 115) Tryd.underlying44 rfl sz44 rfl rfl (by first | exact single_self _ _ | exact pset_self _ _ _ | assumption) rfl) rfl ?_
        refine RL.q (Yld.move rfl) rfl ?_
        refine RL.e0 (Eff.storeS (c := 108) _ sz44 rfl rfl rfl rfl rfl rfl rfl (by (try simp only [putAt, List.take, List.drop, List.nil_append, List.cons_append, List.append_nil, List.length_cons, List.length_nil, Nat.add_zero, Nat.zero_add, Nat.reduceAdd]); rfl)) ?_
        rintro _ _ rfl
        refine RL.q (Yld.assign rfl) rfl ?_
        refine RL.nil ?_
        refine N.next ?_
        refine W.keep (.cons (k := 8) rfl (.cons (k := 9) rfl .nil)) (.cons (k := 0) rfl (.cons (k := 1) rfl (.cons (k := 104) rfl (.cons (k := 105) rfl (.cons (k := 108) rfl (.cons (k := 110) rfl (.cons (k := 115) rfl (.cons (k := 157) rfl .nil)))))))) ?_
        refine W.ret ?_
        exact N.retBy [1] (.cons (by first | exact .cell (c := 108) rfl rfl (fun w hs => run_loadVarA Tryd.underlying44 rfl sz44 rfl (fun j u hj => by rw [Nat.zero_add, PH.sub.cell hs (by first | exact single_self _ _ | exact pset_self _ _ _ | assumption)]; exact hj))) (.cons (.tmp rfl) .nil)) rfl rfl rfl rfl ⟨a, ok, rfl, .inr ⟨hx, t, y, ht, hy, .inr ⟨hc38, hR⟩⟩, rfl⟩

end Go.Proofs.YtdblglgnhjankaaDoor
