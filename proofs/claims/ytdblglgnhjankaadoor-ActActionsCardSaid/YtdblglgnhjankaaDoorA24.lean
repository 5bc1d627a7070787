/- Action, in the reference. Written by program (walk2.py). -/
import Derived.Test.YtdblglgnhjankaaDoorA16
namespace Go.Proofs.YtdblglgnhjankaaDoor
open SL Cfg
set_option linter.unusedVariables false
set_option linter.unusedSimpArgs false
theorem ent35 : Ent Tryd.prog 35 := ⟨_, _, Tryd.func35, by kernel_rfl, rfl⟩
theorem ent36 : Ent Tryd.prog 36 := ⟨_, _, Tryd.func36, by kernel_rfl, rfl⟩
theorem ent37 : Ent Tryd.prog 37 := ⟨_, _, Tryd.func37, by kernel_rfl, rfl⟩
theorem ent39 : Ent Tryd.prog 39 := ⟨_, _, Tryd.func39, by kernel_rfl, rfl⟩
theorem ent38 : Ent Tryd.prog 38 := ⟨_, _, Tryd.func38, by kernel_rfl, rfl⟩
set_option maxRecDepth 100000 in
set_option maxHeartbeats 400000 in
theorem rmove_ct (s : Ins) (st : Int) (H1 : PH) (hs : s.In H1) (t : Int × Mv) (h1 : 1 ≤ st) (h2 : st ≤ s.xs.length) (hlt : (s.xs.map tmC)[(st - 1).toNat]? = some [.int .i64 t.1, .int .i64 t.2.i, .int .i64 t.2.f, .int .i64 t.2.t]) : Ct Tryd.prog 36 [.agg [.int .i64 s.g, .int .i64 s.v, .int .i64 s.sl, .slice s.pb s.nb s.cb, .slice s.pp s.xs.length s.cp, .slice s.ps s.ys.length s.cs, .bool s.ca, .int .i64 s.se, .int .i64 s.ou].toArray, .int .i64 st] [H1] (fun v Hs => v = .agg [.int .i64 t.2.i, .int .i64 t.2.f, .int .i64 t.2.t].toArray ∧ Hs = [H1]) := by
  refine Ct.body Tryd.func36 rfl Tryd.ntmps36 rfl ?_
  intro E F
  have hsx := hs.xs
  have hqx := hsx.len_le
  simp only [List.length_map, maxLen] at hqx
  refine W.seq ?_
  refine W.region ?_
  refine RL.e (Eff.box 102 _ rfl rfl) rfl ?_
  rintro _ _ ⟨b2, rfl, rfl⟩
  refine RL.e (Eff.alloc 104 zc84) rfl ?_
  rintro _ _ ⟨b4, rfl, rfl⟩
  refine RL.nil ?_
  refine N.next ?_
  refine W.seq ?_
  refine W.region ?_
  refine RL.q (Yld.fieldAddr fo38_4 rfl) rfl ?_
  refine RL.q (Yld.fieldAddr fo35_0 rfl) rfl ?_
  refine RL.q (Yld.load1 (c := 102) Tryd.underlying33 rfl rfl rfl (by first | exact single_self _ _ | exact pset_self _ _ _ | assumption) rfl) rfl ?_
  refine RL.q (Yld.move rfl) rfl ?_
  refine RL.q (Yld.bin rfl rfl (by first | exact BinV.sub (by omega) (by omega) | exact BinV.subW)) rfl ?_
  refine RL.q (Yld.indexRow Tryd.underlying33 sz86 rfl rfl (by first | assumption | exact Own.sl (by assumption)) (by first | rfl | omega | (simp; done) | (simp; omega)) (by omega) (by first | omega | (simp; done) | (simp; omega))) rfl ?_
  refine RL.q (Yld.fieldAddr fo86_1 rfl) rfl ?_
  refine RL.q (by first | exact Yld.loadRowP (cl := 104) (j := 1) Tryd.underlying84 rfl sz84 rfl rfl (by first | assumption | exact Own.sl (by assumption)) (by assumption) rfl rfl | exact Yld.loadRowP (cl := 102) (j := 1) Tryd.underlying84 rfl sz84 rfl rfl (by first | assumption | exact Own.sl (by assumption)) (by assumption) rfl rfl | exact Yld.loadRowP (cl := 1) (j := 1) Tryd.underlying84 rfl sz84 rfl rfl (by first | assumption | exact Own.sl (by assumption)) (by assumption) rfl rfl) rfl ?_
  refine RL.e0 (Eff.storeS (c := 104) _ sz84 rfl rfl rfl rfl rfl rfl rfl (by (try simp only [putAt, List.take, List.drop, List.nil_append, List.cons_append, List.append_nil, List.length_cons, List.length_nil, Nat.add_zero, Nat.zero_add, Nat.reduceAdd]); rfl)) ?_
  rintro _ _ rfl
  refine RL.nil ?_
  refine N.next ?_
  refine W.keep (.cons (k := 4) rfl .nil) (.cons (k := 0) rfl (.cons (k := 1) rfl (.cons (k := 102) rfl (.cons (k := 104) rfl .nil)))) ?_
  refine W.ret ?_
  exact N.retBy [1] (.cons (by first | exact .cell (c := 104) rfl rfl (fun w hs => run_loadVarA Tryd.underlying84 rfl sz84 rfl (fun j u hj => by rw [Nat.zero_add, PH.sub.cell hs (by first | exact single_self _ _ | exact pset_self _ _ _ | assumption)]; exact hj))) .nil) rfl rfl rfl rfl ⟨rfl, rfl⟩

set_option maxRecDepth 100000 in
set_option maxHeartbeats 400000 in
theorem rgroup_ct (a : Ac) (i r : Int) : Ct Tryd.prog 38 [.agg [.int .i64 a.k, .int .i64 a.m, .int .i64 a.g, .int .i64 a.c, .int .i64 a.r, .int .i64 a.uk, .int .i64 a.ui, .int .i64 a.ur, .int .i64 a.uv].toArray, .int .i64 i, .int .i64 r] [] (fun v Hs => v = .agg [.int .i64 (⟨a.k, a.m, i, a.c, r, a.uk, a.ui, a.ur, a.uv⟩ : Ac).k, .int .i64 (⟨a.k, a.m, i, a.c, r, a.uk, a.ui, a.ur, a.uv⟩ : Ac).m, .int .i64 (⟨a.k, a.m, i, a.c, r, a.uk, a.ui, a.ur, a.uv⟩ : Ac).g, .int .i64 (⟨a.k, a.m, i, a.c, r, a.uk, a.ui, a.ur, a.uv⟩ : Ac).c, .int .i64 (⟨a.k, a.m, i, a.c, r, a.uk, a.ui, a.ur, a.uv⟩ : Ac).r, .int .i64 (⟨a.k, a.m, i, a.c, r, a.uk, a.ui, a.ur, a.uv⟩ : Ac).uk, .int .i64 (⟨a.k, a.m, i, a.c, r, a.uk, a.ui, a.ur, a.uv⟩ : Ac).ui, .int .i64 (⟨a.k, a.m, i, a.c, r, a.uk, a.ui, a.ur, a.uv⟩ : Ac).ur, .int .i64 (⟨a.k, a.m, i, a.c, r, a.uk, a.ui, a.ur, a.uv⟩ : Ac).uv].toArray ∧ Hs = []) := by
  refine Ct.body Tryd.func38 rfl Tryd.ntmps38 rfl ?_
  intro E F
  refine W.seq ?_
  refine W.region ?_
  refine RL.e (Eff.box 103 _ rfl rfl) rfl ?_
  rintro _ _ ⟨b3, rfl, rfl⟩
  refine RL.e (Eff.alloc 106 zc44) rfl ?_
  rintro _ _ ⟨b6, rfl, rfl⟩
  refine RL.nil ?_
  refine N.next ?_
  refine W.seq ?_
  refine W.region ?_
  refine RL.q (Yld.move rfl) rfl ?_
  refine RL.q (Yld.move rfl) rfl ?_
  refine RL.q (Yld.fieldAddr fo44_2 rfl) rfl ?_
  refine RL.e0 (Eff.storeS (c := 103) _ sz3 rfl rfl rfl rfl rfl rfl rfl (by (try simp only [putAt, List.take, List.drop, List.nil_append, List.cons_append, List.append_nil, List.length_cons, List.length_nil, Nat.add_zero, Nat.zero_add, Nat.reduceAdd]); rfl)) ?_
  rintro _ _ rfl
  refine RL.q (Yld.fieldAddr fo44_4 rfl) rfl ?_
  refine RL.e0 (Eff.storeS (c := 103) _ sz3 rfl rfl rfl rfl rfl rfl rfl (by (try simp only [putAt, List.take, List.drop, List.nil_append, List.cons_append, List.append_nil, List.length_cons, List.length_nil, Nat.add_zero, Nat.zero_add, Nat.reduceAdd]); rfl)) ?_
  rintro _ _ rfl
  refine RL.nil ?_
  refine N.next ?_
  refine W.keep (.cons (k := 3) rfl (.cons (k := 6) rfl .nil)) (.cons (k := 0) rfl (.cons (k := 103) rfl (.cons (k := 106) rfl .nil))) ?_
  refine W.seq ?_
  refine W.region ?_
  refine RL.q (Yld.loadW (c := 103) Tryd.underlying44 rfl sz44 rfl rfl (by first | exact single_self _ _ | exact pset_self _ _ _ | assumption) rfl) rfl ?_
  refine RL.e0 (Eff.storeS (c := 106) _ sz44 rfl rfl rfl rfl rfl rfl rfl (by (try simp only [putAt, List.take, List.drop, List.nil_append, List.cons_append, List.append_nil, List.length_cons, List.length_nil, Nat.add_zero, Nat.zero_add, Nat.reduceAdd]); rfl)) ?_
  rintro _ _ rfl
  refine RL.nil ?_
  refine N.next ?_
  refine W.ret ?_
  exact N.retBy [] (.cons (by first | exact .cell (c := 106) rfl rfl (fun w hs => run_loadVarA Tryd.underlying44 rfl sz44 rfl (fun j u hj => by rw [Nat.zero_add, PH.sub.cell hs (by first | exact single_self _ _ | exact pset_self _ _ _ | assumption)]; exact hj))) .nil) rfl rfl rfl rfl ⟨rfl, rfl⟩

set_option maxRecDepth 100000 in
set_option maxHeartbeats 400000 in
theorem runit_ct (mc kd i r vl : Int) : Ct Tryd.prog 39 [.int .i64 mc, .int .i64 kd, .int .i64 i, .int .i64 r, .int .i64 vl] [] (fun v Hs => v = .agg [.int .i64 (⟨0, mc, 0, 0, 0, kd, i, r, vl⟩ : Ac).k, .int .i64 (⟨0, mc, 0, 0, 0, kd, i, r, vl⟩ : Ac).m, .int .i64 (⟨0, mc, 0, 0, 0, kd, i, r, vl⟩ : Ac).g, .int .i64 (⟨0, mc, 0, 0, 0, kd, i, r, vl⟩ : Ac).c, .int .i64 (⟨0, mc, 0, 0, 0, kd, i, r, vl⟩ : Ac).r, .int .i64 (⟨0, mc, 0, 0, 0, kd, i, r, vl⟩ : Ac).uk, .int .i64 (⟨0, mc, 0, 0, 0, kd, i, r, vl⟩ : Ac).ui, .int .i64 (⟨0, mc, 0, 0, 0, kd, i, r, vl⟩ : Ac).ur, .int .i64 (⟨0, mc, 0, 0, 0, kd, i, r, vl⟩ : Ac).uv].toArray ∧ Hs = []) := by
  refine Ct.body Tryd.func39 rfl Tryd.ntmps39 rfl ?_
  intro E F
  refine W.seq ?_
  refine W.region ?_
  refine RL.e (Eff.alloc 110 zc44) rfl ?_
  rintro _ _ ⟨b10, rfl, rfl⟩
  refine RL.nil ?_
  refine N.next ?_
  refine W.seq ?_
  refine W.region ?_
  refine RL.q (Yld.move rfl) rfl ?_
  refine RL.q (Yld.move rfl) rfl ?_
  refine RL.q (Yld.move rfl) rfl ?_
  refine RL.q (Yld.move rfl) rfl ?_
  refine RL.q (Yld.move rfl) rfl ?_
  refine RL.q (Yld.buildP lay42 (.cons rfl rfl (.cons rfl rfl (.cons rfl rfl (.cons rfl rfl .nil)))) rfl) rfl ?_
  refine RL.q (Yld.buildP lay44 (.cons rfl rfl (.cons rfl rfl (.cons rfl rfl .nil))) rfl) rfl ?_
  refine RL.e0 (Eff.storeS (c := 110) _ sz44 rfl rfl rfl rfl rfl rfl rfl (by (try simp only [putAt, List.take, List.drop, List.nil_append, List.cons_append, List.append_nil, List.length_cons, List.length_nil, Nat.add_zero, Nat.zero_add, Nat.reduceAdd]); rfl)) ?_
  rintro _ _ rfl
  refine RL.nil ?_
  refine N.next ?_
  refine W.keep (.cons (k := 10) rfl .nil) (.cons (k := 0) rfl (.cons (k := 110) rfl .nil)) ?_
  refine W.ret ?_
  exact N.retBy [] (.cons (by first | exact .cell (c := 110) rfl rfl (fun w hs => run_loadVarA Tryd.underlying44 rfl sz44 rfl (fun j u hj => by rw [Nat.zero_add, PH.sub.cell hs (by first | exact single_self _ _ | exact pset_self _ _ _ | assumption)]; exact hj))) .nil) rfl rfl rfl rfl ⟨rfl, rfl⟩

theorem Cfg.phs0 {k : Int} {x : Mv} (h : (phs k x).1 ≠ 0) (hk : k = 0) : x.f ≠ 0 ∧ phs k x = (5, 4, 1) := by
  subst hk
  unfold phs at *
  split at h
  · rename_i h1; exact ⟨h1.2.1, if_pos h1⟩
  · rw [if_neg (by omega), if_neg (by omega), if_neg (by omega)] at h; exact absurd rfl h
theorem Cfg.phs2 {k : Int} {x : Mv} (h : (phs k x).1 ≠ 0) (hk : k = 2) : x.f ≠ 0 ∧ phs k x = (3, 2, 1) := by
  subst hk
  unfold phs at *
  rw [if_neg (by omega)] at h ⊢
  split at h
  · rename_i h1; exact ⟨h1.2.1, if_pos h1⟩
  · rw [if_neg (by omega), if_neg (by omega)] at h; exact absurd rfl h
theorem Cfg.phs1 {k : Int} {x : Mv} (h : (phs k x).1 ≠ 0) (h0 : k ≠ 0) (h2 : k ≠ 2) : k = 1 ∧ ((x.f = 0 ∧ phs k x = (1, 1, 0)) ∨ (x.f ≠ 0 ∧ phs k x = (2, 1, 0))) := by
  unfold phs at *
  rw [if_neg (by omega), if_neg (by omega)] at h ⊢
  split at h
  · rename_i h1; exact ⟨h1.1, .inl ⟨h1.2.1, if_pos h1⟩⟩
  · rename_i h1
    rw [if_neg h1]
    split at h
    · rename_i h3; exact ⟨h3.1, .inr ⟨h3.2.1, if_pos h3⟩⟩
    · exact absurd rfl h
theorem Cfg.look_none {k : Int} {x : Mv} {y : St} {s ph : Int} (h : (phs k x).1 ≠ 0) (hp : ph < 1 ∨ ((phs k x).1 < ph ∧ (ph ≠ 11 ∨ (phs k x).2.2 = 0))) (v : Value) : ¬ actD (fun _ => true) x y s (k, decide (x.f = 0), ph) v := by
  by_cases h0 : k = 0
  · obtain ⟨hf, e⟩ := phs0 h h0
    rw [e] at hp
    intro ha
    simp only [actD, Prod.mk.injEq] at ha
    rcases ha with ha | ha | ha | ha | ha | ha | ha | ha | ha | ha | ha | ha | ha <;> (have := ha.2.1; obtain ⟨q1, q2, q3⟩ := this; simp at hp <;> omega)
  by_cases h2 : k = 2
  · obtain ⟨hf, e⟩ := phs2 h h2
    rw [e] at hp
    intro ha
    simp only [actD, Prod.mk.injEq] at ha
    rcases ha with ha | ha | ha | ha | ha | ha | ha | ha | ha | ha | ha | ha | ha <;> (have := ha.2.1; obtain ⟨q1, q2, q3⟩ := this; simp at hp <;> omega)
  obtain ⟨h1, ⟨hf, e⟩ | ⟨hf, e⟩⟩ := phs1 h h0 h2
  all_goals
    rw [e] at hp
    intro ha
    simp only [actD, Prod.mk.injEq] at ha
    rcases ha with ha | ha | ha | ha | ha | ha | ha | ha | ha | ha | ha | ha | ha <;> (have := ha.2.1; obtain ⟨q1, q2, q3⟩ := this; simp [hf] at hp q2 <;> omega)
theorem Cfg.val_inj {a b : Ac} (h : a.val = b.val) : a = b := by
  obtain ⟨a1, a2, a3, a4, a5, a6, a7, a8, a9⟩ := a
  obtain ⟨b1, b2, b3, b4, b5, b6, b7, b8, b9⟩ := b
  simpa [Ac.val] using h
theorem Cfg.actD_one {x : Mv} {y : St} {s : Int} {q : Int × Bool × Int} {u v : Value} (h : actD (fun _ => true) x y s q u) (h' : actD (fun _ => true) x y s q v) : u = v := by
  unfold actD at h h'
  rcases h with h | h | h | h | h | h | h | h | h | h | h | h | h <;> (obtain ⟨_, rfl, rfl⟩ := h; simp only [Prod.mk.injEq] at h'; simp at h'; exact h'.symm)
theorem Cfg.look_one {x : Mv} {y : St} {s : Int} {q : Int × Bool × Int} {a b : Ac} {ok is : Bool} (h : LookR x y s q a ok) (h' : LookR x y s q b is) : a = b ∧ ok = is := by
  rcases h with ⟨rfl, h⟩ | ⟨rfl, rfl, h⟩ <;> rcases h' with ⟨rfl, h'⟩ | ⟨rfl, rfl, h'⟩
  · exact ⟨val_inj (actD_one h h'), rfl⟩
  · exact (h' _ h).elim
  · exact (h _ h').elim
  · exact ⟨rfl, rfl⟩
theorem Cfg.actR_one {m : Md} {s : Ins} {st ph : Int} {a b : Ac} {ok is : Bool} (h : ActR m s st ph a ok) (h' : ActR m s st ph b is) : a = b ∧ ok = is := by
  rcases h with ⟨e, rfl, rfl⟩ | ⟨e, t, y, ht, hy, h⟩ <;> rcases h' with ⟨e', rfl, rfl⟩ | ⟨e', t', y', ht', hy', h'⟩
  · exact ⟨rfl, rfl⟩
  · rw [e] at e'; cases e'
  · rw [e] at e'; cases e'
  · obtain rfl := Option.some.inj (ht.symm.trans ht')
    obtain rfl := Option.some.inj (hy.symm.trans hy')
    rcases h with ⟨e1, rfl, rfl⟩ | ⟨e1, h⟩ <;> rcases h' with ⟨e2, rfl, rfl⟩ | ⟨e2, h'⟩
    · exact ⟨rfl, rfl⟩
    · exact absurd e1 e2
    · exact absurd e2 e1
    · exact look_one h h'

set_option maxRecDepth 100000 in
set_option maxHeartbeats 6400000 in
theorem raction_ct (m : Md) (s : Ins) (H1 : PH) (hm : m.In H1) (hs : s.In H1) (st ph : Int) : Ct Tryd.prog 13 [.agg [.slice m.a0 m.n0 m.c0, .slice m.a1 m.n1 m.c1, .slice m.a2 m.n2 m.c2, .slice m.pm m.ms.length m.cm, .slice m.a4 m.n4 m.c4, .slice m.pi m.is.length m.ci, .int .i64 m.d0, .int .i64 m.d1, .int .i64 m.d2, .int .i64 m.d3, .slice m.a5 m.n5 m.c5].toArray, .agg [.int .i64 s.g, .int .i64 s.v, .int .i64 s.sl, .slice s.pb s.nb s.cb, .slice s.pp s.xs.length s.cp, .slice s.ps s.ys.length s.cs, .bool s.ca, .int .i64 s.se, .int .i64 s.ou].toArray, .int .i64 st, .int .i64 ph] [H1] (fun v Hs => ∃ a ok, v = .tuple #[a.val, .bool ok] ∧ ActR m s st ph a ok ∧ Hs = [H1]) := by
  refine Ct.body Tryd.func13 rfl Tryd.ntmps13 rfl ?_
  intro E F
  have hmxi := hm.is.len_le
  have hmxx := hs.xs.len_le
  have hmxy := hs.ys.len_le
  simp only [List.length_map, maxLen] at hmxi hmxx hmxy
  have hsi := hm.is
  have hsx := hs.xs
  have hsy := hs.ys
  refine W.seq ?_
  refine W.region ?_
  refine RL.e (Eff.box 104 _ rfl rfl) rfl ?_
  rintro _ _ ⟨b4, rfl, rfl⟩
  refine RL.e (Eff.box 105 _ rfl rfl) rfl ?_
  rintro _ _ ⟨b5, rfl, rfl⟩
  refine RL.e (Eff.alloc 108 zc44) rfl ?_
  rintro _ _ ⟨b8, rfl, rfl⟩
  refine RL.q (Yld.assign rfl) rfl ?_
  refine RL.nil ?_
  refine N.next ?_
  refine W.seq ?_
  refine W.seq ?_
  refine W.region ?_
  refine RL.q (Yld.loadW (c := 105) Tryd.underlying38 rfl sz38 rfl rfl (by first | exact single_self _ _ | exact pset_self _ _ _ | assumption) rfl) rfl ?_
  refine RL.q (Yld.move rfl) rfl ?_
  refine RL.e (Eff.call ent35 [] [] (.cons rfl (.cons rfl .nil)) (rexists_ct s st) rfl rfl rfl rfl (by rintro _ _ ⟨_, rfl⟩; rfl)) rfl ?_
  rintro _ _ ⟨_, ⟨rfl, rfl⟩, rfl⟩
  refine RL.q (by first | exact Yld.notD rfl | exact Yld.not rfl) rfl ?_
  refine RL.nil ?_
  refine N.next ?_
  refine W.keep (.cons (k := 2) rfl (.cons (k := 3) rfl (.cons (k := 4) rfl (.cons (k := 5) rfl (.cons (k := 8) rfl (.cons (k := 19) rfl .nil)))))) (.cons (k := 0) rfl (.cons (k := 1) rfl (.cons (k := 104) rfl (.cons (k := 105) rfl (.cons (k := 108) rfl .nil))))) ?_
  refine W.cond rfl (fun hc19 => ?_) (fun hc19 => ?_)
  ·
    have hx : exB s st = false := by simpa using hc19
    refine W.seq ?_
    refine W.region ?_
    refine RL.q (Yld.buildP lay44 .nil rfl) rfl ?_
    refine RL.e0 (Eff.storeS (c := 108) _ sz44 rfl rfl rfl rfl rfl rfl rfl (by (try simp only [putAt, List.take, List.drop, List.nil_append, List.cons_append, List.append_nil, List.length_cons, List.length_nil, Nat.add_zero, Nat.zero_add, Nat.reduceAdd]); rfl)) ?_
    rintro _ _ rfl
    refine RL.q (Yld.assign rfl) rfl ?_
    refine RL.nil ?_
    refine N.next ?_
    refine W.keep (.cons (k := 8) rfl (.cons (k := 9) rfl .nil)) (.cons (k := 0) rfl (.cons (k := 1) rfl (.cons (k := 104) rfl (.cons (k := 105) rfl (.cons (k := 108) rfl .nil))))) ?_
    refine W.ret ?_
    refine N.then_ret ?_
    exact N.retBy [1] (.cons (by first | exact .cell (c := 108) rfl rfl (fun w hs => run_loadVarA Tryd.underlying44 rfl sz44 rfl (fun j u hj => by rw [Nat.zero_add, PH.sub.cell hs (by first | exact single_self _ _ | exact pset_self _ _ _ | assumption)]; exact hj))) (.cons (.tmp rfl) .nil)) rfl rfl rfl rfl ⟨ac0, false, rfl, .inl ⟨hx, rfl, rfl⟩, rfl⟩
  ·
    have hx : exB s st = true := by simpa using hc19
    obtain ⟨t, y, ht, hy, hlt, hly, hst1, hst2, hst3⟩ := ex_rows hx
    refine W.skip ?_
    refine N.next ?_
    refine W.cutK (ι := Nat × Nat) (fun z => True) (fun z => [(10, .pointer (some ⟨z.1, 0, none⟩)), (11, .pointer (some ⟨z.2, 0, none⟩))]) (fun z => [(110, single z.1 (.cells [.int .i64 t.2.i, .int .i64 t.2.f, .int .i64 t.2.t].toArray 84 (0, 0))), (111, single z.2 (.cells [.int .i64 y.d, .int .i64 y.b, .int .i64 y.r, .int .i64 y.v].toArray 49 (0, 0)))]) (.cons (k := 3) rfl (.cons (k := 4) rfl (.cons (k := 8) rfl .nil))) (.cons (k := 0) rfl (.cons (k := 1) rfl (.cons (k := 104) rfl (.cons (k := 105) rfl (.cons (k := 108) rfl .nil))))) ?_ ?_
    ·
      refine W.draw (.q 0 (.q 1 (.q 3 (.q 4 (.q 5 (.q 6 (.q 7 (.q 8 (.three 2 (.two 9 (.one 10 (.one 11 (.one 12 .done))) 10 (.one 9 (.one 11 (.one 12 .done)))) 9 (.two 2 (.one 10 (.one 11 (.one 12 .done))) 10 (.one 2 (.one 11 (.one 12 .done)))) 10 (.two 2 (.one 9 (.one 11 (.one 12 .done))) 9 (.one 2 (.one 11 (.one 12 .done))))))))))))) (.cons (k := 0) rfl (.cons (k := 1) rfl (.cons (k := 104) rfl (.cons (k := 105) rfl (.cons (k := 108) rfl .nil))))) mix (by kernel_rfl) (by kernel_rfl) ?_
      refine DL.q rfl (Yld.loadW (c := 105) Tryd.underlying38 rfl sz38 rfl rfl (by first | exact single_self _ _ | exact pset_self _ _ _ | assumption) rfl) rfl ?_
      refine DL.q rfl (Yld.move rfl) rfl ?_
      refine DL.q rfl (Yld.fieldAddr fo38_5 rfl) rfl ?_
      refine DL.q rfl (Yld.load1 (c := 105) Tryd.underlying36 rfl rfl rfl (by first | exact single_self _ _ | exact pset_self _ _ _ | assumption) rfl) rfl ?_
      refine DL.q rfl (Yld.move rfl) rfl ?_
      refine DL.q rfl (Yld.bin rfl rfl (by first | exact BinV.sub (by omega) (by omega) | exact BinV.subW)) rfl ?_
      refine DL.q rfl (Yld.indexRow Tryd.underlying36 sz49 rfl rfl (by first | assumption | exact Own.sl (by assumption)) (by first | rfl | omega | (simp; done) | (simp; omega)) (by omega) (by first | omega | (simp; done) | (simp; omega))) rfl ?_
      refine DL.q rfl (by first | exact Yld.loadRow (cl := 108) Tryd.underlying49 rfl sz49 rfl rfl (by first | assumption | exact Own.sl (by assumption)) (by assumption) | exact Yld.loadRow (cl := 105) Tryd.underlying49 rfl sz49 rfl rfl (by first | assumption | exact Own.sl (by assumption)) (by assumption) | exact Yld.loadRow (cl := 104) Tryd.underlying49 rfl sz49 rfl rfl (by first | assumption | exact Own.sl (by assumption)) (by assumption) | exact Yld.loadRow (cl := 1) Tryd.underlying49 rfl sz49 rfl rfl (by first | assumption | exact Own.sl (by assumption)) (by assumption)) rfl ?_
      refine DL.three ?_ ?_ ?_
      ·
        refine DL.one rfl (Eff.call ent36 [1] [1] (.cons rfl (.cons rfl .nil)) (rmove_ct s st H1 hs t hst1 hst2 hlt) rfl rfl rfl rfl (by rintro _ _ ⟨_, rfl⟩; rfl)) rfl (by rintro _ _ ⟨_, ⟨rfl, rfl⟩, rfl⟩; repeat (first | exact .nil | refine .cons rfl ?_)) ?_
        rintro _ _ ⟨_, ⟨rfl, rfl⟩, rfl⟩
        refine DL.two ?_ ?_
        ·
          refine DL.one rfl (Eff.alloc 110 zc84) rfl (by rintro _ _ ⟨b10, rfl, rfl⟩; repeat (first | exact .nil | refine .cons rfl ?_)) ?_
          rintro _ _ ⟨b10, rfl, rfl⟩
          refine DL.one rfl (Eff.alloc 111 zc49) rfl (by rintro _ _ ⟨b11, rfl, rfl⟩; repeat (first | exact .nil | refine .cons rfl ?_)) ?_
          rintro _ _ ⟨b11, rfl, rfl⟩
          refine DL.one0 rfl (Eff.storeS (c := 110) _ sz84 rfl rfl rfl rfl rfl rfl rfl (by (try simp only [putAt, List.take, List.drop, List.nil_append, List.cons_append, List.append_nil, List.length_cons, List.length_nil, Nat.add_zero, Nat.zero_add, Nat.reduceAdd]); rfl)) (by rintro _ _ rfl; repeat (first | exact .nil | refine .cons rfl ?_)) ?_
          rintro _ _ rfl
          refine DL.one0 rfl (Eff.storeS (c := 111) _ sz49 rfl rfl rfl rfl rfl rfl rfl (by (try simp only [putAt, List.take, List.drop, List.nil_append, List.cons_append, List.append_nil, List.length_cons, List.length_nil, Nat.add_zero, Nat.zero_add, Nat.reduceAdd]); rfl)) (by rintro _ _ rfl; repeat (first | exact .nil | refine .cons rfl ?_)) ?_
          rintro _ _ rfl
          refine DL.done ?_
          exact N.famK (b10, b11) trivial (.as rfl (by first | rfl | (simp; done) | (congr 1; simp; done) | (congr 1; omega)) (.as rfl (by first | rfl | (simp; done) | (congr 1; simp; done) | (congr 1; omega)) .nil)) (.cons rfl (.cons rfl (.cons rfl .nil))) (.cons rfl (.cons rfl .nil)) (.cons rfl (.cons rfl (.cons rfl (.cons rfl (.cons rfl .nil)))))
        ·
          refine DL.one rfl (Eff.alloc 111 zc49) rfl (by rintro _ _ ⟨b11, rfl, rfl⟩; repeat (first | exact .nil | refine .cons rfl ?_)) ?_
          rintro _ _ ⟨b11, rfl, rfl⟩
          refine DL.one rfl (Eff.alloc 110 zc84) rfl (by rintro _ _ ⟨b10, rfl, rfl⟩; repeat (first | exact .nil | refine .cons rfl ?_)) ?_
          rintro _ _ ⟨b10, rfl, rfl⟩
          refine DL.one0 rfl (Eff.storeS (c := 110) _ sz84 rfl rfl rfl rfl rfl rfl rfl (by (try simp only [putAt, List.take, List.drop, List.nil_append, List.cons_append, List.append_nil, List.length_cons, List.length_nil, Nat.add_zero, Nat.zero_add, Nat.reduceAdd]); rfl)) (by rintro _ _ rfl; repeat (first | exact .nil | refine .cons rfl ?_)) ?_
          rintro _ _ rfl
          refine DL.one0 rfl (Eff.storeS (c := 111) _ sz49 rfl rfl rfl rfl rfl rfl rfl (by (try simp only [putAt, List.take, List.drop, List.nil_append, List.cons_append, List.append_nil, List.length_cons, List.length_nil, Nat.add_zero, Nat.zero_add, Nat.reduceAdd]); rfl)) (by rintro _ _ rfl; repeat (first | exact .nil | refine .cons rfl ?_)) ?_
          rintro _ _ rfl
          refine DL.done ?_
          exact N.famK (b10, b11) trivial (.as rfl (by first | rfl | (simp; done) | (congr 1; simp; done) | (congr 1; omega)) (.as rfl (by first | rfl | (simp; done) | (congr 1; simp; done) | (congr 1; omega)) .nil)) (.cons rfl (.cons rfl (.cons rfl .nil))) (.cons rfl (.cons rfl .nil)) (.cons rfl (.cons rfl (.cons rfl (.cons rfl (.cons rfl .nil)))))
      ·
        refine DL.one rfl (Eff.alloc 110 zc84) rfl (by rintro _ _ ⟨b10, rfl, rfl⟩; repeat (first | exact .nil | refine .cons rfl ?_)) ?_
        rintro _ _ ⟨b10, rfl, rfl⟩
        refine DL.two ?_ ?_
        ·
          refine DL.one rfl (Eff.call ent36 [1] [1] (.cons rfl (.cons rfl .nil)) (rmove_ct s st H1 hs t hst1 hst2 hlt) rfl rfl rfl rfl (by rintro _ _ ⟨_, rfl⟩; rfl)) rfl (by rintro _ _ ⟨_, ⟨rfl, rfl⟩, rfl⟩; repeat (first | exact .nil | refine .cons rfl ?_)) ?_
          rintro _ _ ⟨_, ⟨rfl, rfl⟩, rfl⟩
          refine DL.one rfl (Eff.alloc 111 zc49) rfl (by rintro _ _ ⟨b11, rfl, rfl⟩; repeat (first | exact .nil | refine .cons rfl ?_)) ?_
          rintro _ _ ⟨b11, rfl, rfl⟩
          refine DL.one0 rfl (Eff.storeS (c := 110) _ sz84 rfl rfl rfl rfl rfl rfl rfl (by (try simp only [putAt, List.take, List.drop, List.nil_append, List.cons_append, List.append_nil, List.length_cons, List.length_nil, Nat.add_zero, Nat.zero_add, Nat.reduceAdd]); rfl)) (by rintro _ _ rfl; repeat (first | exact .nil | refine .cons rfl ?_)) ?_
          rintro _ _ rfl
          refine DL.one0 rfl (Eff.storeS (c := 111) _ sz49 rfl rfl rfl rfl rfl rfl rfl (by (try simp only [putAt, List.take, List.drop, List.nil_append, List.cons_append, List.append_nil, List.length_cons, List.length_nil, Nat.add_zero, Nat.zero_add, Nat.reduceAdd]); rfl)) (by rintro _ _ rfl; repeat (first | exact .nil | refine .cons rfl ?_)) ?_
          rintro _ _ rfl
          refine DL.done ?_
          exact N.famK (b10, b11) trivial (.as rfl (by first | rfl | (simp; done) | (congr 1; simp; done) | (congr 1; omega)) (.as rfl (by first | rfl | (simp; done) | (congr 1; simp; done) | (congr 1; omega)) .nil)) (.cons rfl (.cons rfl (.cons rfl .nil))) (.cons rfl (.cons rfl .nil)) (.cons rfl (.cons rfl (.cons rfl (.cons rfl (.cons rfl .nil)))))
        ·
          refine DL.one rfl (Eff.alloc 111 zc49) rfl (by rintro _ _ ⟨b11, rfl, rfl⟩; repeat (first | exact .nil | refine .cons rfl ?_)) ?_
          rintro _ _ ⟨b11, rfl, rfl⟩
          refine DL.one rfl (Eff.call ent36 [1] [1] (.cons rfl (.cons rfl .nil)) (rmove_ct s st H1 hs t hst1 hst2 hlt) rfl rfl rfl rfl (by rintro _ _ ⟨_, rfl⟩; rfl)) rfl (by rintro _ _ ⟨_, ⟨rfl, rfl⟩, rfl⟩; repeat (first | exact .nil | refine .cons rfl ?_)) ?_
          rintro _ _ ⟨_, ⟨rfl, rfl⟩, rfl⟩
          refine DL.one0 rfl (Eff.storeS (c := 110) _ sz84 rfl rfl rfl rfl rfl rfl rfl (by (try simp only [putAt, List.take, List.drop, List.nil_append, List.cons_append, List.append_nil, List.length_cons, List.length_nil, Nat.add_zero, Nat.zero_add, Nat.reduceAdd]); rfl)) (by rintro _ _ rfl; repeat (first | exact .nil | refine .cons rfl ?_)) ?_
          rintro _ _ rfl
          refine DL.one0 rfl (Eff.storeS (c := 111) _ sz49 rfl rfl rfl rfl rfl rfl rfl (by (try simp only [putAt, List.take, List.drop, List.nil_append, List.cons_append, List.append_nil, List.length_cons, List.length_nil, Nat.add_zero, Nat.zero_add, Nat.reduceAdd]); rfl)) (by rintro _ _ rfl; repeat (first | exact .nil | refine .cons rfl ?_)) ?_
          rintro _ _ rfl
          refine DL.done ?_
          exact N.famK (b10, b11) trivial (.as rfl (by first | rfl | (simp; done) | (congr 1; simp; done) | (congr 1; omega)) (.as rfl (by first | rfl | (simp; done) | (congr 1; simp; done) | (congr 1; omega)) .nil)) (.cons rfl (.cons rfl (.cons rfl .nil))) (.cons rfl (.cons rfl .nil)) (.cons rfl (.cons rfl (.cons rfl (.cons rfl (.cons rfl .nil)))))
      ·
        refine DL.one rfl (Eff.alloc 111 zc49) rfl (by rintro _ _ ⟨b11, rfl, rfl⟩; repeat (first | exact .nil | refine .cons rfl ?_)) ?_
        rintro _ _ ⟨b11, rfl, rfl⟩
        refine DL.two ?_ ?_
        ·
          refine DL.one rfl (Eff.call ent36 [1] [1] (.cons rfl (.cons rfl .nil)) (rmove_ct s st H1 hs t hst1 hst2 hlt) rfl rfl rfl rfl (by rintro _ _ ⟨_, rfl⟩; rfl)) rfl (by rintro _ _ ⟨_, ⟨rfl, rfl⟩, rfl⟩; repeat (first | exact .nil | refine .cons rfl ?_)) ?_
          rintro _ _ ⟨_, ⟨rfl, rfl⟩, rfl⟩
          refine DL.one rfl (Eff.alloc 110 zc84) rfl (by rintro _ _ ⟨b10, rfl, rfl⟩; repeat (first | exact .nil | refine .cons rfl ?_)) ?_
          rintro _ _ ⟨b10, rfl, rfl⟩
          refine DL.one0 rfl (Eff.storeS (c := 110) _ sz84 rfl rfl rfl rfl rfl rfl rfl (by (try simp only [putAt, List.take, List.drop, List.nil_append, List.cons_append, List.append_nil, List.length_cons, List.length_nil, Nat.add_zero, Nat.zero_add, Nat.reduceAdd]); rfl)) (by rintro _ _ rfl; repeat (first | exact .nil | refine .cons rfl ?_)) ?_
          rintro _ _ rfl
          refine DL.one0 rfl (Eff.storeS (c := 111) _ sz49 rfl rfl rfl rfl rfl rfl rfl (by (try simp only [putAt, List.take, List.drop, List.nil_append, List.cons_append, List.append_nil, List.length_cons, List.length_nil, Nat.add_zero, Nat.zero_add, Nat.reduceAdd]); rfl)) (by rintro _ _ rfl; repeat (first | exact .nil | refine .cons rfl ?_)) ?_
          rintro _ _ rfl
          refine DL.done ?_
          exact N.famK (b10, b11) trivial (.as rfl (by first | rfl | (simp; done) | (congr 1; simp; done) | (congr 1; omega)) (.as rfl (by first | rfl | (simp; done) | (congr 1; simp; done) | (congr 1; omega)) .nil)) (.cons rfl (.cons rfl (.cons rfl .nil))) (.cons rfl (.cons rfl .nil)) (.cons rfl (.cons rfl (.cons rfl (.cons rfl (.cons rfl .nil)))))
        ·
          refine DL.one rfl (Eff.alloc 110 zc84) rfl (by rintro _ _ ⟨b10, rfl, rfl⟩; repeat (first | exact .nil | refine .cons rfl ?_)) ?_
          rintro _ _ ⟨b10, rfl, rfl⟩
          refine DL.one rfl (Eff.call ent36 [1] [1] (.cons rfl (.cons rfl .nil)) (rmove_ct s st H1 hs t hst1 hst2 hlt) rfl rfl rfl rfl (by rintro _ _ ⟨_, rfl⟩; rfl)) rfl (by rintro _ _ ⟨_, ⟨rfl, rfl⟩, rfl⟩; repeat (first | exact .nil | refine .cons rfl ?_)) ?_
          rintro _ _ ⟨_, ⟨rfl, rfl⟩, rfl⟩
          refine DL.one0 rfl (Eff.storeS (c := 110) _ sz84 rfl rfl rfl rfl rfl rfl rfl (by (try simp only [putAt, List.take, List.drop, List.nil_append, List.cons_append, List.append_nil, List.length_cons, List.length_nil, Nat.add_zero, Nat.zero_add, Nat.reduceAdd]); rfl)) (by rintro _ _ rfl; repeat (first | exact .nil | refine .cons rfl ?_)) ?_
          rintro _ _ rfl
          refine DL.one0 rfl (Eff.storeS (c := 111) _ sz49 rfl rfl rfl rfl rfl rfl rfl (by (try simp only [putAt, List.take, List.drop, List.nil_append, List.cons_append, List.append_nil, List.length_cons, List.length_nil, Nat.add_zero, Nat.zero_add, Nat.reduceAdd]); rfl)) (by rintro _ _ rfl; repeat (first | exact .nil | refine .cons rfl ?_)) ?_
          rintro _ _ rfl
          refine DL.done ?_
          exact N.famK (b10, b11) trivial (.as rfl (by first | rfl | (simp; done) | (congr 1; simp; done) | (congr 1; omega)) (.as rfl (by first | rfl | (simp; done) | (congr 1; simp; done) | (congr 1; omega)) .nil)) (.cons rfl (.cons rfl (.cons rfl .nil))) (.cons rfl (.cons rfl .nil)) (.cons rfl (.cons rfl (.cons rfl (.cons rfl (.cons rfl .nil)))))
    rintro ⟨b10, b11⟩ _
    refine W.keep (.cons (k := 10) rfl (.cons (k := 11) rfl (.cons (k := 3) rfl (.cons (k := 4) rfl (.cons (k := 8) rfl .nil))))) (.cons (k := 110) rfl (.cons (k := 111) rfl (.cons (k := 0) rfl (.cons (k := 1) rfl (.cons (k := 104) rfl (.cons (k := 105) rfl (.cons (k := 108) rfl .nil))))))) ?_
    refine W.seq ?_
    refine W.region ?_
    refine RL.q (Yld.loadW (c := 104) Tryd.underlying29 rfl sz29 rfl rfl (by first | exact single_self _ _ | exact pset_self _ _ _ | assumption) rfl) rfl ?_
    refine RL.q (Yld.loadW (c := 110) Tryd.underlying84 rfl sz84 rfl rfl (by first | exact single_self _ _ | exact pset_self _ _ _ | assumption) rfl) rfl ?_
    refine RL.e (Eff.call ent37 [1] [1] (.cons rfl (.cons rfl .nil)) (rphases_ct m t.2 H1 hm) rfl rfl rfl rfl (by rintro _ _ ⟨_, rfl⟩; rfl)) rfl ?_
    rintro _ _ ⟨_, ⟨rfl, rfl⟩, rfl⟩
    refine RL.q (Yld.move rfl) rfl ?_
    refine RL.q (Yld.extract rfl rfl) rfl ?_
    refine RL.q (Yld.extract rfl rfl) rfl ?_
    refine RL.q (Yld.extract rfl rfl) rfl ?_
    refine RL.q (Yld.assign rfl) rfl ?_
    refine RL.q (Yld.assign rfl) rfl ?_
    refine RL.q (Yld.assign rfl) rfl ?_
    refine RL.nil ?_
    refine N.next ?_
    refine W.keep (.cons (k := 3) rfl (.cons (k := 4) rfl (.cons (k := 8) rfl (.cons (k := 10) rfl (.cons (k := 11) rfl (.cons (k := 12) rfl (.cons (k := 14) rfl .nil))))))) (.cons (k := 0) rfl (.cons (k := 1) rfl (.cons (k := 104) rfl (.cons (k := 105) rfl (.cons (k := 108) rfl (.cons (k := 110) rfl (.cons (k := 111) rfl .nil))))))) ?_
    refine W.seq ?_
    refine W.seq ?_
    refine W.region ?_
    refine RL.q (Yld.move rfl) rfl ?_
    refine RL.q (Yld.bin rfl rfl BinV.lss) rfl ?_
    refine RL.q (Yld.move rfl) rfl ?_
    refine' RL.or (t := 39) (d := 51) 12 rfl (.cons (k := 3) rfl (.cons (k := 4) rfl (.cons (k := 8) rfl (.cons (k := 10) rfl (.cons (k := 11) rfl (.cons (k := 12) rfl (.cons (k := 14) rfl (.cons (k := 37) rfl (.cons (k := 38) rfl .nil))))))))) (.cons (k := 0) rfl (.cons (k := 1) rfl (.cons (k := 104) rfl (.cons (k := 105) rfl (.cons (k := 108) rfl (.cons (k := 110) rfl (.cons (k := 111) rfl .nil))))))) ?_ ?_ ?_
    rotate_left 1
    ·
      intro hg39
      refine RL.gq rfl rfl (Yld.move rfl) rfl ?_
      refine RL.gq rfl rfl (Yld.move rfl) rfl ?_
      refine RL.gq rfl rfl (Yld.bin rfl rfl BinV.gtr) rfl ?_
      refine RL.gq rfl rfl (Yld.move rfl) rfl ?_
      refine' RL.and (t := 43) (d := 50) 7 rfl (.cons (k := 3) rfl (.cons (k := 4) rfl (.cons (k := 8) rfl (.cons (k := 10) rfl (.cons (k := 11) rfl (.cons (k := 12) rfl (.cons (k := 14) rfl (.cons (k := 37) rfl (.cons (k := 38) rfl (.cons (k := 39) rfl (.cons (k := 40) rfl (.cons (k := 41) rfl (.cons (k := 42) rfl .nil))))))))))))) (.cons (k := 0) rfl (.cons (k := 1) rfl (.cons (k := 104) rfl (.cons (k := 105) rfl (.cons (k := 108) rfl (.cons (k := 110) rfl (.cons (k := 111) rfl .nil))))))) ?_ ?_ ?_
      rotate_left 1
      ·
        intro hg43
        refine RL.gq rfl rfl (Yld.move rfl) rfl ?_
        refine RL.gq rfl rfl (Yld.bin rfl rfl BinV.neq) rfl ?_
        refine RL.gq rfl rfl (Yld.move rfl) rfl ?_
        refine' RL.or (t := 46) (d := 49) 3 rfl (.cons (k := 3) rfl (.cons (k := 4) rfl (.cons (k := 8) rfl (.cons (k := 10) rfl (.cons (k := 11) rfl (.cons (k := 12) rfl (.cons (k := 14) rfl (.cons (k := 37) rfl (.cons (k := 38) rfl (.cons (k := 39) rfl (.cons (k := 40) rfl (.cons (k := 41) rfl (.cons (k := 42) rfl (.cons (k := 43) rfl (.cons (k := 44) rfl (.cons (k := 45) rfl .nil)))))))))))))))) (.cons (k := 0) rfl (.cons (k := 1) rfl (.cons (k := 104) rfl (.cons (k := 105) rfl (.cons (k := 108) rfl (.cons (k := 110) rfl (.cons (k := 111) rfl .nil))))))) ?_ ?_ ?_
        rotate_left 1
        ·
          intro hg46
          refine RL.gq rfl rfl (Yld.move rfl) rfl ?_
          refine RL.gq rfl rfl (Yld.bin rfl rfl BinV.eql) rfl ?_
          refine RL.gq rfl rfl (by first | exact Yld.pickT rfl rfl | exact Yld.pickF rfl rfl) rfl ?_
          exact RL.nil (N.meet (.cons rfl (.cons rfl (.cons rfl (.cons rfl (.cons rfl (.cons rfl (.cons rfl (.cons rfl (.cons rfl (.cons rfl (.cons rfl (.cons rfl (.cons rfl (.cons rfl (.cons rfl (.cons rfl (.cons rfl .nil))))))))))))))))) (.cons rfl (.cons rfl (.cons rfl (.cons rfl (.cons rfl (.cons rfl (.cons rfl .nil))))))))
        ·
          intro hg46
          refine RL.gskip rfl rfl rfl rfl ?_
          refine RL.gskip rfl rfl rfl rfl ?_
          refine RL.gq rfl rfl (by first | exact Yld.pickT rfl rfl | exact Yld.pickF rfl rfl) rfl ?_
          exact RL.nil (N.meet (.cons rfl (.cons rfl (.cons rfl (.cons rfl (.cons rfl (.cons rfl (.cons rfl (.cons rfl (.cons rfl (.cons rfl (.cons rfl (.cons rfl (.cons rfl (.cons rfl (.cons rfl (.cons rfl (.cons rfl .nil))))))))))))))))) (.cons rfl (.cons rfl (.cons rfl (.cons rfl (.cons rfl (.cons rfl (.cons rfl .nil))))))))
        refine RL.gq rfl rfl (by first | exact Yld.pickT rfl rfl | exact Yld.pickF rfl rfl) rfl ?_
        exact RL.nil (N.meet (.cons rfl (.cons rfl (.cons rfl (.cons rfl (.cons rfl (.cons rfl (.cons rfl (.cons rfl (.cons rfl (.cons rfl (.cons rfl (.cons rfl (.cons rfl (.cons rfl .nil)))))))))))))) (.cons rfl (.cons rfl (.cons rfl (.cons rfl (.cons rfl (.cons rfl (.cons rfl .nil))))))))
      ·
        intro hg43
        refine RL.gskip rfl rfl rfl rfl ?_
        refine RL.gskip rfl rfl rfl rfl ?_
        refine RL.gskip rfl rfl rfl rfl ?_
        refine RL.gskipU rfl rfl rfl ?_
        refine RL.gskipU rfl rfl rfl ?_
        refine RL.gskip rfl rfl rfl rfl ?_
        refine RL.gq rfl rfl (by first | exact Yld.pickT rfl rfl | exact Yld.pickF rfl rfl) rfl ?_
        exact RL.nil (N.meet (.cons rfl (.cons rfl (.cons rfl (.cons rfl (.cons rfl (.cons rfl (.cons rfl (.cons rfl (.cons rfl (.cons rfl (.cons rfl (.cons rfl (.cons rfl (.cons rfl .nil)))))))))))))) (.cons rfl (.cons rfl (.cons rfl (.cons rfl (.cons rfl (.cons rfl (.cons rfl .nil))))))))
      refine RL.q (by first | exact Yld.pickT rfl rfl | exact Yld.pickF rfl rfl) rfl ?_
      exact RL.nil (N.meet (.cons rfl (.cons rfl (.cons rfl (.cons rfl (.cons rfl (.cons rfl (.cons rfl (.cons rfl (.cons rfl (.cons rfl .nil)))))))))) (.cons rfl (.cons rfl (.cons rfl (.cons rfl (.cons rfl (.cons rfl (.cons rfl .nil))))))))
    ·
      intro hg39
      refine RL.gskip rfl rfl rfl rfl ?_
      refine RL.gskip rfl rfl rfl rfl ?_
      refine RL.gskip rfl rfl rfl rfl ?_
      refine RL.gskip rfl rfl rfl rfl ?_
      refine RL.gskipU rfl rfl rfl ?_
      refine RL.gskipU rfl rfl rfl ?_
      refine RL.gskipU rfl rfl rfl ?_
      refine RL.gskipU rfl rfl rfl ?_
      refine RL.gskipU rfl rfl rfl ?_
      refine RL.gskipU rfl rfl rfl ?_
      refine RL.gskip rfl rfl rfl rfl ?_
      refine RL.q (by first | exact Yld.pickT rfl rfl | exact Yld.pickF rfl rfl) rfl ?_
      exact RL.nil (N.meet (.cons rfl (.cons rfl (.cons rfl (.cons rfl (.cons rfl (.cons rfl (.cons rfl (.cons rfl (.cons rfl (.cons rfl .nil)))))))))) (.cons rfl (.cons rfl (.cons rfl (.cons rfl (.cons rfl (.cons rfl (.cons rfl .nil))))))))
    refine RL.nil ?_
    refine N.next ?_
    refine W.keep (.cons (k := 3) rfl (.cons (k := 4) rfl (.cons (k := 8) rfl (.cons (k := 10) rfl (.cons (k := 11) rfl (.cons (k := 51) rfl .nil)))))) (.cons (k := 0) rfl (.cons (k := 1) rfl (.cons (k := 104) rfl (.cons (k := 105) rfl (.cons (k := 108) rfl (.cons (k := 110) rfl (.cons (k := 111) rfl .nil))))))) ?_
    first | refine W.condD rfl (fun hc51 => ?_) (fun hc51 => ?_) | (refine W.cond rfl (fun hc51 => ?_) (fun hc51 => ?_) <;> try simp only [Bool.or_eq_true, Bool.and_eq_true, Bool.not_eq_true', Bool.not_eq_false', decide_eq_true_eq, Bool.or_eq_false_iff, Bool.and_eq_false_iff, decide_eq_false_iff_not, beq_iff_eq, beq_eq_false_iff_ne, ne_eq, Decidable.not_not] at hc51)
    ·
      have hno : ((phs (kindOf m.is t.2.i) t.2).1 = 0 ∧ ac0 = ac0 ∧ false = false) ∨ ((phs (kindOf m.is t.2.i) t.2).1 ≠ 0 ∧ LookR t.2 y (if kindOf m.is t.2.i = 2 then y.v else 0) (kindOf m.is t.2.i, decide (t.2.f = 0), ph) ac0 false) := by
        by_cases e : (phs (kindOf m.is t.2.i) t.2).1 = 0
        · exact .inl ⟨e, rfl, rfl⟩
        · exact .inr ⟨e, .inr ⟨rfl, rfl, look_none e (by omega)⟩⟩
      refine W.seq ?_
      refine W.region ?_
      refine RL.q (Yld.buildP lay44 .nil rfl) rfl ?_
      refine RL.e0 (Eff.storeS (c := 108) _ sz44 rfl rfl rfl rfl rfl rfl rfl (by (try simp only [putAt, List.take, List.drop, List.nil_append, List.cons_append, List.append_nil, List.length_cons, List.length_nil, Nat.add_zero, Nat.zero_add, Nat.reduceAdd]); rfl)) ?_
      rintro _ _ rfl
      refine RL.q (Yld.assign rfl) rfl ?_
      refine RL.nil ?_
      refine N.next ?_
      refine W.keep (.cons (k := 8) rfl (.cons (k := 9) rfl .nil)) (.cons (k := 0) rfl (.cons (k := 1) rfl (.cons (k := 104) rfl (.cons (k := 105) rfl (.cons (k := 108) rfl (.cons (k := 110) rfl (.cons (k := 111) rfl .nil))))))) ?_
      refine W.ret ?_
      refine N.then_ret ?_
      exact N.retBy [1] (.cons (by first | exact .cell (c := 108) rfl rfl (fun w hs => run_loadVarA Tryd.underlying44 rfl sz44 rfl (fun j u hj => by rw [Nat.zero_add, PH.sub.cell hs (by first | exact single_self _ _ | exact pset_self _ _ _ | assumption)]; exact hj))) (.cons (.tmp rfl) .nil)) rfl rfl rfl rfl ⟨ac0, false, rfl, .inr ⟨hx, t, y, ht, hy, hno⟩, rfl⟩
    ·
      have hph0 : (phs (kindOf m.is t.2.i) t.2).1 ≠ 0 := fun e => by
        have h3 : (phs (kindOf m.is t.2.i) t.2).2.2 = 0 := by
          revert e; unfold phs; repeat' split
          all_goals (intro e; first | rfl | (exfalso; revert e; decide))
        omega
      obtain ⟨hki1, hki2⟩ := phs_kind (is := m.is) (x := t.2) hph0
      obtain ⟨yi, hli, hk, _⟩ := kind_row hki1 hki2
      refine W.skip ?_
      refine N.next ?_
      refine W.seq ?_
      refine W.seq ?_
      refine W.region ?_
      refine RL.q (Yld.fieldAddr fo29_5 rfl) rfl ?_
      refine RL.q (Yld.load1 (c := 104) Tryd.underlying26 rfl rfl rfl (by first | exact single_self _ _ | exact pset_self _ _ _ | assumption) rfl) rfl ?_
      refine RL.q (Yld.fieldAddr fo84_0 rfl) rfl ?_
      refine RL.q (Yld.load1 (c := 110) Tryd.underlying3 rfl rfl rfl (by first | exact single_self _ _ | exact pset_self _ _ _ | assumption) rfl) rfl ?_
      refine RL.q (Yld.bin rfl rfl (by first | exact BinV.sub (by omega) (by omega) | exact BinV.subW)) rfl ?_
      refine RL.q (Yld.indexRow Tryd.underlying26 sz90 rfl rfl (by first | assumption | exact Own.sl (by assumption)) (by first | rfl | omega | (simp; done) | (simp; omega)) (by omega) (by first | omega | (simp; done) | (simp; omega))) rfl ?_
      refine RL.q (Yld.fieldAddr fo90_1 rfl) rfl ?_
      refine RL.q (by first | exact Yld.loadRowF (cl := 1) (j := 1) Tryd.underlying3 rfl rfl rfl (by first | assumption | exact Own.sl (by assumption)) (by assumption) rfl | exact Yld.loadRowF (cl := 104) (j := 1) Tryd.underlying3 rfl rfl rfl (by first | assumption | exact Own.sl (by assumption)) (by assumption) rfl | exact Yld.loadRowF (cl := 105) (j := 1) Tryd.underlying3 rfl rfl rfl (by first | assumption | exact Own.sl (by assumption)) (by assumption) rfl | exact Yld.loadRowF (cl := 108) (j := 1) Tryd.underlying3 rfl rfl rfl (by first | assumption | exact Own.sl (by assumption)) (by assumption) rfl | exact Yld.loadRowF (cl := 110) (j := 1) Tryd.underlying3 rfl rfl rfl (by first | assumption | exact Own.sl (by assumption)) (by assumption) rfl | exact Yld.loadRowF (cl := 111) (j := 1) Tryd.underlying3 rfl rfl rfl (by first | assumption | exact Own.sl (by assumption)) (by assumption) rfl) rfl ?_
      refine RL.nil ?_
      refine N.next ?_
      refine W.keep (.cons (k := 3) rfl (.cons (k := 8) rfl (.cons (k := 10) rfl (.cons (k := 11) rfl (.cons (k := 60) rfl .nil))))) (.cons (k := 0) rfl (.cons (k := 1) rfl (.cons (k := 104) rfl (.cons (k := 105) rfl (.cons (k := 108) rfl (.cons (k := 110) rfl (.cons (k := 111) rfl .nil))))))) ?_
      refine W.block ?_
      refine W.seq ?_
      refine W.region ?_
      refine RL.q (Yld.bin rfl rfl BinV.eql) rfl ?_
      refine RL.q (Yld.assign rfl) rfl ?_
      refine RL.nil ?_
      refine N.next ?_
      first | refine W.condD rfl (fun hc61 => ?_) (fun hc61 => ?_) | (refine W.cond rfl (fun hc61 => ?_) (fun hc61 => ?_) <;> try simp only [Bool.or_eq_true, Bool.and_eq_true, Bool.not_eq_true', Bool.not_eq_false', decide_eq_true_eq, Bool.or_eq_false_iff, Bool.and_eq_false_iff, decide_eq_false_iff_not, beq_iff_eq, beq_eq_false_iff_ne, ne_eq, Decidable.not_not] at hc61)
      ·
        have hk0 : kindOf m.is t.2.i = 0 := by rw [hk]; exact hc61
        obtain ⟨hf0, hpe⟩ := phs0 hph0 hk0
        rw [hpe] at hc51
        have hc51 : ¬ ph < 1 ∧ (¬ (5 : Int) < ph ∨ (ph = 11 ∧ ¬ (1 : Int) = 0)) := hc51
        refine W.seq ?_
        refine W.seq ?_
        refine W.region ?_
        refine RL.q (Yld.move rfl) rfl ?_
        refine RL.nil ?_
        refine N.next ?_
        refine W.keep (.cons (k := 8) rfl (.cons (k := 10) rfl (.cons (k := 11) rfl (.cons (k := 63) rfl .nil)))) (.cons (k := 0) rfl (.cons (k := 1) rfl (.cons (k := 104) rfl (.cons (k := 105) rfl (.cons (k := 108) rfl (.cons (k := 110) rfl (.cons (k := 111) rfl .nil))))))) ?_
        refine W.block ?_
        refine W.seq ?_
        refine W.region ?_
        refine RL.q (Yld.bin rfl rfl BinV.eql) rfl ?_
        refine RL.q (Yld.assign rfl) rfl ?_
        refine RL.nil ?_
        refine N.next ?_
        first | refine W.condD rfl (fun hc64 => ?_) (fun hc64 => ?_) | (refine W.cond rfl (fun hc64 => ?_) (fun hc64 => ?_) <;> try simp only [Bool.or_eq_true, Bool.and_eq_true, Bool.not_eq_true', Bool.not_eq_false', decide_eq_true_eq, Bool.or_eq_false_iff, Bool.and_eq_false_iff, decide_eq_false_iff_not, beq_iff_eq, beq_eq_false_iff_ne, ne_eq, Decidable.not_not] at hc64)
        ·
          refine W.seq ?_
          refine W.draw (.q 0 (.q 1 (.q 2 (.q 3 (.q 4 (.q 5 (.q 7 (.q 8 (.q 9 (.q 10 (.one 6 (.one 11 (.one 12 (.q 13 .done)))))))))))))) (.cons (k := 0) rfl (.cons (k := 1) rfl (.cons (k := 104) rfl (.cons (k := 105) rfl (.cons (k := 110) rfl (.cons (k := 111) rfl .nil)))))) mix (by kernel_rfl) (by kernel_rfl) ?_
          refine DL.q rfl (Yld.fieldAddr fo84_2 rfl) rfl ?_
          refine DL.q rfl (Yld.load1 (c := 110) Tryd.underlying3 rfl rfl rfl (by first | exact single_self _ _ | exact pset_self _ _ _ | assumption) rfl) rfl ?_
          refine DL.q rfl (Yld.fieldAddr fo84_0 rfl) rfl ?_
          refine DL.q rfl (Yld.load1 (c := 110) Tryd.underlying3 rfl rfl rfl (by first | exact single_self _ _ | exact pset_self _ _ _ | assumption) rfl) rfl ?_
          refine DL.q rfl (Yld.fieldAddr fo49_2 rfl) rfl ?_
          refine DL.q rfl (Yld.load1 (c := 111) Tryd.underlying3 rfl rfl rfl (by first | exact single_self _ _ | exact pset_self _ _ _ | assumption) rfl) rfl ?_
          refine DL.q rfl (Yld.fieldAddr fo84_0 rfl) rfl ?_
          refine DL.q rfl (Yld.load1 (c := 110) Tryd.underlying3 rfl rfl rfl (by first | exact single_self _ _ | exact pset_self _ _ _ | assumption) rfl) rfl ?_
          refine DL.q rfl (Yld.fieldAddr fo49_2 rfl) rfl ?_
          refine DL.q rfl (Yld.load1 (c := 111) Tryd.underlying3 rfl rfl rfl (by first | exact single_self _ _ | exact pset_self _ _ _ | assumption) rfl) rfl ?_
          refine DL.one rfl (Eff.call ent39 [] [] (.cons rfl (.cons rfl (.cons rfl (.cons rfl (.cons rfl .nil))))) (runit_ct t.2.t 0 t.2.i y.r 0) rfl rfl rfl rfl (by rintro _ _ ⟨_, rfl⟩; rfl)) rfl (by rintro _ _ ⟨_, ⟨rfl, rfl⟩, rfl⟩; repeat (first | exact .nil | refine .cons rfl ?_)) ?_
          rintro _ _ ⟨_, ⟨rfl, rfl⟩, rfl⟩
          refine DL.one rfl (Eff.call ent38 [] [] (.cons rfl (.cons rfl (.cons rfl .nil))) (rgroup_ct (⟨0, t.2.t, 0, 0, 0, 0, t.2.i, y.r, 0⟩ : Ac) t.2.i y.r) rfl rfl rfl rfl (by rintro _ _ ⟨_, rfl⟩; rfl)) rfl (by rintro _ _ ⟨_, ⟨rfl, rfl⟩, rfl⟩; repeat (first | exact .nil | refine .cons rfl ?_)) ?_
          rintro _ _ ⟨_, ⟨rfl, rfl⟩, rfl⟩
          refine DL.one0 rfl (Eff.storeS (c := 108) _ sz44 rfl rfl rfl rfl rfl rfl rfl (by (try simp only [putAt, List.take, List.drop, List.nil_append, List.cons_append, List.append_nil, List.length_cons, List.length_nil, Nat.add_zero, Nat.zero_add, Nat.reduceAdd]); rfl)) (by rintro _ _ rfl; repeat (first | exact .nil | refine .cons rfl ?_)) ?_
          rintro _ _ rfl
          refine DL.q rfl (Yld.assign rfl) rfl ?_
          refine DL.done ?_
          refine N.next ?_
          refine W.keep (.cons (k := 8) rfl (.cons (k := 9) rfl .nil)) (.cons (k := 0) rfl (.cons (k := 1) rfl (.cons (k := 104) rfl (.cons (k := 105) rfl (.cons (k := 108) rfl (.cons (k := 110) rfl (.cons (k := 111) rfl .nil))))))) ?_
          refine W.ret ?_
          refine N.block_ret ?_
          refine N.then_ret ?_
          refine N.block_ret ?_
          refine N.then_ret ?_
          exact N.retBy [1] (.cons (by first | exact .cell (c := 108) rfl rfl (fun w hs => run_loadVarA Tryd.underlying44 rfl sz44 rfl (fun j u hj => by rw [Nat.zero_add, PH.sub.cell hs (by first | exact single_self _ _ | exact pset_self _ _ _ | assumption)]; exact hj))) (.cons (.tmp rfl) .nil)) rfl rfl rfl rfl ⟨⟨0, t.2.t, t.2.i, 0, y.r, 0, t.2.i, y.r, 0⟩, true, rfl, .inr ⟨hx, t, y, ht, hy, .inr ⟨hph0, .inl ⟨rfl, by
              have hq : (kindOf m.is t.2.i, decide (t.2.f = 0), ph) = (0, false, 1) := by
                simp only [Prod.mk.injEq]
                exact ⟨hk0, decide_eq_false hf0, by omega⟩
              rw [hq, hk0]
              unfold actD
              simp [Ac.val, opV, admV, waitV, repV, leaveV, unitV, startV]⟩⟩⟩, rfl⟩
        ·
          refine W.seq ?_
          refine W.region ?_
          refine RL.q (Yld.bin rfl rfl BinV.eql) rfl ?_
          refine RL.q (Yld.assign rfl) rfl ?_
          refine RL.nil ?_
          refine N.next ?_
          first | refine W.condD rfl (fun hc78 => ?_) (fun hc78 => ?_) | (refine W.cond rfl (fun hc78 => ?_) (fun hc78 => ?_) <;> try simp only [Bool.or_eq_true, Bool.and_eq_true, Bool.not_eq_true', Bool.not_eq_false', decide_eq_true_eq, Bool.or_eq_false_iff, Bool.and_eq_false_iff, decide_eq_false_iff_not, beq_iff_eq, beq_eq_false_iff_ne, ne_eq, Decidable.not_not] at hc78)
          ·
            refine W.seq ?_
            refine W.region ?_
            refine RL.q (Yld.buildP lay44 (.cons rfl rfl (.cons rfl rfl .nil)) rfl) rfl ?_
            refine RL.q (Yld.fieldAddr fo84_0 rfl) rfl ?_
            refine RL.q (Yld.load1 (c := 110) Tryd.underlying3 rfl rfl rfl (by first | exact single_self _ _ | exact pset_self _ _ _ | assumption) rfl) rfl ?_
            refine RL.q (Yld.fieldAddr fo49_2 rfl) rfl ?_
            refine RL.q (Yld.load1 (c := 111) Tryd.underlying3 rfl rfl rfl (by first | exact single_self _ _ | exact pset_self _ _ _ | assumption) rfl) rfl ?_
            refine RL.e (Eff.call ent38 [] [] (.cons rfl (.cons rfl (.cons rfl .nil))) (rgroup_ct (⟨1, 0, 0, 0, 0, 0, 0, 0, 0⟩ : Ac) t.2.i y.r) rfl rfl rfl rfl (by rintro _ _ ⟨_, rfl⟩; rfl)) rfl ?_
            rintro _ _ ⟨_, ⟨rfl, rfl⟩, rfl⟩
            refine RL.e0 (Eff.storeS (c := 108) _ sz44 rfl rfl rfl rfl rfl rfl rfl (by (try simp only [putAt, List.take, List.drop, List.nil_append, List.cons_append, List.append_nil, List.length_cons, List.length_nil, Nat.add_zero, Nat.zero_add, Nat.reduceAdd]); rfl)) ?_
            rintro _ _ rfl
            refine RL.q (Yld.assign rfl) rfl ?_
            refine RL.nil ?_
            refine N.next ?_
            refine W.keep (.cons (k := 8) rfl (.cons (k := 9) rfl .nil)) (.cons (k := 0) rfl (.cons (k := 1) rfl (.cons (k := 104) rfl (.cons (k := 105) rfl (.cons (k := 108) rfl (.cons (k := 110) rfl (.cons (k := 111) rfl .nil))))))) ?_
            refine W.ret ?_
            refine N.block_ret ?_
            refine N.then_ret ?_
            refine N.block_ret ?_
            refine N.then_ret ?_
            exact N.retBy [1] (.cons (by first | exact .cell (c := 108) rfl rfl (fun w hs => run_loadVarA Tryd.underlying44 rfl sz44 rfl (fun j u hj => by rw [Nat.zero_add, PH.sub.cell hs (by first | exact single_self _ _ | exact pset_self _ _ _ | assumption)]; exact hj))) (.cons (.tmp rfl) .nil)) rfl rfl rfl rfl ⟨⟨1, 0, t.2.i, 0, y.r, 0, 0, 0, 0⟩, true, rfl, .inr ⟨hx, t, y, ht, hy, .inr ⟨hph0, .inl ⟨rfl, by
                have hq : (kindOf m.is t.2.i, decide (t.2.f = 0), ph) = (0, false, 2) := by
                  simp only [Prod.mk.injEq]
                  exact ⟨hk0, decide_eq_false hf0, by omega⟩
                rw [hq, hk0]
                unfold actD
                simp [Ac.val, opV, admV, waitV, repV, leaveV, unitV, startV]⟩⟩⟩, rfl⟩
          ·
            refine W.seq ?_
            refine W.region ?_
            refine RL.q (Yld.bin rfl rfl BinV.eql) rfl ?_
            refine RL.q (Yld.assign rfl) rfl ?_
            refine RL.nil ?_
            refine N.next ?_
            refine W.keep (.cons (k := 8) rfl (.cons (k := 10) rfl (.cons (k := 11) rfl (.cons (k := 63) rfl (.cons (k := 86) rfl .nil))))) (.cons (k := 0) rfl (.cons (k := 1) rfl (.cons (k := 104) rfl (.cons (k := 105) rfl (.cons (k := 108) rfl (.cons (k := 110) rfl (.cons (k := 111) rfl .nil))))))) ?_
            first | refine W.condD rfl (fun hc86 => ?_) (fun hc86 => ?_) | (refine W.cond rfl (fun hc86 => ?_) (fun hc86 => ?_) <;> try simp only [Bool.or_eq_true, Bool.and_eq_true, Bool.not_eq_true', Bool.not_eq_false', decide_eq_true_eq, Bool.or_eq_false_iff, Bool.and_eq_false_iff, decide_eq_false_iff_not, beq_iff_eq, beq_eq_false_iff_ne, ne_eq, Decidable.not_not] at hc86)
            ·
              refine W.seq ?_
              refine W.region ?_
              refine RL.q (Yld.buildP lay44 (.cons rfl rfl .nil) rfl) rfl ?_
              refine RL.q (Yld.fieldAddr fo84_0 rfl) rfl ?_
              refine RL.q (Yld.load1 (c := 110) Tryd.underlying3 rfl rfl rfl (by first | exact single_self _ _ | exact pset_self _ _ _ | assumption) rfl) rfl ?_
              refine RL.q (Yld.fieldAddr fo49_2 rfl) rfl ?_
              refine RL.q (Yld.load1 (c := 111) Tryd.underlying3 rfl rfl rfl (by first | exact single_self _ _ | exact pset_self _ _ _ | assumption) rfl) rfl ?_
              refine RL.e (Eff.call ent38 [] [] (.cons rfl (.cons rfl (.cons rfl .nil))) (rgroup_ct (⟨2, 0, 0, 0, 0, 0, 0, 0, 0⟩ : Ac) t.2.i y.r) rfl rfl rfl rfl (by rintro _ _ ⟨_, rfl⟩; rfl)) rfl ?_
              rintro _ _ ⟨_, ⟨rfl, rfl⟩, rfl⟩
              refine RL.e0 (Eff.storeS (c := 108) _ sz44 rfl rfl rfl rfl rfl rfl rfl (by (try simp only [putAt, List.take, List.drop, List.nil_append, List.cons_append, List.append_nil, List.length_cons, List.length_nil, Nat.add_zero, Nat.zero_add, Nat.reduceAdd]); rfl)) ?_
              rintro _ _ rfl
              refine RL.q (Yld.assign rfl) rfl ?_
              refine RL.nil ?_
              refine N.next ?_
              refine W.keep (.cons (k := 8) rfl (.cons (k := 9) rfl .nil)) (.cons (k := 0) rfl (.cons (k := 1) rfl (.cons (k := 104) rfl (.cons (k := 105) rfl (.cons (k := 108) rfl (.cons (k := 110) rfl (.cons (k := 111) rfl .nil))))))) ?_
              refine W.ret ?_
              refine N.block_ret ?_
              refine N.then_ret ?_
              refine N.block_ret ?_
              refine N.then_ret ?_
              exact N.retBy [1] (.cons (by first | exact .cell (c := 108) rfl rfl (fun w hs => run_loadVarA Tryd.underlying44 rfl sz44 rfl (fun j u hj => by rw [Nat.zero_add, PH.sub.cell hs (by first | exact single_self _ _ | exact pset_self _ _ _ | assumption)]; exact hj))) (.cons (.tmp rfl) .nil)) rfl rfl rfl rfl ⟨⟨2, 0, t.2.i, 0, y.r, 0, 0, 0, 0⟩, true, rfl, .inr ⟨hx, t, y, ht, hy, .inr ⟨hph0, .inl ⟨rfl, by
                  have hq : (kindOf m.is t.2.i, decide (t.2.f = 0), ph) = (0, false, 3) := by
                    simp only [Prod.mk.injEq]
                    exact ⟨hk0, decide_eq_false hf0, by omega⟩
                  rw [hq, hk0]
                  unfold actD
                  simp [Ac.val, opV, admV, waitV, repV, leaveV, unitV, startV]⟩⟩⟩, rfl⟩
            ·
              refine W.seq ?_
              refine W.region ?_
              refine RL.q (Yld.bin rfl rfl BinV.eql) rfl ?_
              refine RL.q (Yld.assign rfl) rfl ?_
              refine RL.nil ?_
              refine N.next ?_
              first | refine W.condD rfl (fun hc94 => ?_) (fun hc94 => ?_) | (refine W.cond rfl (fun hc94 => ?_) (fun hc94 => ?_) <;> try simp only [Bool.or_eq_true, Bool.and_eq_true, Bool.not_eq_true', Bool.not_eq_false', decide_eq_true_eq, Bool.or_eq_false_iff, Bool.and_eq_false_iff, decide_eq_false_iff_not, beq_iff_eq, beq_eq_false_iff_ne, ne_eq, Decidable.not_not] at hc94)
              ·
                refine W.seq ?_
                refine W.region ?_
                refine RL.q (Yld.fieldAddr fo84_1 rfl) rfl ?_
                refine RL.q (Yld.load1 (c := 110) Tryd.underlying3 rfl rfl rfl (by first | exact single_self _ _ | exact pset_self _ _ _ | assumption) rfl) rfl ?_
                refine RL.q (Yld.buildP lay44 (.cons rfl rfl (.cons rfl rfl (.cons rfl rfl .nil))) rfl) rfl ?_
                refine RL.q (Yld.fieldAddr fo84_0 rfl) rfl ?_
                refine RL.q (Yld.load1 (c := 110) Tryd.underlying3 rfl rfl rfl (by first | exact single_self _ _ | exact pset_self _ _ _ | assumption) rfl) rfl ?_
                refine RL.q (Yld.fieldAddr fo49_2 rfl) rfl ?_
                refine RL.q (Yld.load1 (c := 111) Tryd.underlying3 rfl rfl rfl (by first | exact single_self _ _ | exact pset_self _ _ _ | assumption) rfl) rfl ?_
                refine RL.e (Eff.call ent38 [] [] (.cons rfl (.cons rfl (.cons rfl .nil))) (rgroup_ct (⟨1, t.2.f, 0, 2, 0, 0, 0, 0, 0⟩ : Ac) t.2.i y.r) rfl rfl rfl rfl (by rintro _ _ ⟨_, rfl⟩; rfl)) rfl ?_
                rintro _ _ ⟨_, ⟨rfl, rfl⟩, rfl⟩
                refine RL.e0 (Eff.storeS (c := 108) _ sz44 rfl rfl rfl rfl rfl rfl rfl (by (try simp only [putAt, List.take, List.drop, List.nil_append, List.cons_append, List.append_nil, List.length_cons, List.length_nil, Nat.add_zero, Nat.zero_add, Nat.reduceAdd]); rfl)) ?_
                rintro _ _ rfl
                refine RL.q (Yld.assign rfl) rfl ?_
                refine RL.nil ?_
                refine N.next ?_
                refine W.keep (.cons (k := 8) rfl (.cons (k := 9) rfl .nil)) (.cons (k := 0) rfl (.cons (k := 1) rfl (.cons (k := 104) rfl (.cons (k := 105) rfl (.cons (k := 108) rfl (.cons (k := 110) rfl (.cons (k := 111) rfl .nil))))))) ?_
                refine W.ret ?_
                refine N.block_ret ?_
                refine N.then_ret ?_
                refine N.block_ret ?_
                refine N.then_ret ?_
                exact N.retBy [1] (.cons (by first | exact .cell (c := 108) rfl rfl (fun w hs => run_loadVarA Tryd.underlying44 rfl sz44 rfl (fun j u hj => by rw [Nat.zero_add, PH.sub.cell hs (by first | exact single_self _ _ | exact pset_self _ _ _ | assumption)]; exact hj))) (.cons (.tmp rfl) .nil)) rfl rfl rfl rfl ⟨⟨1, t.2.f, t.2.i, 2, y.r, 0, 0, 0, 0⟩, true, rfl, .inr ⟨hx, t, y, ht, hy, .inr ⟨hph0, .inl ⟨rfl, by
                    have hq : (kindOf m.is t.2.i, decide (t.2.f = 0), ph) = (0, false, 4) := by
                      simp only [Prod.mk.injEq]
                      exact ⟨hk0, decide_eq_false hf0, by omega⟩
                    rw [hq, hk0]
                    unfold actD
                    simp [Ac.val, opV, admV, waitV, repV, leaveV, unitV, startV]⟩⟩⟩, rfl⟩
              ·
                refine W.seq ?_
                refine W.region ?_
                refine RL.q (Yld.bin rfl rfl BinV.eql) rfl ?_
                refine RL.q (Yld.assign rfl) rfl ?_
                refine RL.nil ?_
                refine N.next ?_
                refine W.keep (.cons (k := 8) rfl (.cons (k := 10) rfl (.cons (k := 11) rfl (.cons (k := 104) rfl .nil)))) (.cons (k := 0) rfl (.cons (k := 1) rfl (.cons (k := 104) rfl (.cons (k := 105) rfl (.cons (k := 108) rfl (.cons (k := 110) rfl (.cons (k := 111) rfl .nil))))))) ?_
                first | refine W.condD rfl (fun hc104 => ?_) (fun hc104 => ?_) | (refine W.cond rfl (fun hc104 => ?_) (fun hc104 => ?_) <;> try simp only [Bool.or_eq_true, Bool.and_eq_true, Bool.not_eq_true', Bool.not_eq_false', decide_eq_true_eq, Bool.or_eq_false_iff, Bool.and_eq_false_iff, decide_eq_false_iff_not, beq_iff_eq, beq_eq_false_iff_ne, ne_eq, Decidable.not_not] at hc104)
                ·
                  refine W.seq ?_
                  refine W.region ?_
                  refine RL.q (Yld.fieldAddr fo84_1 rfl) rfl ?_
                  refine RL.q (Yld.load1 (c := 110) Tryd.underlying3 rfl rfl rfl (by first | exact single_self _ _ | exact pset_self _ _ _ | assumption) rfl) rfl ?_
                  refine RL.q (Yld.fieldAddr fo84_0 rfl) rfl ?_
                  refine RL.q (Yld.load1 (c := 110) Tryd.underlying3 rfl rfl rfl (by first | exact single_self _ _ | exact pset_self _ _ _ | assumption) rfl) rfl ?_
                  refine RL.e (Eff.call ent39 [] [] (.cons rfl (.cons rfl (.cons rfl (.cons rfl (.cons rfl .nil))))) (runit_ct t.2.f 1 t.2.i 0 0) rfl rfl rfl rfl (by rintro _ _ ⟨_, rfl⟩; rfl)) rfl ?_
                  rintro _ _ ⟨_, ⟨rfl, rfl⟩, rfl⟩
                  refine RL.e (Eff.alloc 115 zc44) rfl ?_
                  rintro _ _ ⟨b15, rfl, rfl⟩
                  refine RL.e0 (Eff.storeS (c := 115) _ sz44 rfl rfl rfl rfl rfl rfl rfl (by (try simp only [putAt, List.take, List.drop, List.nil_append, List.cons_append, List.append_nil, List.length_cons, List.length_nil, Nat.add_zero, Nat.zero_add, Nat.reduceAdd]); rfl)) ?_
                  rintro _ _ rfl
                  refine RL.nil ?_
                  refine N.next ?_
                  refine W.keep (.cons (k := 8) rfl (.cons (k := 10) rfl (.cons (k := 15) rfl .nil))) (.cons (k := 0) rfl (.cons (k := 1) rfl (.cons (k := 104) rfl (.cons (k := 105) rfl (.cons (k := 108) rfl (.cons (k := 110) rfl (.cons (k := 111) rfl (.cons (k := 115) rfl .nil)))))))) ?_
                  refine W.seq ?_
                  refine W.region ?_
                  refine RL.q (Yld.fieldAddr fo84_0 rfl) rfl ?_
                  refine RL.q (Yld.load1 (c := 110) Tryd.underlying3 rfl rfl rfl (by first | exact single_self _ _ | exact pset_self _ _ _ | assumption) rfl) rfl ?_
                  refine RL.q (Yld.fieldAddr fo44_2 rfl) rfl ?_
                  refine RL.e0 (Eff.storeS (c := 115) _ sz3 rfl rfl rfl rfl rfl rfl rfl (by (try simp only [putAt, List.take, List.drop, List.nil_append, List.cons_append, List.append_nil, List.length_cons, List.length_nil, Nat.add_zero, Nat.zero_add, Nat.reduceAdd]); rfl)) ?_
                  rintro _ _ rfl
                  refine RL.nil ?_
                  refine N.next ?_
                  refine W.keep (.cons (k := 8) rfl (.cons (k := 15) rfl .nil)) (.cons (k := 0) rfl (.cons (k := 1) rfl (.cons (k := 104) rfl (.cons (k := 105) rfl (.cons (k := 108) rfl (.cons (k := 110) rfl (.cons (k := 111) rfl (.cons (k := 115) rfl .nil)))))))) ?_
                  refine W.seq ?_
                  refine W.region ?_
                  refine RL.q (Yld.loadW (c := 115) Tryd.underlying44 rfl sz44 rfl rfl (by first | exact single_self _ _ | exact pset_self _ _ _ | assumption) rfl) rfl ?_
                  refine RL.e0 (Eff.storeS (c := 108) _ sz44 rfl rfl rfl rfl rfl rfl rfl (by (try simp only [putAt, List.take, List.drop, List.nil_append, List.cons_append, List.append_nil, List.length_cons, List.length_nil, Nat.add_zero, Nat.zero_add, Nat.reduceAdd]); rfl)) ?_
                  rintro _ _ rfl
                  refine RL.q (Yld.assign rfl) rfl ?_
                  refine RL.nil ?_
                  refine N.next ?_
                  refine W.ret ?_
                  refine N.block_ret ?_
                  refine N.then_ret ?_
                  refine N.block_ret ?_
                  refine N.then_ret ?_
                  exact N.retBy [1] (.cons (by first | exact .cell (c := 108) rfl rfl (fun w hs => run_loadVarA Tryd.underlying44 rfl sz44 rfl (fun j u hj => by rw [Nat.zero_add, PH.sub.cell hs (by first | exact single_self _ _ | exact pset_self _ _ _ | assumption)]; exact hj))) (.cons (.tmp rfl) .nil)) rfl rfl rfl rfl ⟨⟨0, t.2.f, t.2.i, 0, 0, 1, t.2.i, 0, 0⟩, true, rfl, .inr ⟨hx, t, y, ht, hy, .inr ⟨hph0, .inl ⟨rfl, by
                      have hq : (kindOf m.is t.2.i, decide (t.2.f = 0), ph) = (0, false, 5) := by
                        simp only [Prod.mk.injEq]
                        exact ⟨hk0, decide_eq_false hf0, by omega⟩
                      rw [hq, hk0]
                      unfold actD
                      simp [Ac.val, opV, admV, waitV, repV, leaveV, unitV, startV]⟩⟩⟩, rfl⟩
                ·
                  refine W.skip ?_
                  refine N.block_normal ?_
                  refine N.next ?_
                  refine W.seq ?_
                  refine W.region ?_
                  refine RL.q (Yld.buildP lay44 (.cons rfl rfl (.cons rfl rfl .nil)) rfl) rfl ?_
                  refine RL.q (Yld.fieldAddr fo84_0 rfl) rfl ?_
                  refine RL.q (Yld.load1 (c := 110) Tryd.underlying3 rfl rfl rfl (by first | exact single_self _ _ | exact pset_self _ _ _ | assumption) rfl) rfl ?_
                  refine RL.q (Yld.fieldAddr fo49_2 rfl) rfl ?_
                  refine RL.q (Yld.load1 (c := 111) Tryd.underlying3 rfl rfl rfl (by first | exact single_self _ _ | exact pset_self _ _ _ | assumption) rfl) rfl ?_
                  refine RL.e (Eff.call ent38 [] [] (.cons rfl (.cons rfl (.cons rfl .nil))) (rgroup_ct (⟨1, 0, 0, 1, 0, 0, 0, 0, 0⟩ : Ac) t.2.i y.r) rfl rfl rfl rfl (by rintro _ _ ⟨_, rfl⟩; rfl)) rfl ?_
                  rintro _ _ ⟨_, ⟨rfl, rfl⟩, rfl⟩
                  refine RL.e0 (Eff.storeS (c := 108) _ sz44 rfl rfl rfl rfl rfl rfl rfl (by (try simp only [putAt, List.take, List.drop, List.nil_append, List.cons_append, List.append_nil, List.length_cons, List.length_nil, Nat.add_zero, Nat.zero_add, Nat.reduceAdd]); rfl)) ?_
                  rintro _ _ rfl
                  refine RL.q (Yld.assign rfl) rfl ?_
                  refine RL.nil ?_
                  refine N.next ?_
                  refine W.keep (.cons (k := 8) rfl (.cons (k := 9) rfl .nil)) (.cons (k := 0) rfl (.cons (k := 1) rfl (.cons (k := 104) rfl (.cons (k := 105) rfl (.cons (k := 108) rfl (.cons (k := 110) rfl (.cons (k := 111) rfl .nil))))))) ?_
                  refine W.ret ?_
                  refine N.block_ret ?_
                  refine N.then_ret ?_
                  exact N.retBy [1] (.cons (by first | exact .cell (c := 108) rfl rfl (fun w hs => run_loadVarA Tryd.underlying44 rfl sz44 rfl (fun j u hj => by rw [Nat.zero_add, PH.sub.cell hs (by first | exact single_self _ _ | exact pset_self _ _ _ | assumption)]; exact hj))) (.cons (.tmp rfl) .nil)) rfl rfl rfl rfl ⟨⟨1, 0, t.2.i, 1, y.r, 0, 0, 0, 0⟩, true, rfl, .inr ⟨hx, t, y, ht, hy, .inr ⟨hph0, .inl ⟨rfl, by
                      have hq : (kindOf m.is t.2.i, decide (t.2.f = 0), ph) = (0, false, 11) := by
                        simp only [Prod.mk.injEq]
                        exact ⟨hk0, decide_eq_false hf0, by omega⟩
                      rw [hq, hk0]
                      unfold actD
                      simp [Ac.val, opV, admV, waitV, repV, leaveV, unitV, startV]⟩⟩⟩, rfl⟩
      ·
        refine W.seq ?_
        refine W.region ?_
        refine RL.q (Yld.bin rfl rfl BinV.eql) rfl ?_
        refine RL.q (Yld.assign rfl) rfl ?_
        refine RL.nil ?_
        refine N.next ?_
        refine W.keep (.cons (k := 3) rfl (.cons (k := 8) rfl (.cons (k := 10) rfl (.cons (k := 11) rfl (.cons (k := 121) rfl .nil))))) (.cons (k := 0) rfl (.cons (k := 1) rfl (.cons (k := 104) rfl (.cons (k := 105) rfl (.cons (k := 108) rfl (.cons (k := 110) rfl (.cons (k := 111) rfl .nil))))))) ?_
        first | refine W.condD rfl (fun hc121 => ?_) (fun hc121 => ?_) | (refine W.cond rfl (fun hc121 => ?_) (fun hc121 => ?_) <;> try simp only [Bool.or_eq_true, Bool.and_eq_true, Bool.not_eq_true', Bool.not_eq_false', decide_eq_true_eq, Bool.or_eq_false_iff, Bool.and_eq_false_iff, decide_eq_false_iff_not, beq_iff_eq, beq_eq_false_iff_ne, ne_eq, Decidable.not_not] at hc121)
        ·
          have hk2 : kindOf m.is t.2.i = 2 := by rw [hk]; exact hc121
          obtain ⟨hf0, hpe⟩ := phs2 hph0 hk2
          rw [hpe] at hc51
          have hc51 : ¬ ph < 1 ∧ (¬ (3 : Int) < ph ∨ (ph = 11 ∧ ¬ (1 : Int) = 0)) := hc51
          have hif : (if kindOf m.is t.2.i = 2 then y.v else 0) = y.v := if_pos hk2
          refine W.seq ?_
          refine W.seq ?_
          refine W.region ?_
          refine RL.q (Yld.move rfl) rfl ?_
          refine RL.nil ?_
          refine N.next ?_
          refine W.block ?_
          refine W.seq ?_
          refine W.region ?_
          refine RL.q (Yld.bin rfl rfl BinV.eql) rfl ?_
          refine RL.q (Yld.assign rfl) rfl ?_
          refine RL.nil ?_
          refine N.next ?_
          first | refine W.condD rfl (fun hc124 => ?_) (fun hc124 => ?_) | (refine W.cond rfl (fun hc124 => ?_) (fun hc124 => ?_) <;> try simp only [Bool.or_eq_true, Bool.and_eq_true, Bool.not_eq_true', Bool.not_eq_false', decide_eq_true_eq, Bool.or_eq_false_iff, Bool.and_eq_false_iff, decide_eq_false_iff_not, beq_iff_eq, beq_eq_false_iff_ne, ne_eq, Decidable.not_not] at hc124)
          ·
            refine W.seq ?_
            refine W.region ?_
            refine RL.q (Yld.fieldAddr fo84_1 rfl) rfl ?_
            refine RL.q (Yld.load1 (c := 110) Tryd.underlying3 rfl rfl rfl (by first | exact single_self _ _ | exact pset_self _ _ _ | assumption) rfl) rfl ?_
            refine RL.q (Yld.fieldAddr fo84_0 rfl) rfl ?_
            refine RL.q (Yld.load1 (c := 110) Tryd.underlying3 rfl rfl rfl (by first | exact single_self _ _ | exact pset_self _ _ _ | assumption) rfl) rfl ?_
            refine RL.e (Eff.call ent39 [] [] (.cons rfl (.cons rfl (.cons rfl (.cons rfl (.cons rfl .nil))))) (runit_ct t.2.f 4 t.2.i 0 0) rfl rfl rfl rfl (by rintro _ _ ⟨_, rfl⟩; rfl)) rfl ?_
            rintro _ _ ⟨_, ⟨rfl, rfl⟩, rfl⟩
            refine RL.e0 (Eff.storeS (c := 108) _ sz44 rfl rfl rfl rfl rfl rfl rfl (by (try simp only [putAt, List.take, List.drop, List.nil_append, List.cons_append, List.append_nil, List.length_cons, List.length_nil, Nat.add_zero, Nat.zero_add, Nat.reduceAdd]); rfl)) ?_
            rintro _ _ rfl
            refine RL.q (Yld.assign rfl) rfl ?_
            refine RL.nil ?_
            refine N.next ?_
            refine W.keep (.cons (k := 8) rfl (.cons (k := 9) rfl .nil)) (.cons (k := 0) rfl (.cons (k := 1) rfl (.cons (k := 104) rfl (.cons (k := 105) rfl (.cons (k := 108) rfl (.cons (k := 110) rfl (.cons (k := 111) rfl .nil))))))) ?_
            refine W.ret ?_
            refine N.block_ret ?_
            refine N.then_ret ?_
            refine N.block_ret ?_
            refine N.then_ret ?_
            exact N.retBy [1] (.cons (by first | exact .cell (c := 108) rfl rfl (fun w hs => run_loadVarA Tryd.underlying44 rfl sz44 rfl (fun j u hj => by rw [Nat.zero_add, PH.sub.cell hs (by first | exact single_self _ _ | exact pset_self _ _ _ | assumption)]; exact hj))) (.cons (.tmp rfl) .nil)) rfl rfl rfl rfl ⟨⟨0, t.2.f, 0, 0, 0, 4, t.2.i, 0, 0⟩, true, rfl, .inr ⟨hx, t, y, ht, hy, .inr ⟨hph0, .inl ⟨rfl, by
                have hq : (kindOf m.is t.2.i, decide (t.2.f = 0), ph) = (2, false, 1) := by
                  simp only [Prod.mk.injEq]
                  exact ⟨hk2, decide_eq_false hf0, by omega⟩
                rw [hq, hk2]
                unfold actD
                simp [Ac.val, opV, admV, waitV, repV, leaveV, unitV, startV]⟩⟩⟩, rfl⟩
          ·
            refine W.seq ?_
            refine W.region ?_
            refine RL.q (Yld.bin rfl rfl BinV.eql) rfl ?_
            refine RL.q (Yld.assign rfl) rfl ?_
            refine RL.nil ?_
            refine N.next ?_
            refine W.keep (.cons (k := 8) rfl (.cons (k := 10) rfl (.cons (k := 11) rfl (.cons (k := 123) rfl (.cons (k := 131) rfl .nil))))) (.cons (k := 0) rfl (.cons (k := 1) rfl (.cons (k := 104) rfl (.cons (k := 105) rfl (.cons (k := 108) rfl (.cons (k := 110) rfl (.cons (k := 111) rfl .nil))))))) ?_
            first | refine W.condD rfl (fun hc131 => ?_) (fun hc131 => ?_) | (refine W.cond rfl (fun hc131 => ?_) (fun hc131 => ?_) <;> try simp only [Bool.or_eq_true, Bool.and_eq_true, Bool.not_eq_true', Bool.not_eq_false', decide_eq_true_eq, Bool.or_eq_false_iff, Bool.and_eq_false_iff, decide_eq_false_iff_not, beq_iff_eq, beq_eq_false_iff_ne, ne_eq, Decidable.not_not] at hc131)
            ·
              refine W.seq ?_
              refine W.region ?_
              refine RL.q (Yld.fieldAddr fo84_2 rfl) rfl ?_
              refine RL.q (Yld.load1 (c := 110) Tryd.underlying3 rfl rfl rfl (by first | exact single_self _ _ | exact pset_self _ _ _ | assumption) rfl) rfl ?_
              refine RL.q (Yld.fieldAddr fo84_0 rfl) rfl ?_
              refine RL.q (Yld.load1 (c := 110) Tryd.underlying3 rfl rfl rfl (by first | exact single_self _ _ | exact pset_self _ _ _ | assumption) rfl) rfl ?_
              refine RL.q (Yld.fieldAddr fo49_3 rfl) rfl ?_
              refine RL.q (Yld.load1 (c := 111) Tryd.underlying2 rfl rfl rfl (by first | exact single_self _ _ | exact pset_self _ _ _ | assumption) rfl) rfl ?_
              refine RL.e (Eff.call ent39 [] [] (.cons rfl (.cons rfl (.cons rfl (.cons rfl (.cons rfl .nil))))) (runit_ct t.2.t 2 t.2.i 0 y.v) rfl rfl rfl rfl (by rintro _ _ ⟨_, rfl⟩; rfl)) rfl ?_
              rintro _ _ ⟨_, ⟨rfl, rfl⟩, rfl⟩
              refine RL.e0 (Eff.storeS (c := 108) _ sz44 rfl rfl rfl rfl rfl rfl rfl (by (try simp only [putAt, List.take, List.drop, List.nil_append, List.cons_append, List.append_nil, List.length_cons, List.length_nil, Nat.add_zero, Nat.zero_add, Nat.reduceAdd]); rfl)) ?_
              rintro _ _ rfl
              refine RL.q (Yld.assign rfl) rfl ?_
              refine RL.nil ?_
              refine N.next ?_
              refine W.keep (.cons (k := 8) rfl (.cons (k := 9) rfl .nil)) (.cons (k := 0) rfl (.cons (k := 1) rfl (.cons (k := 104) rfl (.cons (k := 105) rfl (.cons (k := 108) rfl (.cons (k := 110) rfl (.cons (k := 111) rfl .nil))))))) ?_
              refine W.ret ?_
              refine N.block_ret ?_
              refine N.then_ret ?_
              refine N.block_ret ?_
              refine N.then_ret ?_
              exact N.retBy [1] (.cons (by first | exact .cell (c := 108) rfl rfl (fun w hs => run_loadVarA Tryd.underlying44 rfl sz44 rfl (fun j u hj => by rw [Nat.zero_add, PH.sub.cell hs (by first | exact single_self _ _ | exact pset_self _ _ _ | assumption)]; exact hj))) (.cons (.tmp rfl) .nil)) rfl rfl rfl rfl ⟨⟨0, t.2.t, 0, 0, 0, 2, t.2.i, 0, y.v⟩, true, rfl, .inr ⟨hx, t, y, ht, hy, .inr ⟨hph0, .inl ⟨rfl, by
                  have hq : (kindOf m.is t.2.i, decide (t.2.f = 0), ph) = (2, false, 2) := by
                    simp only [Prod.mk.injEq]
                    exact ⟨hk2, decide_eq_false hf0, by omega⟩
                  rw [hq, hk2]
                  unfold actD
                  simp [Ac.val, opV, admV, waitV, repV, leaveV, unitV, startV]⟩⟩⟩, rfl⟩
            ·
              refine W.seq ?_
              refine W.region ?_
              refine RL.q (Yld.bin rfl rfl BinV.eql) rfl ?_
              refine RL.q (Yld.assign rfl) rfl ?_
              refine RL.nil ?_
              refine N.next ?_
              refine W.keep (.cons (k := 8) rfl (.cons (k := 10) rfl (.cons (k := 140) rfl .nil))) (.cons (k := 0) rfl (.cons (k := 1) rfl (.cons (k := 104) rfl (.cons (k := 105) rfl (.cons (k := 108) rfl (.cons (k := 110) rfl (.cons (k := 111) rfl .nil))))))) ?_
              first | refine W.condD rfl (fun hc140 => ?_) (fun hc140 => ?_) | (refine W.cond rfl (fun hc140 => ?_) (fun hc140 => ?_) <;> try simp only [Bool.or_eq_true, Bool.and_eq_true, Bool.not_eq_true', Bool.not_eq_false', decide_eq_true_eq, Bool.or_eq_false_iff, Bool.and_eq_false_iff, decide_eq_false_iff_not, beq_iff_eq, beq_eq_false_iff_ne, ne_eq, Decidable.not_not] at hc140)
              ·
                refine W.seq ?_
                refine W.region ?_
                refine RL.q (Yld.fieldAddr fo84_1 rfl) rfl ?_
                refine RL.q (Yld.load1 (c := 110) Tryd.underlying3 rfl rfl rfl (by first | exact single_self _ _ | exact pset_self _ _ _ | assumption) rfl) rfl ?_
                refine RL.q (Yld.fieldAddr fo84_0 rfl) rfl ?_
                refine RL.q (Yld.load1 (c := 110) Tryd.underlying3 rfl rfl rfl (by first | exact single_self _ _ | exact pset_self _ _ _ | assumption) rfl) rfl ?_
                refine RL.e (Eff.call ent39 [] [] (.cons rfl (.cons rfl (.cons rfl (.cons rfl (.cons rfl .nil))))) (runit_ct t.2.f 5 t.2.i 0 0) rfl rfl rfl rfl (by rintro _ _ ⟨_, rfl⟩; rfl)) rfl ?_
                rintro _ _ ⟨_, ⟨rfl, rfl⟩, rfl⟩
                refine RL.e0 (Eff.storeS (c := 108) _ sz44 rfl rfl rfl rfl rfl rfl rfl (by (try simp only [putAt, List.take, List.drop, List.nil_append, List.cons_append, List.append_nil, List.length_cons, List.length_nil, Nat.add_zero, Nat.zero_add, Nat.reduceAdd]); rfl)) ?_
                rintro _ _ rfl
                refine RL.q (Yld.assign rfl) rfl ?_
                refine RL.nil ?_
                refine N.next ?_
                refine W.keep (.cons (k := 8) rfl (.cons (k := 9) rfl .nil)) (.cons (k := 0) rfl (.cons (k := 1) rfl (.cons (k := 104) rfl (.cons (k := 105) rfl (.cons (k := 108) rfl (.cons (k := 110) rfl (.cons (k := 111) rfl .nil))))))) ?_
                refine W.ret ?_
                refine N.block_ret ?_
                refine N.then_ret ?_
                refine N.block_ret ?_
                refine N.then_ret ?_
                exact N.retBy [1] (.cons (by first | exact .cell (c := 108) rfl rfl (fun w hs => run_loadVarA Tryd.underlying44 rfl sz44 rfl (fun j u hj => by rw [Nat.zero_add, PH.sub.cell hs (by first | exact single_self _ _ | exact pset_self _ _ _ | assumption)]; exact hj))) (.cons (.tmp rfl) .nil)) rfl rfl rfl rfl ⟨⟨0, t.2.f, 0, 0, 0, 5, t.2.i, 0, 0⟩, true, rfl, .inr ⟨hx, t, y, ht, hy, .inr ⟨hph0, .inl ⟨rfl, by
                    have hq : (kindOf m.is t.2.i, decide (t.2.f = 0), ph) = (2, false, 3) := by
                      simp only [Prod.mk.injEq]
                      exact ⟨hk2, decide_eq_false hf0, by omega⟩
                    rw [hq, hk2]
                    unfold actD
                    simp [Ac.val, opV, admV, waitV, repV, leaveV, unitV, startV]⟩⟩⟩, rfl⟩
              ·
                refine W.skip ?_
                refine N.block_normal ?_
                refine N.next ?_
                refine W.seq ?_
                refine W.region ?_
                refine RL.q (Yld.fieldAddr fo84_1 rfl) rfl ?_
                refine RL.q (Yld.load1 (c := 110) Tryd.underlying3 rfl rfl rfl (by first | exact single_self _ _ | exact pset_self _ _ _ | assumption) rfl) rfl ?_
                refine RL.q (Yld.fieldAddr fo84_0 rfl) rfl ?_
                refine RL.q (Yld.load1 (c := 110) Tryd.underlying3 rfl rfl rfl (by first | exact single_self _ _ | exact pset_self _ _ _ | assumption) rfl) rfl ?_
                refine RL.e (Eff.call ent39 [] [] (.cons rfl (.cons rfl (.cons rfl (.cons rfl (.cons rfl .nil))))) (runit_ct t.2.f 2 t.2.i 0 0) rfl rfl rfl rfl (by rintro _ _ ⟨_, rfl⟩; rfl)) rfl ?_
                rintro _ _ ⟨_, ⟨rfl, rfl⟩, rfl⟩
                refine RL.e0 (Eff.storeS (c := 108) _ sz44 rfl rfl rfl rfl rfl rfl rfl (by (try simp only [putAt, List.take, List.drop, List.nil_append, List.cons_append, List.append_nil, List.length_cons, List.length_nil, Nat.add_zero, Nat.zero_add, Nat.reduceAdd]); rfl)) ?_
                rintro _ _ rfl
                refine RL.q (Yld.assign rfl) rfl ?_
                refine RL.nil ?_
                refine N.next ?_
                refine W.keep (.cons (k := 8) rfl (.cons (k := 9) rfl .nil)) (.cons (k := 0) rfl (.cons (k := 1) rfl (.cons (k := 104) rfl (.cons (k := 105) rfl (.cons (k := 108) rfl (.cons (k := 110) rfl (.cons (k := 111) rfl .nil))))))) ?_
                refine W.ret ?_
                refine N.block_ret ?_
                refine N.then_ret ?_
                exact N.retBy [1] (.cons (by first | exact .cell (c := 108) rfl rfl (fun w hs => run_loadVarA Tryd.underlying44 rfl sz44 rfl (fun j u hj => by rw [Nat.zero_add, PH.sub.cell hs (by first | exact single_self _ _ | exact pset_self _ _ _ | assumption)]; exact hj))) (.cons (.tmp rfl) .nil)) rfl rfl rfl rfl ⟨⟨0, t.2.f, 0, 0, 0, 2, t.2.i, 0, 0⟩, true, rfl, .inr ⟨hx, t, y, ht, hy, .inr ⟨hph0, .inl ⟨rfl, by
                    have hq : (kindOf m.is t.2.i, decide (t.2.f = 0), ph) = (2, false, 11) := by
                      simp only [Prod.mk.injEq]
                      exact ⟨hk2, decide_eq_false hf0, by omega⟩
                    rw [hq, hk2]
                    unfold actD
                    simp [Ac.val, opV, admV, waitV, repV, leaveV, unitV, startV]⟩⟩⟩, rfl⟩
        ·
          obtain ⟨hk1, hpe⟩ := phs1 hph0 (by rw [hk]; exact hc61) (by rw [hk]; exact hc121)
          refine W.skip ?_
          refine N.block_normal ?_
          refine N.next ?_
          refine W.seq ?_
          refine W.seq ?_
          refine W.region ?_
          refine RL.q (Yld.fieldAddr fo84_1 rfl) rfl ?_
          refine RL.q (Yld.load1 (c := 110) Tryd.underlying3 rfl rfl rfl (by first | exact single_self _ _ | exact pset_self _ _ _ | assumption) rfl) rfl ?_
          refine RL.q (Yld.bin rfl rfl BinV.eql) rfl ?_
          refine RL.nil ?_
          refine N.next ?_
          refine W.keep (.cons (k := 3) rfl (.cons (k := 8) rfl (.cons (k := 10) rfl (.cons (k := 154) rfl .nil)))) (.cons (k := 0) rfl (.cons (k := 1) rfl (.cons (k := 104) rfl (.cons (k := 105) rfl (.cons (k := 108) rfl (.cons (k := 110) rfl (.cons (k := 111) rfl .nil))))))) ?_
          first | refine W.condD rfl (fun hc154 => ?_) (fun hc154 => ?_) | (refine W.cond rfl (fun hc154 => ?_) (fun hc154 => ?_) <;> try simp only [Bool.or_eq_true, Bool.and_eq_true, Bool.not_eq_true', Bool.not_eq_false', decide_eq_true_eq, Bool.or_eq_false_iff, Bool.and_eq_false_iff, decide_eq_false_iff_not, beq_iff_eq, beq_eq_false_iff_ne, ne_eq, Decidable.not_not] at hc154)
          ·
            have hpe := hpe.resolve_right (fun h => h.1 hc154)
            rw [hpe.2] at hc51
            have hc51 : ¬ ph < 1 ∧ (¬ (1 : Int) < ph ∨ (ph = 11 ∧ ¬ (0 : Int) = 0)) := hc51
            refine W.seq ?_
            refine W.region ?_
            refine RL.q (Yld.fieldAddr fo84_2 rfl) rfl ?_
            refine RL.q (Yld.load1 (c := 110) Tryd.underlying3 rfl rfl rfl (by first | exact single_self _ _ | exact pset_self _ _ _ | assumption) rfl) rfl ?_
            refine RL.q (Yld.fieldAddr fo84_0 rfl) rfl ?_
            refine RL.q (Yld.load1 (c := 110) Tryd.underlying3 rfl rfl rfl (by first | exact single_self _ _ | exact pset_self _ _ _ | assumption) rfl) rfl ?_
            refine RL.e (Eff.call ent39 [] [] (.cons rfl (.cons rfl (.cons rfl (.cons rfl (.cons rfl .nil))))) (runit_ct t.2.t 2 t.2.i 0 0) rfl rfl rfl rfl (by rintro _ _ ⟨_, rfl⟩; rfl)) rfl ?_
            rintro _ _ ⟨_, ⟨rfl, rfl⟩, rfl⟩
            refine RL.e0 (Eff.storeS (c := 108) _ sz44 rfl rfl rfl rfl rfl rfl rfl (by (try simp only [putAt, List.take, List.drop, List.nil_append, List.cons_append, List.append_nil, List.length_cons, List.length_nil, Nat.add_zero, Nat.zero_add, Nat.reduceAdd]); rfl)) ?_
            rintro _ _ rfl
            refine RL.q (Yld.assign rfl) rfl ?_
            refine RL.nil ?_
            refine N.next ?_
            refine W.keep (.cons (k := 8) rfl (.cons (k := 9) rfl .nil)) (.cons (k := 0) rfl (.cons (k := 1) rfl (.cons (k := 104) rfl (.cons (k := 105) rfl (.cons (k := 108) rfl (.cons (k := 110) rfl (.cons (k := 111) rfl .nil))))))) ?_
            refine W.ret ?_
            refine N.then_ret ?_
            exact N.retBy [1] (.cons (by first | exact .cell (c := 108) rfl rfl (fun w hs => run_loadVarA Tryd.underlying44 rfl sz44 rfl (fun j u hj => by rw [Nat.zero_add, PH.sub.cell hs (by first | exact single_self _ _ | exact pset_self _ _ _ | assumption)]; exact hj))) (.cons (.tmp rfl) .nil)) rfl rfl rfl rfl ⟨⟨0, t.2.t, 0, 0, 0, 2, t.2.i, 0, 0⟩, true, rfl, .inr ⟨hx, t, y, ht, hy, .inr ⟨hph0, .inl ⟨rfl, by
                have hq : (kindOf m.is t.2.i, decide (t.2.f = 0), ph) = (1, true, 1) := by
                  simp only [Prod.mk.injEq]
                  exact ⟨hk1, decide_eq_true hc154, by omega⟩
                rw [hq, hk1]
                unfold actD
                simp [Ac.val, opV, admV, waitV, repV, leaveV, unitV, startV]⟩⟩⟩, rfl⟩
          ·
            have hpe := hpe.resolve_left (fun h => hc154 h.1)
            rw [hpe.2] at hc51
            have hc51 : ¬ ph < 1 ∧ (¬ (2 : Int) < ph ∨ (ph = 11 ∧ ¬ (0 : Int) = 0)) := hc51
            refine W.skip ?_
            refine N.next ?_
            refine W.seq ?_
            refine W.seq ?_
            refine W.region ?_
            refine RL.q (Yld.move rfl) rfl ?_
            refine RL.q (Yld.bin rfl rfl BinV.eql) rfl ?_
            refine RL.nil ?_
            refine N.next ?_
            first | refine W.condD rfl (fun hc161 => ?_) (fun hc161 => ?_) | (refine W.cond rfl (fun hc161 => ?_) (fun hc161 => ?_) <;> try simp only [Bool.or_eq_true, Bool.and_eq_true, Bool.not_eq_true', Bool.not_eq_false', decide_eq_true_eq, Bool.or_eq_false_iff, Bool.and_eq_false_iff, decide_eq_false_iff_not, beq_iff_eq, beq_eq_false_iff_ne, ne_eq, Decidable.not_not] at hc161)
            ·
              refine W.seq ?_
              refine W.region ?_
              refine RL.q (Yld.fieldAddr fo84_1 rfl) rfl ?_
              refine RL.q (Yld.load1 (c := 110) Tryd.underlying3 rfl rfl rfl (by first | exact single_self _ _ | exact pset_self _ _ _ | assumption) rfl) rfl ?_
              refine RL.q (Yld.fieldAddr fo84_0 rfl) rfl ?_
              refine RL.q (Yld.load1 (c := 110) Tryd.underlying3 rfl rfl rfl (by first | exact single_self _ _ | exact pset_self _ _ _ | assumption) rfl) rfl ?_
              refine RL.e (Eff.call ent39 [] [] (.cons rfl (.cons rfl (.cons rfl (.cons rfl (.cons rfl .nil))))) (runit_ct t.2.f 3 t.2.i 0 0) rfl rfl rfl rfl (by rintro _ _ ⟨_, rfl⟩; rfl)) rfl ?_
              rintro _ _ ⟨_, ⟨rfl, rfl⟩, rfl⟩
              refine RL.e0 (Eff.storeS (c := 108) _ sz44 rfl rfl rfl rfl rfl rfl rfl (by (try simp only [putAt, List.take, List.drop, List.nil_append, List.cons_append, List.append_nil, List.length_cons, List.length_nil, Nat.add_zero, Nat.zero_add, Nat.reduceAdd]); rfl)) ?_
              rintro _ _ rfl
              refine RL.q (Yld.assign rfl) rfl ?_
              refine RL.nil ?_
              refine N.next ?_
              refine W.keep (.cons (k := 8) rfl (.cons (k := 9) rfl .nil)) (.cons (k := 0) rfl (.cons (k := 1) rfl (.cons (k := 104) rfl (.cons (k := 105) rfl (.cons (k := 108) rfl (.cons (k := 110) rfl (.cons (k := 111) rfl .nil))))))) ?_
              refine W.ret ?_
              refine N.then_ret ?_
              exact N.retBy [1] (.cons (by first | exact .cell (c := 108) rfl rfl (fun w hs => run_loadVarA Tryd.underlying44 rfl sz44 rfl (fun j u hj => by rw [Nat.zero_add, PH.sub.cell hs (by first | exact single_self _ _ | exact pset_self _ _ _ | assumption)]; exact hj))) (.cons (.tmp rfl) .nil)) rfl rfl rfl rfl ⟨⟨0, t.2.f, 0, 0, 0, 3, t.2.i, 0, 0⟩, true, rfl, .inr ⟨hx, t, y, ht, hy, .inr ⟨hph0, .inl ⟨rfl, by
                  have hq : (kindOf m.is t.2.i, decide (t.2.f = 0), ph) = (1, false, 1) := by
                    simp only [Prod.mk.injEq]
                    exact ⟨hk1, decide_eq_false hc154, by omega⟩
                  rw [hq, hk1]
                  unfold actD
                  simp [Ac.val, opV, admV, waitV, repV, leaveV, unitV, startV]⟩⟩⟩, rfl⟩
            ·
              refine W.skip ?_
              refine N.next ?_
              refine W.keep (.cons (k := 8) rfl (.cons (k := 10) rfl .nil)) (.cons (k := 0) rfl (.cons (k := 1) rfl (.cons (k := 104) rfl (.cons (k := 105) rfl (.cons (k := 108) rfl (.cons (k := 110) rfl (.cons (k := 111) rfl .nil))))))) ?_
              refine W.seq ?_
              refine W.region ?_
              refine RL.q (Yld.fieldAddr fo84_1 rfl) rfl ?_
              refine RL.q (Yld.load1 (c := 110) Tryd.underlying3 rfl rfl rfl (by first | exact single_self _ _ | exact pset_self _ _ _ | assumption) rfl) rfl ?_
              refine RL.q (Yld.fieldAddr fo84_0 rfl) rfl ?_
              refine RL.q (Yld.load1 (c := 110) Tryd.underlying3 rfl rfl rfl (by first | exact single_self _ _ | exact pset_self _ _ _ | assumption) rfl) rfl ?_
              refine RL.e (Eff.call ent39 [] [] (.cons rfl (.cons rfl (.cons rfl (.cons rfl (.cons rfl .nil))))) (runit_ct t.2.f 5 t.2.i 0 0) rfl rfl rfl rfl (by rintro _ _ ⟨_, rfl⟩; rfl)) rfl ?_
              rintro _ _ ⟨_, ⟨rfl, rfl⟩, rfl⟩
              refine RL.e0 (Eff.storeS (c := 108) _ sz44 rfl rfl rfl rfl rfl rfl rfl (by (try simp only [putAt, List.take, List.drop, List.nil_append, List.cons_append, List.append_nil, List.length_cons, List.length_nil, Nat.add_zero, Nat.zero_add, Nat.reduceAdd]); rfl)) ?_
              rintro _ _ rfl
              refine RL.q (Yld.assign rfl) rfl ?_
              refine RL.nil ?_
              refine N.next ?_
              refine W.keep (.cons (k := 8) rfl (.cons (k := 9) rfl .nil)) (.cons (k := 0) rfl (.cons (k := 1) rfl (.cons (k := 104) rfl (.cons (k := 105) rfl (.cons (k := 108) rfl (.cons (k := 110) rfl (.cons (k := 111) rfl .nil))))))) ?_
              refine W.ret ?_
              exact N.retBy [1] (.cons (by first | exact .cell (c := 108) rfl rfl (fun w hs => run_loadVarA Tryd.underlying44 rfl sz44 rfl (fun j u hj => by rw [Nat.zero_add, PH.sub.cell hs (by first | exact single_self _ _ | exact pset_self _ _ _ | assumption)]; exact hj))) (.cons (.tmp rfl) .nil)) rfl rfl rfl rfl ⟨⟨0, t.2.f, 0, 0, 0, 5, t.2.i, 0, 0⟩, true, rfl, .inr ⟨hx, t, y, ht, hy, .inr ⟨hph0, .inl ⟨rfl, by
                  have hq : (kindOf m.is t.2.i, decide (t.2.f = 0), ph) = (1, false, 2) := by
                    simp only [Prod.mk.injEq]
                    exact ⟨hk1, decide_eq_false hc154, by omega⟩
                  rw [hq, hk1]
                  unfold actD
                  simp [Ac.val, opV, admV, waitV, repV, leaveV, unitV, startV]⟩⟩⟩, rfl⟩

end Go.Proofs.YtdblglgnhjankaaDoor
