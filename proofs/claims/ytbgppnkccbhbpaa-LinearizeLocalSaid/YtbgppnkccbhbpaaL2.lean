/- The search on one key. Written by program (walk.py). -/
import Derived.Test.YtbgppnkccbhbpaaL1
namespace Go.Proofs.Ytbgppnkccbhbpaa
open SL HistLaw Cfg
set_option linter.unusedVariables false
set_option linter.unusedSimpArgs false
theorem fo70_0 : fieldOff Try.prog 70 0 = some 0 := by kernel_rfl
theorem sz70 : sz Try.prog 70 3 := (by kernel_rfl : (Try.prog.info? 70).map (·.size) = some 3)
theorem sz63 : sz Try.prog 63 1 := (by kernel_rfl : (Try.prog.info? 63).map (·.size) = some 1)
theorem fo70_1 : fieldOff Try.prog 70 1 = some 1 := by kernel_rfl
theorem ent36 : Ent Try.prog 36 := ⟨_, _, Try.func36, by kernel_rfl, rfl⟩
theorem lay70 : layS Try.prog 70 = some ([.int .u64 0, .bool false, .int .i64 0], [(0, 1), (1, 2)]) := by kernel_rfl
theorem HistLaw.okR_b {o : O} {r : Cell} : ((decide (0 ≤ o.rsp) && !(decide (0 = o.code) && (r.1 == o.fnd && (decide (r.2 = o.rv) && true)))) = false) ↔ okR o r := by
  unfold okR
  by_cases h : 0 ≤ o.rsp
  · simp [h]
    exact ⟨fun ⟨a, b, c⟩ => ⟨a.symm, b.symm, c.symm⟩, fun ⟨a, b, c⟩ => ⟨a.symm, b.symm, c.symm⟩⟩
  · simp [h]
theorem HistLaw.upS {P : Nat → O → Prop} {l : List O} {i : Nat} {a : O} (hI : ∀ (j : Nat) b, j < i → l[j]? = some b → ¬ P j b) (ha : l[i]? = some a) (h : ¬ P i a) : ∀ (j : Nat) b, j < i + 1 → l[j]? = some b → ¬ P j b := by
  intro j b hj hb
  by_cases e : j = i
  · subst e; rw [ha] at hb; cases hb; exact h
  · exact hI j b (by omega) hb

set_option maxRecDepth 100000 in
set_option maxHeartbeats 6400000 in
theorem search_step (l : List O) (n : Nat) (hn : l.length = n) (hn60 : n ≤ 60) (mu : Nat) (hmu : MU l n mu) (bf : List Nat) (hB : BF l n 0 bf) (bm bs bq bl bb bo bfn : Nat) (H1 : PH) (p : Option Addr) (c0 : Nat) (hS : Sl H1 p c0 12 (l.map O.c)) (BP : PH) (hBP : Sl BP (some ⟨bb, 0, none⟩) 60 1 (uz bf)) (t : Nat) (c : Cell) (ord : List Nat) (x : SS) (ht : t < 2 ^ 60) (hM : MapP encSt x.es x.ck x.m) (hT : AllT x.m) (hO : Own x.H x.p x.c 3 1 (iz (zs ord))) (hcnt : ord.length + cnt n t ≤ 60) (hsn : SeenOK l (Sn x.m) n t) (ih : ∀ (t' : Nat) (c' : Cell) (ord' : List Nat) (x' : SS) (_ : cnt n t' < cnt n t) (_ : t' < 2 ^ 60) (_ : MapP encSt x'.es x'.ck x'.m) (_ : AllT x'.m) (_ : Own x'.H x'.p x'.c 3 1 (iz (zs ord'))) (_ : ord'.length + cnt n t' ≤ 60) (_ : SeenOK l (Sn x'.m) n t'), Ct Try.prog 35 [.agg [.int .u64 (t' : Int), .bool c'.1, .int .i64 c'.2].toArray, .pointer (some ⟨bm, 0, none⟩), .pointer (some ⟨bs, 0, none⟩), .pointer (some ⟨bl, 0, none⟩), .pointer (some ⟨bb, 0, none⟩), .pointer (some ⟨bo, 0, none⟩), .pointer (some ⟨bfn, 0, none⟩)] [single bm (.cells [.int .u64 (mu : Int)].toArray 63 (0, 0)), single bs (.cells [.map (some bq)].toArray 65 (0, 0)), single bq (.map x'.es x'.ck), single bl (.cells [.slice p (l.map O.c).length c0].toArray 22 (0, 0)), H1, BP, single bo (.cells [.slice x'.p (zs ord').length x'.c].toArray 25 (0, 0)), x'.H, single bfn (.cells [.func (.func 35) [].toArray [.pointer (some ⟨bm, 0, none⟩), .pointer (some ⟨bs, 0, none⟩), .pointer (some ⟨bl, 0, none⟩), .pointer (some ⟨bb, 0, none⟩), .pointer (some ⟨bo, 0, none⟩), .pointer (some ⟨bfn, 0, none⟩)].toArray].toArray 66 (0, 0))] (fun v Hs => ∃ (b : Bool) (y : SS) (r : List Nat), v = .bool b ∧ MapP encSt y.es y.ck y.m ∧ AllT y.m ∧ Own y.H y.p y.c 3 1 (iz (zs (ord' ++ r))) ∧ (b = true → Run l t' c' r) ∧ (b = false → r = [] ∧ ¬ Live l t' c' ∧ ∀ s, Sn y.m s → Sn x'.m s ∨ ¬ Live l s.1 s.2) ∧ Hs = [single bm (.cells [.int .u64 (mu : Int)].toArray 63 (0, 0)), single bs (.cells [.map (some bq)].toArray 65 (0, 0)), single bq (.map y.es y.ck), single bl (.cells [.slice p (l.map O.c).length c0].toArray 22 (0, 0)), H1, BP, single bo (.cells [.slice y.p (zs (ord' ++ r)).length y.c].toArray 25 (0, 0)), y.H, single bfn (.cells [.func (.func 35) [].toArray [.pointer (some ⟨bm, 0, none⟩), .pointer (some ⟨bs, 0, none⟩), .pointer (some ⟨bl, 0, none⟩), .pointer (some ⟨bb, 0, none⟩), .pointer (some ⟨bo, 0, none⟩), .pointer (some ⟨bfn, 0, none⟩)].toArray].toArray 66 (0, 0))])) : Ct Try.prog 35 [.agg [.int .u64 (t : Int), .bool c.1, .int .i64 c.2].toArray, .pointer (some ⟨bm, 0, none⟩), .pointer (some ⟨bs, 0, none⟩), .pointer (some ⟨bl, 0, none⟩), .pointer (some ⟨bb, 0, none⟩), .pointer (some ⟨bo, 0, none⟩), .pointer (some ⟨bfn, 0, none⟩)] [single bm (.cells [.int .u64 (mu : Int)].toArray 63 (0, 0)), single bs (.cells [.map (some bq)].toArray 65 (0, 0)), single bq (.map x.es x.ck), single bl (.cells [.slice p (l.map O.c).length c0].toArray 22 (0, 0)), H1, BP, single bo (.cells [.slice x.p (zs ord).length x.c].toArray 25 (0, 0)), x.H, single bfn (.cells [.func (.func 35) [].toArray [.pointer (some ⟨bm, 0, none⟩), .pointer (some ⟨bs, 0, none⟩), .pointer (some ⟨bl, 0, none⟩), .pointer (some ⟨bb, 0, none⟩), .pointer (some ⟨bo, 0, none⟩), .pointer (some ⟨bfn, 0, none⟩)].toArray].toArray 66 (0, 0))] (fun v Hs => ∃ (b : Bool) (y : SS) (r : List Nat), v = .bool b ∧ MapP encSt y.es y.ck y.m ∧ AllT y.m ∧ Own y.H y.p y.c 3 1 (iz (zs (ord ++ r))) ∧ (b = true → Run l t c r) ∧ (b = false → r = [] ∧ ¬ Live l t c ∧ ∀ s, Sn y.m s → Sn x.m s ∨ ¬ Live l s.1 s.2) ∧ Hs = [single bm (.cells [.int .u64 (mu : Int)].toArray 63 (0, 0)), single bs (.cells [.map (some bq)].toArray 65 (0, 0)), single bq (.map y.es y.ck), single bl (.cells [.slice p (l.map O.c).length c0].toArray 22 (0, 0)), H1, BP, single bo (.cells [.slice y.p (zs (ord ++ r)).length y.c].toArray 25 (0, 0)), y.H, single bfn (.cells [.func (.func 35) [].toArray [.pointer (some ⟨bm, 0, none⟩), .pointer (some ⟨bs, 0, none⟩), .pointer (some ⟨bl, 0, none⟩), .pointer (some ⟨bb, 0, none⟩), .pointer (some ⟨bo, 0, none⟩), .pointer (some ⟨bfn, 0, none⟩)].toArray].toArray 66 (0, 0))]) := by
  refine Ct.body Try.func35 rfl Try.ntmps35 rfl ?_
  intro E F
  have hmax := hS.len_le
  simp only [maxLen] at hmax
  have hll : (l.map O.c).length = l.length := by simp
  have hbl := hB.1
  have hcx := hO.sl.len_le
  simp only [iz_len, zs_len, maxLen] at hcx
  refine W.seq ?_
  refine W.region ?_
  refine RL.e (Eff.box 107 _ rfl rfl) rfl ?_
  rintro _ _ ⟨b7, rfl, rfl⟩
  refine RL.q (Yld.assign rfl) rfl ?_
  refine RL.nil ?_
  refine N.next ?_
  refine W.scope ?_
  refine W.seq ?_
  refine W.seq ?_
  refine W.region ?_
  refine RL.q (Yld.fieldAddr fo70_0 rfl) rfl ?_
  refine RL.q (Yld.load1 (c := 107) Try.underlying63 rfl rfl rfl (by first | exact single_self _ _ | exact pset_self _ _ _ | assumption) rfl) rfl ?_
  refine RL.q (Yld.load1 (c := 1) Try.underlying63 rfl rfl rfl (by first | exact single_self _ _ | exact pset_self _ _ _ | assumption) rfl) rfl ?_
  refine RL.q (Yld.bin rfl rfl BinV.and) rfl ?_
  refine RL.q (Yld.load1 (c := 1) Try.underlying63 rfl rfl rfl (by first | exact single_self _ _ | exact pset_self _ _ _ | assumption) rfl) rfl ?_
  refine RL.q (Yld.bin rfl rfl BinV.eql) rfl ?_
  refine RL.nil ?_
  refine N.next ?_
  refine W.keep (.cons (k := 2) rfl (.cons (k := 3) rfl (.cons (k := 4) rfl (.cons (k := 5) rfl (.cons (k := 6) rfl (.cons (k := 7) rfl (.cons (k := 18) rfl .nil))))))) (.cons (k := 0) rfl (.cons (k := 1) rfl (.cons (k := 2) rfl (.cons (k := 3) rfl (.cons (k := 4) rfl (.cons (k := 5) rfl (.cons (k := 6) rfl (.cons (k := 7) rfl (.cons (k := 8) rfl (.cons (k := 9) rfl (.cons (k := 107) rfl .nil))))))))))) ?_
  refine W.cond rfl (fun hc18 => ?_) (fun hc18 => ?_)
  ·
    have hdn : doneL l t := (done_iff (hn ▸ hmu)).2 ((bit_sub ht hmu.1).1 (of_decide_eq_true hc18))
    refine W.seq ?_
    refine W.region ?_
    refine RL.q (Yld.assign rfl) rfl ?_
    refine RL.nil ?_
    refine N.next ?_
    refine W.keep (.cons (k := 8) rfl .nil) (.cons (k := 0) rfl (.cons (k := 1) rfl (.cons (k := 2) rfl (.cons (k := 3) rfl (.cons (k := 4) rfl (.cons (k := 5) rfl (.cons (k := 6) rfl (.cons (k := 7) rfl (.cons (k := 8) rfl (.cons (k := 9) rfl (.cons (k := 107) rfl .nil))))))))))) ?_
    refine W.ret ?_
    refine N.then_ret ?_
    refine N.scope_ret ?_
    exact N.retBy [1, 2, 3, 4, 5, 6, 7, 8, 9] (.cons (.tmp rfl) .nil) rfl rfl rfl rfl ⟨true, x, [], rfl, hM, hT, by rw [List.append_nil]; exact hO, fun _ => hdn, (fun h => by cases h), by rw [List.append_nil]⟩
  ·
    have hdn : ¬ doneL l t := fun h => of_decide_eq_false hc18 ((bit_sub ht hmu.1).2 ((done_iff (hn ▸ hmu)).1 h))
    refine W.skip ?_
    refine N.next ?_
    refine W.seq ?_
    refine W.seq ?_
    refine W.region ?_
    refine RL.q (Yld.load1 (c := 2) Try.underlying65 rfl rfl rfl (by first | exact single_self _ _ | exact pset_self _ _ _ | assumption) rfl) rfl ?_
    refine RL.q (Yld.loadW (c := 107) Try.underlying70 rfl sz70 rfl rfl (by first | exact single_self _ _ | exact pset_self _ _ _ | assumption) rfl) rfl ?_
    refine RL.q (Yld.eq (v' := .bool (mget x.m (t, c)).isSome) (Yld.lookup (c := 3) (k := (t, c)) Try.underlying65 key70 zv4 rfl rfl rfl (by assumption)) (hT.get _)) rfl ?_
    refine RL.nil ?_
    refine N.next ?_
    refine W.cond rfl (fun hc21 => ?_) (fun hc21 => ?_)
    ·
      refine W.seq ?_
      refine W.region ?_
      refine RL.q (Yld.assign rfl) rfl ?_
      refine RL.nil ?_
      refine N.next ?_
      refine W.keep (.cons (k := 8) rfl .nil) (.cons (k := 0) rfl (.cons (k := 1) rfl (.cons (k := 2) rfl (.cons (k := 3) rfl (.cons (k := 4) rfl (.cons (k := 5) rfl (.cons (k := 6) rfl (.cons (k := 7) rfl (.cons (k := 8) rfl (.cons (k := 9) rfl (.cons (k := 107) rfl .nil))))))))))) ?_
      refine W.ret ?_
      refine N.then_ret ?_
      refine N.scope_ret ?_
      exact N.retBy [1, 2, 3, 4, 5, 6, 7, 8, 9] (.cons (.tmp rfl) .nil) rfl rfl rfl rfl ⟨false, x, [], rfl, hM, hT, by rw [List.append_nil]; exact hO, (fun h => by cases h), fun _ => ⟨rfl, hsn (t, c) hc21 (Nat.le_refl _), fun s hs => .inl hs⟩, by rw [List.append_nil]⟩
    ·
      refine W.skip ?_
      refine N.next ?_
      refine W.keep (.cons (k := 2) rfl (.cons (k := 3) rfl (.cons (k := 4) rfl (.cons (k := 5) rfl (.cons (k := 6) rfl (.cons (k := 7) rfl .nil)))))) (.cons (k := 0) rfl (.cons (k := 1) rfl (.cons (k := 2) rfl (.cons (k := 3) rfl (.cons (k := 4) rfl (.cons (k := 5) rfl (.cons (k := 6) rfl (.cons (k := 7) rfl (.cons (k := 8) rfl (.cons (k := 9) rfl (.cons (k := 107) rfl .nil))))))))))) ?_
      refine W.seq ?_
      refine W.region ?_
      refine RL.q (Yld.load1 (c := 2) Try.underlying65 rfl rfl rfl (by first | exact single_self _ _ | exact pset_self _ _ _ | assumption) rfl) rfl ?_
      refine RL.q (Yld.loadW (c := 107) Try.underlying70 rfl sz70 rfl rfl (by first | exact single_self _ _ | exact pset_self _ _ _ | assumption) rfl) rfl ?_
      refine RL.e0 (Eff.mapUpdate (c := 3) (k := (t, c)) Try.underlying65 key70 rfl rfl rfl rfl (by assumption)) ?_
      rintro _ _ ⟨es1, ck1, hM1, rfl⟩
      refine RL.nil ?_
      refine N.next ?_
      refine W.seq ?_
      refine W.label ?_
      refine N.next ?_
      refine W.seq ?_
      refine W.seq ?_
      refine W.region ?_
      refine RL.q (Yld.load1 (c := 4) Try.underlying22 rfl rfl rfl (by first | exact single_self _ _ | exact pset_self _ _ _ | assumption) rfl) rfl ?_
      refine RL.q (Yld.lenSl Try.underlying22 rfl) rfl ?_
      refine RL.q (Yld.move rfl) rfl ?_
      refine RL.nil ?_
      refine N.next ?_
      refine W.keep (.cons (k := 4) rfl (.cons (k := 5) rfl (.cons (k := 6) rfl (.cons (k := 7) rfl (.cons (k := 24) rfl (.cons (k := 25) rfl (.cons (k := 26) rfl .nil))))))) (.cons (k := 0) rfl (.cons (k := 1) rfl (.cons (k := 2) rfl (.cons (k := 3) rfl (.cons (k := 4) rfl (.cons (k := 5) rfl (.cons (k := 6) rfl (.cons (k := 7) rfl (.cons (k := 8) rfl (.cons (k := 9) rfl (.cons (k := 107) rfl .nil))))))))))) ?_
      refine W.block ?_
      refine W.loopK (ι := SI2) (fun y => (y.i ≤ n ∧ MapP encSt y.es y.ck y.m ∧ AllT y.m ∧ Own y.H y.p y.c 3 1 (iz (zs ord)) ∧ (∀ s, Sn y.m s → s = (t, c) ∨ Sn x.m s ∨ ¬ Live l s.1 s.2) ∧ ∀ (j : Nat) a, j < y.i → l[j]? = some a → ¬ (freeL l t j ∧ okR a (doL c a).2 ∧ Live l (addB t j) (doL c a).1))) (fun y => [(26, .int .i64 (y.i : Nat))]) (fun y => [(3, single bq (.map y.es y.ck)), (7, single bo (.cells [.slice y.p (zs ord).length y.c].toArray 25 (0, 0))), (8, y.H)]) (fun y => n - y.i) (.cons (k := 4) rfl (.cons (k := 5) rfl (.cons (k := 6) rfl (.cons (k := 7) rfl (.cons (k := 24) rfl (.cons (k := 25) rfl .nil)))))) (.cons (k := 0) rfl (.cons (k := 1) rfl (.cons (k := 2) rfl (.cons (k := 4) rfl (.cons (k := 5) rfl (.cons (k := 6) rfl (.cons (k := 9) rfl (.cons (k := 107) rfl .nil)))))))) ⟨⟨es1, ck1, mset x.m (t, c) (.bool true), x.H, x.p, x.c⟩, 0⟩ ?_ ?_ ?_ ?_
      · exact ⟨Nat.zero_le _, hM1, hT.set _, hO, fun s hs => (sn_set.1 hs).elim .inl (fun h => .inr (.inl h)), fun j a h => absurd h (Nat.not_lt_zero _)⟩
      · exact (.as rfl (by first | rfl | (simp; done) | (congr 1; simp; done) | (congr 1; omega)) .nil)
      · exact (.cons rfl (.cons rfl (.cons rfl .nil)))
      rintro y ⟨hi, hMy, hTy, hOy, hsy, hcy⟩
      refine W.keep (.cons (k := 26) rfl (.cons (k := 4) rfl (.cons (k := 5) rfl (.cons (k := 6) rfl (.cons (k := 7) rfl (.cons (k := 24) rfl (.cons (k := 25) rfl .nil))))))) (.cons (k := 3) rfl (.cons (k := 7) rfl (.cons (k := 8) rfl (.cons (k := 0) rfl (.cons (k := 1) rfl (.cons (k := 2) rfl (.cons (k := 4) rfl (.cons (k := 5) rfl (.cons (k := 6) rfl (.cons (k := 9) rfl (.cons (k := 107) rfl .nil))))))))))) ?_
      refine W.seq ?_
      refine W.region ?_
      refine RL.q (Yld.bin rfl rfl BinV.lss) rfl ?_
      refine RL.nil ?_
      refine N.next ?_
      refine W.seq ?_
      first | refine W.condD rfl (fun hc27 => ?_) (fun hc27 => ?_) | (refine W.cond rfl (fun hc27 => ?_) (fun hc27 => ?_) <;> try simp only [Bool.or_eq_true, Bool.and_eq_true, Bool.not_eq_true', Bool.not_eq_false', decide_eq_true_eq, Bool.or_eq_false_iff, Bool.and_eq_false_iff, decide_eq_false_iff_not, beq_iff_eq, beq_eq_false_iff_ne, ne_eq, Decidable.not_not] at hc27)
      ·
        obtain ⟨o, ho⟩ : ∃ o, l[y.i]? = some o := ⟨_, List.getElem?_eq_getElem (show y.i < l.length by simp only [List.length_map] at *; omega)⟩
        have hlo : (l.map O.c)[y.i]? = some o.c := by simp [ho]
        obtain ⟨zb, hzb⟩ : ∃ zb, bf[y.i]? = some zb := ⟨_, List.getElem?_eq_getElem (show y.i < bf.length by omega)⟩
        have hlz := uz_get hzb
        have hfi := free_iff hn ht hB (show y.i < n by omega) hzb
        have hz60 := (hB.2 _ _ hzb).1
        have hcy0 := hOy.sl.len_le
        simp only [iz_len, zs_len, maxLen] at hcy0
        refine W.skip ?_
        refine N.next ?_
        refine W.seq ?_
        refine W.block ?_
        refine W.seq ?_
        refine W.region ?_
        refine RL.q (Yld.move rfl) rfl ?_
        refine RL.q (Yld.indexRow Try.underlying22 sz42 rfl rfl (by first | assumption | exact Own.sl (by assumption)) (by first | rfl | omega | (simp; done) | (simp; omega)) (by omega) (by first | omega | (simp; done) | (simp; omega))) rfl ?_
        refine RL.q (by first | exact Yld.loadRow (cl := 1) Try.underlying42 rfl sz42 rfl rfl (by first | assumption | exact Own.sl (by assumption)) (by assumption) | exact Yld.loadRow (cl := 2) Try.underlying42 rfl sz42 rfl rfl (by first | assumption | exact Own.sl (by assumption)) (by assumption) | exact Yld.loadRow (cl := 4) Try.underlying42 rfl sz42 rfl rfl (by first | assumption | exact Own.sl (by assumption)) (by assumption) | exact Yld.loadRow (cl := 5) Try.underlying42 rfl sz42 rfl rfl (by first | assumption | exact Own.sl (by assumption)) (by assumption) | exact Yld.loadRow (cl := 6) Try.underlying42 rfl sz42 rfl rfl (by first | assumption | exact Own.sl (by assumption)) (by assumption) | exact Yld.loadRow (cl := 9) Try.underlying42 rfl sz42 rfl rfl (by first | assumption | exact Own.sl (by assumption)) (by assumption) | exact Yld.loadRow (cl := 107) Try.underlying42 rfl sz42 rfl rfl (by first | assumption | exact Own.sl (by assumption)) (by assumption) | exact Yld.loadRow (cl := 3) Try.underlying42 rfl sz42 rfl rfl (by first | assumption | exact Own.sl (by assumption)) (by assumption) | exact Yld.loadRow (cl := 7) Try.underlying42 rfl sz42 rfl rfl (by first | assumption | exact Own.sl (by assumption)) (by assumption) | exact Yld.loadRow (cl := 8) Try.underlying42 rfl sz42 rfl rfl (by first | assumption | exact Own.sl (by assumption)) (by assumption)) rfl ?_
        refine RL.e (Eff.alloc 110 zc42) rfl ?_
        rintro _ _ ⟨b10, rfl, rfl⟩
        refine RL.q (Yld.assign rfl) rfl ?_
        refine RL.e0 (Eff.storeS (c := 110) _ sz42 rfl rfl rfl rfl rfl rfl rfl (by (try simp only [putAt, List.take, List.drop, List.nil_append, List.cons_append, List.append_nil, List.length_cons, List.length_nil, Nat.add_zero, Nat.zero_add, Nat.reduceAdd]); rfl)) ?_
        rintro _ _ rfl
        refine RL.nil ?_
        refine N.next ?_
        refine W.keep (.cons (k := 4) rfl (.cons (k := 5) rfl (.cons (k := 6) rfl (.cons (k := 7) rfl (.cons (k := 9) rfl (.cons (k := 10) rfl (.cons (k := 24) rfl (.cons (k := 25) rfl (.cons (k := 26) rfl .nil))))))))) (.cons (k := 0) rfl (.cons (k := 1) rfl (.cons (k := 2) rfl (.cons (k := 3) rfl (.cons (k := 4) rfl (.cons (k := 5) rfl (.cons (k := 6) rfl (.cons (k := 7) rfl (.cons (k := 8) rfl (.cons (k := 9) rfl (.cons (k := 107) rfl (.cons (k := 110) rfl .nil)))))))))))) ?_
        refine W.seq ?_
        refine W.seq ?_
        refine W.draw (.q 0 (.q 1 (.q 2 (.q 3 (.q 4 (.q 5 (.q 6 (.q 7 (.q 8 (.q 9 (.q 10 (.q 11 (.q 12 (.q 13 (.q 14 .done))))))))))))))) (.cons (k := 0) rfl (.cons (k := 1) rfl (.cons (k := 2) rfl (.cons (k := 3) rfl (.cons (k := 4) rfl (.cons (k := 5) rfl (.cons (k := 6) rfl (.cons (k := 7) rfl (.cons (k := 8) rfl (.cons (k := 9) rfl (.cons (k := 107) rfl (.cons (k := 110) rfl .nil)))))))))))) mix (by kernel_rfl) (by kernel_rfl) ?_
        refine DL.q rfl (Yld.fieldAddr fo70_0 rfl) rfl ?_
        refine DL.q rfl (Yld.load1 (c := 107) Try.underlying63 rfl rfl rfl (by first | exact single_self _ _ | exact pset_self _ _ _ | assumption) rfl) rfl ?_
        refine DL.q rfl (Yld.move rfl) rfl ?_
        refine DL.q rfl (Yld.eq (v' := .int .u64 ((t : Int) / 2 ^ y.i)) (Yld.bin rfl rfl (BinV.shr (by omega) (by first | decide | (simp [IntKind.bits]; done) | (simp [IntKind.bits]; omega)))) (by rw [Int.toNat_natCast])) rfl ?_
        refine DL.q rfl (Yld.eq (v' := .int .u64 (if t.testBit y.i = true then 1 else 0)) (Yld.bin rfl rfl BinV.and) (by rw [bit_div ht])) rfl ?_
        refine DL.q rfl (Yld.eq (v' := .bool (t.testBit y.i)) (Yld.bin rfl rfl BinV.eql) (by cases t.testBit y.i <;> rfl)) rfl ?_
        refine DL.q rfl (Yld.move rfl) rfl ?_
        refine' DL.or (t := 37) (d := 45) 8 rfl (.cons (k := 4) rfl (.cons (k := 5) rfl (.cons (k := 6) rfl (.cons (k := 7) rfl (.cons (k := 9) rfl (.cons (k := 10) rfl (.cons (k := 24) rfl (.cons (k := 25) rfl (.cons (k := 26) rfl (.cons (k := 31) rfl (.cons (k := 32) rfl (.cons (k := 33) rfl (.cons (k := 34) rfl (.cons (k := 35) rfl (.cons (k := 36) rfl .nil))))))))))))))) (.cons (k := 0) rfl (.cons (k := 1) rfl (.cons (k := 2) rfl (.cons (k := 3) rfl (.cons (k := 4) rfl (.cons (k := 5) rfl (.cons (k := 6) rfl (.cons (k := 7) rfl (.cons (k := 8) rfl (.cons (k := 9) rfl (.cons (k := 107) rfl (.cons (k := 110) rfl .nil)))))))))))) ?_ ?_ ?_
        rotate_left 1
        ·
          intro hg37
          refine DL.gq rfl rfl rfl (Yld.move rfl) rfl ?_
          refine DL.gq rfl rfl rfl (Yld.indexAr Try.underlying64 sz63 rfl rfl (by omega) (by omega)) rfl ?_
          refine DL.gq rfl rfl rfl (Yld.loadRow1 (cl := 6) Try.underlying63 rfl rfl rfl hBP hlz) rfl ?_
          refine DL.gq rfl rfl rfl (Yld.fieldAddr fo70_0 rfl) rfl ?_
          refine DL.gq rfl rfl rfl (Yld.load1 (c := 107) Try.underlying63 rfl rfl rfl (by first | exact single_self _ _ | exact pset_self _ _ _ | assumption) rfl) rfl ?_
          refine DL.gq rfl rfl rfl (Yld.bin rfl rfl BinV.andNot) rfl ?_
          refine DL.gq rfl rfl rfl (Yld.bin rfl rfl BinV.neq) rfl ?_
          refine DL.q rfl (by first | exact Yld.pickT rfl rfl | exact Yld.pickF rfl rfl) rfl ?_
          exact DL.meet (.cons rfl (.cons rfl (.cons rfl (.cons rfl (.cons rfl (.cons rfl (.cons rfl (.cons rfl (.cons rfl (.cons rfl (.cons rfl (.cons rfl (.cons rfl (.cons rfl (.cons rfl (.cons rfl .nil)))))))))))))))) (.cons rfl (.cons rfl (.cons rfl (.cons rfl (.cons rfl (.cons rfl (.cons rfl (.cons rfl (.cons rfl (.cons rfl (.cons rfl (.cons rfl .nil))))))))))))
        ·
          intro hg37
          refine DL.gskip rfl rfl rfl rfl rfl ?_
          refine DL.gskip rfl rfl rfl rfl rfl ?_
          refine DL.gskip rfl rfl rfl rfl rfl ?_
          refine DL.gskip rfl rfl rfl rfl rfl ?_
          refine DL.gskip rfl rfl rfl rfl rfl ?_
          refine DL.gskip rfl rfl rfl rfl rfl ?_
          refine DL.gskip rfl rfl rfl rfl rfl ?_
          refine DL.q rfl (by first | exact Yld.pickT rfl rfl | exact Yld.pickF rfl rfl) rfl ?_
          exact DL.meet (.cons rfl (.cons rfl (.cons rfl (.cons rfl (.cons rfl (.cons rfl (.cons rfl (.cons rfl (.cons rfl (.cons rfl (.cons rfl (.cons rfl (.cons rfl (.cons rfl (.cons rfl (.cons rfl .nil)))))))))))))))) (.cons rfl (.cons rfl (.cons rfl (.cons rfl (.cons rfl (.cons rfl (.cons rfl (.cons rfl (.cons rfl (.cons rfl (.cons rfl (.cons rfl .nil))))))))))))
        refine DL.done ?_
        refine N.next ?_
        refine W.keep (.cons (k := 4) rfl (.cons (k := 5) rfl (.cons (k := 6) rfl (.cons (k := 7) rfl (.cons (k := 9) rfl (.cons (k := 10) rfl (.cons (k := 24) rfl (.cons (k := 25) rfl (.cons (k := 26) rfl (.cons (k := 45) rfl .nil)))))))))) (.cons (k := 0) rfl (.cons (k := 1) rfl (.cons (k := 2) rfl (.cons (k := 3) rfl (.cons (k := 4) rfl (.cons (k := 5) rfl (.cons (k := 6) rfl (.cons (k := 7) rfl (.cons (k := 8) rfl (.cons (k := 9) rfl (.cons (k := 107) rfl (.cons (k := 110) rfl .nil)))))))))))) ?_
        refine W.cond rfl (fun hc45 => ?_) (fun hc45 => ?_)
        ·
          have hnf : ¬ freeL l t y.i := fun h => by
            obtain ⟨h1, h2⟩ := hfi.1 h
            rw [h1, Bool.false_or, decide_eq_true_eq, bit_andNot hz60 ht] at hc45
            exact h2 hc45
          refine W.exit ?_
          refine N.then_exit ?_
          refine N.block_eq ?_
          refine N.next ?_
          refine W.region ?_
          refine RL.q (Yld.bin rfl rfl (by first | exact BinV.add (by omega) (by omega) | exact BinV.addW)) rfl ?_
          refine RL.q (Yld.move rfl) rfl ?_
          refine RL.nil ?_
          exact N.famK ⟨⟨y.es, y.ck, y.m, y.H, y.p, y.c⟩, y.i + 1⟩ ⟨⟨by dsimp only; omega, hMy, hTy, hOy, hsy, upS hcy ho (fun h => hnf h.1)⟩, by dsimp only; omega⟩ (.as rfl (by first | rfl | (simp; done) | (congr 1; simp; done) | (congr 1; omega)) .nil) (.cons rfl (.cons rfl (.cons rfl (.cons rfl (.cons rfl (.cons rfl .nil)))))) (.cons rfl (.cons rfl (.cons rfl .nil))) (.cons rfl (.cons rfl (.cons rfl (.cons rfl (.cons rfl (.cons rfl (.cons rfl (.cons rfl .nil))))))))
        ·
          have hf : freeL l t y.i := hfi.2 (by
            rw [Bool.or_eq_false_iff, decide_eq_false_iff_not, bit_andNot hz60 ht] at hc45
            exact hc45)
          have hca := cnt_add (n := n) (t := t) (show y.i < n by omega) hf.1
          have hsub : SeenOK l (Sn y.m) n (addB t y.i) := fun s hs hle => by
            rcases hsy s hs with h | h | h
            · subst h; exact absurd hle (by dsimp only; omega)
            · exact hsn s h (by omega)
            · exact h
          refine W.skip ?_
          refine N.next ?_
          refine W.seq ?_
          refine W.region ?_
          refine RL.q (Yld.fieldAddr fo70_1 rfl) rfl ?_
          refine RL.q (Yld.loadA (c := 107) Try.underlying68 rfl sz68 rfl rfl (by first | exact single_self _ _ | exact pset_self _ _ _ | assumption) rfl rfl) rfl ?_
          refine RL.q (Yld.fieldAddr fo42_3 rfl) rfl ?_
          refine RL.q (Yld.loadA (c := 110) Try.underlying38 rfl sz38 rfl rfl (by first | exact single_self _ _ | exact pset_self _ _ _ | assumption) rfl rfl) rfl ?_
          refine RL.e (Eff.call ent36 [] [] (.cons rfl (.cons rfl .nil)) (do_ct c o) rfl rfl rfl rfl (by rintro _ _ ⟨_, rfl⟩; rfl)) rfl ?_
          rintro _ _ ⟨_, ⟨rfl, rfl⟩, rfl⟩
          refine RL.q (Yld.move rfl) rfl ?_
          refine RL.q (Yld.extract rfl rfl) rfl ?_
          refine RL.q (Yld.extract rfl rfl) rfl ?_
          refine RL.e (Eff.alloc 111 zc68) rfl ?_
          rintro _ _ ⟨b11, rfl, rfl⟩
          refine RL.e (Eff.alloc 112 zc40) rfl ?_
          rintro _ _ ⟨b12, rfl, rfl⟩
          refine RL.e0 (Eff.storeS (c := 111) _ sz68 rfl rfl rfl rfl rfl rfl rfl (by (try simp only [putAt, List.take, List.drop, List.nil_append, List.cons_append, List.append_nil, List.length_cons, List.length_nil, Nat.add_zero, Nat.zero_add, Nat.reduceAdd]); rfl)) ?_
          rintro _ _ rfl
          refine RL.e0 (Eff.storeS (c := 112) _ sz40 rfl rfl rfl rfl rfl rfl rfl (by (try simp only [putAt, List.take, List.drop, List.nil_append, List.cons_append, List.append_nil, List.length_cons, List.length_nil, Nat.add_zero, Nat.zero_add, Nat.reduceAdd]); rfl)) ?_
          rintro _ _ rfl
          refine RL.nil ?_
          refine N.next ?_
          refine W.keep (.cons (k := 4) rfl (.cons (k := 5) rfl (.cons (k := 6) rfl (.cons (k := 7) rfl (.cons (k := 9) rfl (.cons (k := 10) rfl (.cons (k := 11) rfl (.cons (k := 12) rfl (.cons (k := 24) rfl (.cons (k := 25) rfl (.cons (k := 26) rfl .nil))))))))))) (.cons (k := 0) rfl (.cons (k := 1) rfl (.cons (k := 2) rfl (.cons (k := 3) rfl (.cons (k := 4) rfl (.cons (k := 5) rfl (.cons (k := 6) rfl (.cons (k := 7) rfl (.cons (k := 8) rfl (.cons (k := 9) rfl (.cons (k := 107) rfl (.cons (k := 110) rfl (.cons (k := 111) rfl (.cons (k := 112) rfl .nil)))))))))))))) ?_
          refine W.seq ?_
          refine W.seq ?_
          refine W.region ?_
          refine RL.q (Yld.fieldAddr fo42_6 rfl) rfl ?_
          refine RL.q (Yld.load1 (c := 110) Try.underlying3 rfl rfl rfl (by first | exact single_self _ _ | exact pset_self _ _ _ | assumption) rfl) rfl ?_
          refine RL.q (Yld.bin rfl rfl BinV.geq) rfl ?_
          refine RL.q (Yld.move rfl) rfl ?_
          refine' RL.and (t := 57) (d := 62) 5 rfl (.cons (k := 4) rfl (.cons (k := 5) rfl (.cons (k := 6) rfl (.cons (k := 7) rfl (.cons (k := 9) rfl (.cons (k := 10) rfl (.cons (k := 11) rfl (.cons (k := 12) rfl (.cons (k := 24) rfl (.cons (k := 25) rfl (.cons (k := 26) rfl (.cons (k := 54) rfl (.cons (k := 55) rfl (.cons (k := 56) rfl .nil)))))))))))))) (.cons (k := 0) rfl (.cons (k := 1) rfl (.cons (k := 2) rfl (.cons (k := 3) rfl (.cons (k := 4) rfl (.cons (k := 5) rfl (.cons (k := 6) rfl (.cons (k := 7) rfl (.cons (k := 8) rfl (.cons (k := 9) rfl (.cons (k := 107) rfl (.cons (k := 110) rfl (.cons (k := 111) rfl (.cons (k := 112) rfl .nil)))))))))))))) ?_ ?_ ?_
          rotate_left 1
          ·
            intro hg57
            refine RL.gq rfl rfl (Yld.loadW (c := 112) Try.underlying40 rfl sz40 rfl rfl (by first | exact single_self _ _ | exact pset_self _ _ _ | assumption) rfl) rfl ?_
            refine RL.gq rfl rfl (Yld.fieldAddr fo42_4 rfl) rfl ?_
            refine RL.gq rfl rfl (Yld.loadA (c := 110) Try.underlying40 rfl sz40 rfl rfl (by first | exact single_self _ _ | exact pset_self _ _ _ | assumption) rfl rfl) rfl ?_
            refine RL.gq rfl rfl (Yld.bin rfl rfl (BinV.neqT eqg40 (EqV.struct Try.underlying40 sih40 (EqF.cons rfl (PartV.one Try.underlying26 rfl rfl) (PartV.one Try.underlying26 rfl rfl) (EqV.int Try.underlying26) (EqF.cons rfl (PartV.one Try.underlying4 rfl rfl) (PartV.one Try.underlying4 rfl rfl) (EqV.bool Try.underlying4) (EqF.cons rfl (PartV.one Try.underlying2 rfl rfl) (PartV.one Try.underlying2 rfl rfl) (EqV.int Try.underlying2) EqF.nil)))))) rfl ?_
            refine RL.q (by first | exact Yld.pickT rfl rfl | exact Yld.pickF rfl rfl) rfl ?_
            exact RL.nil (N.meet (.cons rfl (.cons rfl (.cons rfl (.cons rfl (.cons rfl (.cons rfl (.cons rfl (.cons rfl (.cons rfl (.cons rfl (.cons rfl (.cons rfl (.cons rfl (.cons rfl (.cons rfl .nil))))))))))))))) (.cons rfl (.cons rfl (.cons rfl (.cons rfl (.cons rfl (.cons rfl (.cons rfl (.cons rfl (.cons rfl (.cons rfl (.cons rfl (.cons rfl (.cons rfl (.cons rfl .nil)))))))))))))))
          ·
            intro hg57
            refine RL.gskip rfl rfl rfl rfl ?_
            refine RL.gskip rfl rfl rfl rfl ?_
            refine RL.gskip rfl rfl rfl rfl ?_
            refine RL.gskip rfl rfl rfl rfl ?_
            refine RL.q (by first | exact Yld.pickT rfl rfl | exact Yld.pickF rfl rfl) rfl ?_
            exact RL.nil (N.meet (.cons rfl (.cons rfl (.cons rfl (.cons rfl (.cons rfl (.cons rfl (.cons rfl (.cons rfl (.cons rfl (.cons rfl (.cons rfl (.cons rfl (.cons rfl (.cons rfl (.cons rfl .nil))))))))))))))) (.cons rfl (.cons rfl (.cons rfl (.cons rfl (.cons rfl (.cons rfl (.cons rfl (.cons rfl (.cons rfl (.cons rfl (.cons rfl (.cons rfl (.cons rfl (.cons rfl .nil)))))))))))))))
          refine RL.nil ?_
          refine N.next ?_
          refine W.keep (.cons (k := 4) rfl (.cons (k := 5) rfl (.cons (k := 6) rfl (.cons (k := 7) rfl (.cons (k := 9) rfl (.cons (k := 11) rfl (.cons (k := 24) rfl (.cons (k := 25) rfl (.cons (k := 26) rfl (.cons (k := 62) rfl .nil)))))))))) (.cons (k := 0) rfl (.cons (k := 1) rfl (.cons (k := 2) rfl (.cons (k := 3) rfl (.cons (k := 4) rfl (.cons (k := 5) rfl (.cons (k := 6) rfl (.cons (k := 7) rfl (.cons (k := 8) rfl (.cons (k := 9) rfl (.cons (k := 107) rfl (.cons (k := 110) rfl (.cons (k := 111) rfl (.cons (k := 112) rfl .nil)))))))))))))) ?_
          refine W.cond rfl (fun hc62 => ?_) (fun hc62 => ?_)
          ·
            have hno : ¬ okR o (doL c o).2 := fun h => by rw [okR_b.2 h] at hc62; cases hc62
            refine W.exit ?_
            refine N.then_exit ?_
            refine N.block_eq ?_
            refine N.next ?_
            refine W.region ?_
            refine RL.q (Yld.bin rfl rfl (by first | exact BinV.add (by omega) (by omega) | exact BinV.addW)) rfl ?_
            refine RL.q (Yld.move rfl) rfl ?_
            refine RL.nil ?_
            exact N.famK ⟨⟨y.es, y.ck, y.m, y.H, y.p, y.c⟩, y.i + 1⟩ ⟨⟨by dsimp only; omega, hMy, hTy, hOy, hsy, upS hcy ho (fun h => hno h.2.1)⟩, by dsimp only; omega⟩ (.as rfl (by first | rfl | (simp; done) | (congr 1; simp; done) | (congr 1; omega)) .nil) (.cons rfl (.cons rfl (.cons rfl (.cons rfl (.cons rfl (.cons rfl .nil)))))) (.cons rfl (.cons rfl (.cons rfl .nil))) (.cons rfl (.cons rfl (.cons rfl (.cons rfl (.cons rfl (.cons rfl (.cons rfl (.cons rfl .nil))))))))
          ·
            have hok : okR o (doL c o).2 := okR_b.1 hc62
            refine W.skip ?_
            refine N.next ?_
            refine W.seq ?_
            refine W.region ?_
            refine RL.q (Yld.load1 (c := 7) Try.underlying25 rfl rfl rfl (by first | exact single_self _ _ | exact pset_self _ _ _ | assumption) rfl) rfl ?_
            refine RL.q (Yld.move rfl) rfl ?_
            refine RL.e (Eff.buildSlice 165 Try.underlying25 sz3 zc3 rfl rfl (.cons rfl rfl .nil) rfl) rfl ?_
            rintro _ _ ⟨b65, rfl, rfl⟩
            refine RL.e (Eff.appendE (tc := 8) (sc := 165) (fun z : Int => [Value.int .i64 z]) Try.underlying25 el3 rfl rfl rfl rfl hOy rfl (iz_single rfl) rfl (iz_one1 _) (by decide) (by first | (simp; done) | (simp; omega)) (by first | (simp [maxLen]; done) | (simp [maxLen]; omega))) rfl ?_
            rintro _ _ ⟨Ha, pa, ca, rfl, hOa, rfl⟩
            rw [show zs ord ++ [(y.i : Int)] = zs (ord ++ [y.i]) by rw [zs_app]; rfl] at hOa ⊢
            refine RL.e0 (Eff.storeS (c := 7) _ sz25 rfl rfl rfl rfl rfl rfl rfl (by (try simp only [putAt, List.take, List.drop, List.nil_append, List.cons_append, List.append_nil, List.length_cons, List.length_nil, Nat.add_zero, Nat.zero_add, Nat.reduceAdd]); rfl)) ?_
            rintro _ _ rfl
            refine RL.nil ?_
            refine N.next ?_
            refine W.keep (.cons (k := 4) rfl (.cons (k := 5) rfl (.cons (k := 6) rfl (.cons (k := 7) rfl (.cons (k := 9) rfl (.cons (k := 11) rfl (.cons (k := 24) rfl (.cons (k := 25) rfl (.cons (k := 26) rfl .nil))))))))) (.cons (k := 0) rfl (.cons (k := 1) rfl (.cons (k := 2) rfl (.cons (k := 3) rfl (.cons (k := 4) rfl (.cons (k := 5) rfl (.cons (k := 6) rfl (.cons (k := 7) rfl (.cons (k := 8) rfl (.cons (k := 9) rfl (.cons (k := 107) rfl (.cons (k := 110) rfl (.cons (k := 111) rfl (.cons (k := 112) rfl (.cons (k := 165) rfl .nil))))))))))))))) ?_
            refine W.seq ?_
            refine W.seq ?_
            refine W.draw (.q 1 (.q 2 (.q 3 (.q 4 (.q 5 (.q 6 (.q 7 (.one 0 (.one 8 .done))))))))) (.cons (k := 0) rfl (.cons (k := 107) rfl (.cons (k := 110) rfl (.cons (k := 111) rfl (.cons (k := 112) rfl (.cons (k := 165) rfl .nil)))))) mix (by kernel_rfl) (by kernel_rfl) ?_
            refine DL.q rfl (Yld.fieldAddr fo70_0 rfl) rfl ?_
            refine DL.q rfl (Yld.load1 (c := 107) Try.underlying63 rfl rfl rfl (by first | exact single_self _ _ | exact pset_self _ _ _ | assumption) rfl) rfl ?_
            refine DL.q rfl (Yld.move rfl) rfl ?_
            refine DL.q rfl (Yld.eq (v' := .int .u64 ((2 ^ y.i : Nat) : Int)) (Yld.bin rfl rfl (BinV.shlW (by omega) (by first | decide | (simp [IntKind.bits]; done) | (simp [IntKind.bits]; omega)))) (by rw [bit_shl (by omega)])) rfl ?_
            refine DL.q rfl (Yld.eq (v' := .int .u64 ((addB t y.i : Nat) : Int)) (Yld.bin rfl rfl BinV.or) (by rw [bit_or ht (by omega)])) rfl ?_
            refine DL.q rfl (Yld.loadW (c := 111) Try.underlying68 rfl sz68 rfl rfl (by first | exact single_self _ _ | exact pset_self _ _ _ | assumption) rfl) rfl ?_
            refine DL.q rfl (Yld.buildP lay70 (.cons rfl rfl (.cons rfl rfl .nil)) rfl) rfl ?_
            refine DL.one rfl (Yld.eff (Yld.load1 (c := 9) Try.underlying66 rfl rfl rfl (by first | exact single_self _ _ | exact pset_self _ _ _ | assumption) rfl)) rfl (by rintro _ _ ⟨rfl, rfl⟩; repeat (first | exact .nil | refine .cons rfl ?_)) ?_
            rintro _ _ ⟨rfl, rfl⟩
            refine DL.one rfl (Eff.callV ent35 [1, 2, 3, 4, 5, 6, 7, 8, 9] [1, 2, 3, 4, 5, 6, 7, 8, 9] rfl (.cons rfl .nil) (ih (addB t y.i) (doL c o).1 (ord ++ [y.i]) ⟨y.es, y.ck, y.m, Ha, pa, ca⟩ (by omega) (addB_lt ht (by omega)) hMy hTy hOa (by rw [List.length_append]; simp only [List.length_cons, List.length_nil]; omega) hsub) rfl rfl rfl rfl (by rintro _ _ ⟨_, _, _, _, _, _, _, _, _, rfl⟩; rfl)) rfl (by rintro _ _ ⟨_, ⟨b, z, r, rfl, hMz, hTz, hOz, hb1, hb0, rfl⟩, rfl⟩; repeat (first | exact .nil | refine .cons rfl ?_)) ?_
            rintro _ _ ⟨_, ⟨b, z, r, rfl, hMz, hTz, hOz, hb1, hb0, rfl⟩, rfl⟩
            refine DL.done ?_
            refine N.next ?_
            refine W.keep (.cons (k := 4) rfl (.cons (k := 5) rfl (.cons (k := 6) rfl (.cons (k := 7) rfl (.cons (k := 24) rfl (.cons (k := 25) rfl (.cons (k := 26) rfl (.cons (k := 75) rfl .nil)))))))) (.cons (k := 0) rfl (.cons (k := 1) rfl (.cons (k := 2) rfl (.cons (k := 3) rfl (.cons (k := 4) rfl (.cons (k := 5) rfl (.cons (k := 6) rfl (.cons (k := 7) rfl (.cons (k := 8) rfl (.cons (k := 9) rfl (.cons (k := 107) rfl (.cons (k := 110) rfl (.cons (k := 111) rfl (.cons (k := 112) rfl (.cons (k := 165) rfl .nil))))))))))))))) ?_
            refine W.cond rfl (fun hc75 => ?_) (fun hc75 => ?_)
            ·
              refine W.seq ?_
              refine W.region ?_
              refine RL.q (Yld.assign rfl) rfl ?_
              refine RL.nil ?_
              refine N.next ?_
              refine W.keep (.cons (k := 8) rfl .nil) (.cons (k := 0) rfl (.cons (k := 1) rfl (.cons (k := 2) rfl (.cons (k := 3) rfl (.cons (k := 4) rfl (.cons (k := 5) rfl (.cons (k := 6) rfl (.cons (k := 7) rfl (.cons (k := 8) rfl (.cons (k := 9) rfl (.cons (k := 107) rfl (.cons (k := 110) rfl (.cons (k := 111) rfl (.cons (k := 112) rfl (.cons (k := 165) rfl .nil))))))))))))))) ?_
              refine W.ret ?_
              refine N.then_ret ?_
              refine N.block_ret ?_
              refine N.then_ret ?_
              refine N.then_ret ?_
              refine N.block_ret ?_
              refine N.then_ret ?_
              refine N.scope_ret ?_
              exact N.retBy [1, 2, 3, 4, 5, 6, 7, 8, 9] (.cons (.tmp rfl) .nil) rfl rfl rfl rfl ⟨true, z, y.i :: r, rfl, hMz, hTz, by rw [← List.singleton_append, ← List.append_assoc]; exact hOz, fun _ => ⟨o, ho, hf, hok, hb1 hc75⟩, (fun h => by cases h), by rw [List.append_assoc, List.singleton_append]⟩
            ·
              obtain ⟨rfl, hdz, hsz0⟩ := hb0 hc75
              have hzl : (zs (ord ++ [y.i] ++ [])).length = ord.length + 1 := by simp
              have hOz2 : Own z.H z.p z.c 3 1 (iz (zs ord)) := by
                have h := hOz.take (zs ord).length
                rw [List.append_nil, zs_app, iz_app, ← iz_len (zs ord), List.take_left] at h
                exact h
              have hsz : ∀ s, Sn z.m s → s = (t, c) ∨ Sn x.m s ∨ ¬ Live l s.1 s.2 := fun s hs => (hsz0 s hs).elim (hsy s) (fun h => .inr (.inr h))
              have hcz0 := hOz.sl.len_le
              simp only [iz_len, zs_len, maxLen] at hcz0
              have hzc : (zs ord).length ≤ z.c := by
                rw [zs_len]
                have := hcz0.1
                simp only [List.append_nil, List.length_append] at this
                omega
              refine W.skip ?_
              refine N.next ?_
              refine W.region ?_
              refine RL.q (Yld.load1 (c := 7) Try.underlying25 rfl rfl rfl (by first | exact single_self _ _ | exact pset_self _ _ _ | assumption) rfl) rfl ?_
              refine RL.q (Yld.load1 (c := 7) Try.underlying25 rfl rfl rfl (by first | exact single_self _ _ | exact pset_self _ _ _ | assumption) rfl) rfl ?_
              refine RL.q (Yld.lenSl Try.underlying25 rfl) rfl ?_
              refine RL.q (Yld.eq (v' := .int .i64 ((zs ord).length : Nat)) (Yld.bin rfl rfl (by first | exact BinV.sub (by omega) (by omega) | exact BinV.subW)) (by rw [hzl, zs_len]; congr 1; omega)) rfl ?_
              refine RL.q (Yld.eq (v' := .slice z.p (zs ord).length z.c) (Yld.sliceH Try.underlying25 sz3 rfl rfl (by omega) (by first | omega | (simp; done) | (simp; omega))) (by rw [Int.toNat_natCast])) rfl ?_
              refine RL.e0 (Eff.storeS (c := 7) _ sz25 rfl rfl rfl rfl rfl rfl rfl (by (try simp only [putAt, List.take, List.drop, List.nil_append, List.cons_append, List.append_nil, List.length_cons, List.length_nil, Nat.add_zero, Nat.zero_add, Nat.reduceAdd]); rfl)) ?_
              rintro _ _ rfl
              refine RL.nil ?_
              refine N.block_normal ?_
              refine N.next ?_
              refine W.keep (.cons (k := 4) rfl (.cons (k := 5) rfl (.cons (k := 6) rfl (.cons (k := 7) rfl (.cons (k := 24) rfl (.cons (k := 25) rfl (.cons (k := 26) rfl .nil))))))) (.cons (k := 0) rfl (.cons (k := 1) rfl (.cons (k := 2) rfl (.cons (k := 3) rfl (.cons (k := 4) rfl (.cons (k := 5) rfl (.cons (k := 6) rfl (.cons (k := 7) rfl (.cons (k := 8) rfl (.cons (k := 9) rfl (.cons (k := 107) rfl (.cons (k := 110) rfl (.cons (k := 111) rfl (.cons (k := 112) rfl (.cons (k := 165) rfl .nil))))))))))))))) ?_
              refine W.region ?_
              refine RL.q (Yld.bin rfl rfl (by first | exact BinV.add (by omega) (by omega) | exact BinV.addW)) rfl ?_
              refine RL.q (Yld.move rfl) rfl ?_
              refine RL.nil ?_
              exact N.famK ⟨⟨z.es, z.ck, z.m, z.H, z.p, z.c⟩, y.i + 1⟩ ⟨⟨by dsimp only; omega, hMz, hTz, hOz2, hsz, upS hcy ho (fun h => hdz h.2.2)⟩, by dsimp only; omega⟩ (.as rfl (by first | rfl | (simp; done) | (congr 1; simp; done) | (congr 1; omega)) .nil) (.cons rfl (.cons rfl (.cons rfl (.cons rfl (.cons rfl (.cons rfl .nil)))))) (.cons rfl (.cons rfl (.cons rfl .nil))) (.cons rfl (.cons rfl (.cons rfl (.cons rfl (.cons rfl (.cons rfl (.cons rfl (.cons rfl .nil))))))))
      ·
        have hend : y.i = n := by omega
        have hdead : ¬ Live l t c := fun h => (live_iff.1 h).elim hdn (fun ⟨j, a, ha, h2⟩ => hcy j a (by have := (List.getElem?_eq_some_iff.1 ha).1; omega) ha h2)
        refine W.exit ?_
        refine N.then_exit ?_
        refine N.then_exit ?_
        refine N.block_eq ?_
        refine N.next ?_
        refine W.keep .nil (.cons (k := 0) rfl (.cons (k := 1) rfl (.cons (k := 2) rfl (.cons (k := 3) rfl (.cons (k := 4) rfl (.cons (k := 5) rfl (.cons (k := 6) rfl (.cons (k := 7) rfl (.cons (k := 8) rfl (.cons (k := 9) rfl (.cons (k := 107) rfl .nil))))))))))) ?_
        refine W.seq ?_
        refine W.region ?_
        refine RL.q (Yld.assign rfl) rfl ?_
        refine RL.nil ?_
        refine N.next ?_
        refine W.ret ?_
        refine N.scope_ret ?_
        exact N.retBy [1, 2, 3, 4, 5, 6, 7, 8, 9] (.cons (.tmp rfl) .nil) rfl rfl rfl rfl ⟨false, ⟨y.es, y.ck, y.m, y.H, y.p, y.c⟩, [], rfl, hMy, hTy, by rw [List.append_nil]; exact hOy, (fun h => by cases h), fun _ => ⟨rfl, hdead, fun s hs => (hsy s hs).elim (fun e => by subst e; exact .inr hdead) id⟩, by rw [List.append_nil]⟩

end Go.Proofs.Ytbgppnkccbhbpaa
