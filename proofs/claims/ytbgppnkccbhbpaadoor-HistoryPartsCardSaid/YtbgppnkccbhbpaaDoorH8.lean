/- Contracts and walks of package history: parts. Written by program (walk.py). -/
import Derived.Test.YtbgppnkccbhbpaaDoorH7
namespace Go.Proofs.YtbgppnkccbhbpaaDoor
open SL HistLaw
set_option linter.unusedVariables false
set_option linter.unusedSimpArgs false
theorem eqg32 : Program.eqGuardType Tryd.prog (Program.depth Tryd.prog) 32 = false := by kernel_rfl
theorem sih32 : Program.stoodInHeld Tryd.prog 32 = false := by kernel_rfl
theorem sih27 : Program.stoodInHeld Tryd.prog 27 = false := by kernel_rfl
theorem ent38 : Ent Tryd.prog 38 := ⟨_, _, Tryd.func38, by kernel_rfl, rfl⟩
theorem ent40 : Ent Tryd.prog 40 := ⟨_, _, Tryd.func40, by kernel_rfl, rfl⟩
set_option maxRecDepth 100000 in
set_option maxHeartbeats 1600000 in
theorem filter_ct (l : List O) (hl6 : l.length ≤ 1000000) (H1 : PH) (p : Option Addr) (c : Nat) (hS : Sl H1 p c 12 (l.map O.c)) (f : Nat) (cap : List Value) (G : PH) (q : O → Bool) (hent : Ent Tryd.prog f) (hf : ∀ a : O, Ct Tryd.prog f (.agg [.int .i64 a.cl, .int .i64 a.nu, .int .i64 a.gr, .int .i64 a.kd, .string a.key, .int .i64 a.val, .int .i64 a.old, .int .i64 a.code, .bool a.fnd, .int .i64 a.rv, .int .i64 a.inv, .int .i64 a.rsp].toArray :: cap) [G] (fun v Hs => v = .bool (q a) ∧ Hs = [G])) : Ct Tryd.prog 38 [.slice p (l.map O.c).length c, .func (.func f) [].toArray cap.toArray] [H1, G] (fun v Hs => ∃ Ho po co, v = .slice po ((l.filter q).map O.c).length co ∧ Own Ho po co 32 12 ((l.filter q).map O.c) ∧ Hs = [H1, G, Ho]) := by
  refine Ct.body Tryd.func38 rfl Tryd.ntmps38 rfl ?_
  intro E F
  have hmax := hS.len_le
  simp only [maxLen] at hmax
  refine W.seq ?_
  refine W.region ?_
  refine RL.q (Yld.assign rfl) rfl ?_
  refine RL.nil ?_
  refine N.next ?_
  refine W.seq ?_
  refine W.region ?_
  refine RL.q (Yld.assign rfl) rfl ?_
  refine RL.nil ?_
  refine N.next ?_
  refine W.seq ?_
  refine W.seq ?_
  refine W.imp (Imp.empty _ 30) ?_
  refine W.region ?_
  refine RL.q (Yld.move rfl) rfl ?_
  refine RL.q (Yld.lenSl Tryd.underlying22 rfl) rfl ?_
  refine RL.q (Yld.move rfl) rfl ?_
  refine RL.nil ?_
  refine N.next ?_
  refine W.block ?_
  refine W.loop (ι := FI) (fun x => x.i ≤ (l.map O.c).length ∧ Own x.Ho x.po x.co 32 12 (((l.take x.i).filter q).map O.c)) (fun x => [(0, .slice p (l.map O.c).length c), (1, .func (.func f) [].toArray cap.toArray), (5, .slice x.po (((l.take x.i).filter q).map O.c).length x.co), (8, .slice p (l.map O.c).length c), (9, .int .i64 ((l.map O.c).length : Nat)), (10, .int .i64 (x.i : Nat))]) (fun x => [(0, F), (1, H1), (2, G), (30, x.Ho)]) (fun x => (l.map O.c).length - x.i) ⟨0, emp, none, 0⟩ ?_ ?_ ?_ ?_
  · exact ⟨Nat.zero_le _, by simpa using Own.nil _ _⟩
  · exact (.cons rfl (.cons rfl (.cons rfl (.cons rfl (.cons rfl (.cons rfl .nil))))))
  · exact (.cons rfl (.cons rfl (.cons rfl (.cons rfl .nil))))
  rintro x ⟨hi, hO⟩
  refine W.seq ?_
  refine W.region ?_
  refine RL.q (Yld.bin rfl rfl BinV.lss) rfl ?_
  refine RL.nil ?_
  refine N.next ?_
  refine W.seq ?_
  first | refine W.condD rfl (fun hc11 => ?_) (fun hc11 => ?_) | (refine W.cond rfl (fun hc11 => ?_) (fun hc11 => ?_) <;> try simp only [Bool.or_eq_true, Bool.and_eq_true, Bool.not_eq_true', Bool.not_eq_false', decide_eq_true_eq, Bool.or_eq_false_iff, Bool.and_eq_false_iff, decide_eq_false_iff_not, beq_iff_eq, beq_eq_false_iff_ne, ne_eq, Decidable.not_not] at hc11)
  ·
    have hll : (l.map O.c).length = l.length := by simp
    obtain ⟨o, ho⟩ : ∃ o, l[x.i]? = some o := ⟨_, List.getElem?_eq_getElem (show x.i < l.length by simp only [List.length_map] at *; omega)⟩
    have hlo : (l.map O.c)[x.i]? = some o.c := by simp [ho]
    have htk : l.take (x.i + 1) = l.take x.i ++ [o] := by rw [List.take_add_one, ho]; rfl
    have hfl : ((l.take x.i).filter q).length ≤ x.i := Nat.le_trans (List.length_filter_le _ _) (by rw [List.length_take]; omega)
    have hfl2 : (((l.take x.i).filter q).map O.c).length = ((l.take x.i).filter q).length := by simp
    refine W.skip ?_
    refine N.next ?_
    refine W.seq ?_
    refine W.block ?_
    refine W.seq ?_
    refine W.region ?_
    refine RL.q (Yld.indexRow Tryd.underlying22 sz32 rfl rfl hS (by first | rfl | omega | (simp; done) | (simp; omega)) (by omega) (by first | omega | (simp; done) | (simp; omega))) rfl ?_
    refine RL.q (Yld.eq (v' := .agg [.int .i64 o.cl, .int .i64 o.nu, .int .i64 o.gr, .int .i64 o.kd, .string o.key, .int .i64 o.val, .int .i64 o.old, .int .i64 o.code, .bool o.fnd, .int .i64 o.rv, .int .i64 o.inv, .int .i64 o.rsp].toArray) (Yld.loadRow (cl := 1) Tryd.underlying32 rfl sz32 rfl rfl hS hlo) rfl) rfl ?_
    refine RL.e (Eff.alloc 107 zc32) rfl ?_
    rintro _ _ ⟨b7, rfl, rfl⟩
    refine RL.e0 (Eff.storeS (c := 107) _ sz32 rfl rfl rfl rfl rfl rfl rfl (by (try simp only [putAt, List.take, List.drop, List.nil_append, List.cons_append, List.append_nil, List.length_cons, List.length_nil, Nat.add_zero, Nat.zero_add, Nat.reduceAdd]); rfl)) ?_
    rintro _ _ rfl
    refine RL.nil ?_
    refine N.next ?_
    refine W.seq ?_
    refine W.region ?_
    refine RL.q (Yld.move rfl) rfl ?_
    refine RL.q (Yld.loadW (c := 107) Tryd.underlying32 rfl sz32 rfl rfl (by first | exact single_self _ _ | exact pset_self _ _ _ | assumption) rfl) rfl ?_
    refine RL.e (Eff.callV hent [2] [2] rfl (.cons rfl .nil) (hf o) rfl rfl rfl rfl (by rintro _ _ ⟨_, rfl⟩; rfl)) rfl ?_
    rintro _ _ ⟨_, ⟨rfl, rfl⟩, rfl⟩
    refine RL.nil ?_
    refine N.next ?_
    refine W.keep (.cons (k := 0) rfl (.cons (k := 1) rfl (.cons (k := 5) rfl (.cons (k := 7) rfl (.cons (k := 8) rfl (.cons (k := 9) rfl (.cons (k := 10) rfl (.cons (k := 16) rfl .nil)))))))) (.cons (k := 0) rfl (.cons (k := 1) rfl (.cons (k := 2) rfl (.cons (k := 30) rfl (.cons (k := 107) rfl .nil))))) ?_
    refine W.cond rfl (fun hc16 => ?_) (fun hc16 => ?_)
    ·
      have hnx : (((l.take (x.i + 1)).filter q).map O.c) = (((l.take x.i).filter q).map O.c) ++ [o.c] := by rw [htk, List.filter_append, List.map_append]; simp [hc16]
      refine W.region ?_
      refine RL.q (Yld.move rfl) rfl ?_
      refine RL.q (Yld.loadW (c := 107) Tryd.underlying32 rfl sz32 rfl rfl (by first | exact single_self _ _ | exact pset_self _ _ _ | assumption) rfl) rfl ?_
      refine RL.e (Eff.buildSlice 119 Tryd.underlying22 sz32 zc32 rfl rfl (.cons rfl rfl .nil) rfl) rfl ?_
      rintro _ _ ⟨b19, rfl, rfl⟩
      refine RL.e (Eff.append (tc := 30) (sc := 119) Tryd.underlying22 el32 rfl rfl rfl rfl hO rfl (Own.one (l := o.c) rfl (O.c_one o).2 rfl).sl rfl (by simp [O.c, Value.oneCell']) (by decide) (by simp; omega) (by simp [maxLen]; omega)) rfl ?_
      rintro _ _ ⟨Ha, pa, ca, rfl, hOa, rfl⟩
      refine RL.q (Yld.assign rfl) rfl ?_
      refine RL.nil ?_
      refine N.block_normal ?_
      refine N.next ?_
      refine W.keep (.cons (k := 0) rfl (.cons (k := 1) rfl (.cons (k := 5) rfl (.cons (k := 8) rfl (.cons (k := 9) rfl (.cons (k := 10) rfl .nil)))))) (.cons (k := 0) rfl (.cons (k := 1) rfl (.cons (k := 2) rfl (.cons (k := 30) rfl (.cons (k := 107) rfl (.cons (k := 119) rfl .nil)))))) ?_
      refine W.region ?_
      refine RL.q (Yld.bin rfl rfl (by first | exact BinV.add (by omega) (by omega) | exact BinV.addW)) rfl ?_
      refine RL.q (Yld.move rfl) rfl ?_
      refine RL.nil ?_
      exact N.fam ⟨x.i + 1, Ha, pa, ca⟩ ⟨⟨by show x.i + 1 ≤ _; omega, by show Own _ _ _ _ _ (((l.take (x.i + 1)).filter q).map O.c); rw [hnx]; exact hOa⟩, by show _ - (x.i + 1) < _; omega⟩ (.cons rfl (.cons rfl (.as rfl (by show Value.slice _ _ _ = Value.slice _ (((l.take (x.i + 1)).filter q).map O.c).length _; rw [hnx]) (.cons rfl (.cons rfl (.cons rfl .nil)))))) (.cons rfl (.cons rfl (.cons rfl (.cons rfl .nil))))
    ·
      have hnx : (((l.take (x.i + 1)).filter q).map O.c) = (((l.take x.i).filter q).map O.c) := by rw [htk, List.filter_append, List.map_append]; simp [hc16]
      refine W.skip ?_
      refine N.block_normal ?_
      refine N.next ?_
      refine W.region ?_
      refine RL.q (Yld.bin rfl rfl (by first | exact BinV.add (by omega) (by omega) | exact BinV.addW)) rfl ?_
      refine RL.q (Yld.move rfl) rfl ?_
      refine RL.nil ?_
      exact N.fam ⟨x.i + 1, x.Ho, x.po, x.co⟩ ⟨⟨by show x.i + 1 ≤ _; omega, by show Own _ _ _ _ _ (((l.take (x.i + 1)).filter q).map O.c); rw [hnx]; exact hO⟩, by show _ - (x.i + 1) < _; omega⟩ (.cons rfl (.cons rfl (.as rfl (by show Value.slice _ _ _ = Value.slice _ (((l.take (x.i + 1)).filter q).map O.c).length _; rw [hnx]) (.cons rfl (.cons rfl (.cons rfl .nil)))))) (.cons rfl (.cons rfl (.cons rfl (.cons rfl .nil))))
  ·
    have hend : x.i = l.length := by simp only [List.length_map] at *; omega
    refine W.exit ?_
    refine N.then_exit ?_
    refine N.then_exit ?_
    refine N.block_eq ?_
    refine N.next ?_
    refine W.keep (.cons (k := 5) rfl .nil) (.cons (k := 0) rfl (.cons (k := 1) rfl (.cons (k := 2) rfl (.cons (k := 30) rfl .nil)))) ?_
    refine W.seq ?_
    refine W.region ?_
    refine RL.q (Yld.move rfl) rfl ?_
    refine RL.q (Yld.assign rfl) rfl ?_
    refine RL.nil ?_
    refine N.next ?_
    refine W.ret ?_
    exact N.retBy [1, 2, 30] (.cons (.tmp rfl) .nil) rfl rfl rfl rfl ⟨x.Ho, x.po, x.co, by show Value.slice _ _ _ = _; rw [hend, List.take_length], by rw [hend, List.take_length] at hO; exact hO, rfl⟩

set_option maxRecDepth 100000 in
set_option maxHeartbeats 400000 in
theorem pendC_ct (G : PH) (a : O) : Ct Tryd.prog 39 [.agg [.int .i64 a.cl, .int .i64 a.nu, .int .i64 a.gr, .int .i64 a.kd, .string a.key, .int .i64 a.val, .int .i64 a.old, .int .i64 a.code, .bool a.fnd, .int .i64 a.rv, .int .i64 a.inv, .int .i64 a.rsp].toArray] [G] (fun v Hs => v = .bool (decide (¬ 0 ≤ a.rsp)) ∧ Hs = [G]) := by
  refine Ct.body Tryd.func39 rfl Tryd.ntmps39 rfl ?_
  intro E F
  refine W.seq ?_
  refine W.region ?_
  refine RL.e (Eff.box 101 _ rfl rfl) rfl ?_
  rintro _ _ ⟨b1, rfl, rfl⟩
  refine RL.q (Yld.assign rfl) rfl ?_
  refine RL.nil ?_
  refine N.next ?_
  refine W.seq ?_
  refine W.region ?_
  refine RL.q (Yld.loadW (c := 101) Tryd.underlying32 rfl sz32 rfl rfl (by first | exact single_self _ _ | exact pset_self _ _ _ | assumption) rfl) rfl ?_
  refine RL.e (Eff.call ent34 [] [] (.cons rfl .nil) (complete_ct _) rfl rfl rfl rfl (by rintro _ _ ⟨_, rfl⟩; rfl)) rfl ?_
  rintro _ _ ⟨_, ⟨rfl, rfl⟩, rfl⟩
  refine RL.q (by first | exact Yld.notD rfl | exact Yld.not rfl) rfl ?_
  refine RL.q (Yld.assign rfl) rfl ?_
  refine RL.nil ?_
  refine N.next ?_
  refine W.keep (.cons (k := 2) rfl .nil) (.cons (k := 0) rfl (.cons (k := 1) rfl (.cons (k := 101) rfl .nil))) ?_
  refine W.ret ?_
  exact N.retBy [1] (.cons (.tmp rfl) .nil) rfl rfl rfl rfl ⟨rfl, rfl⟩

set_option maxRecDepth 100000 in
set_option maxHeartbeats 400000 in
theorem prefC_ct (b : Nat) (n : Int) (a : O) : Ct Tryd.prog 40 [.agg [.int .i64 a.cl, .int .i64 a.nu, .int .i64 a.gr, .int .i64 a.kd, .string a.key, .int .i64 a.val, .int .i64 a.old, .int .i64 a.code, .bool a.fnd, .int .i64 a.rv, .int .i64 a.inv, .int .i64 a.rsp].toArray, .pointer (some ⟨b, 0, none⟩)] [single b (.cells [.int .i64 n].toArray 3 (0, 0))] (fun v Hs => v = .bool (decide (a.inv < n)) ∧ Hs = [single b (.cells [.int .i64 n].toArray 3 (0, 0))]) := by
  refine Ct.body Tryd.func40 rfl Tryd.ntmps40 rfl ?_
  intro E F
  refine W.seq ?_
  refine W.region ?_
  refine RL.e (Eff.box 102 _ rfl rfl) rfl ?_
  rintro _ _ ⟨b2, rfl, rfl⟩
  refine RL.q (Yld.assign rfl) rfl ?_
  refine RL.nil ?_
  refine N.next ?_
  refine W.seq ?_
  refine W.region ?_
  refine RL.q (Yld.fieldAddr fo32_5 rfl) rfl ?_
  refine RL.q (Yld.load1 (c := 102) Tryd.underlying3 rfl rfl rfl (by first | exact single_self _ _ | exact pset_self _ _ _ | assumption) rfl) rfl ?_
  refine RL.q (Yld.load1 (c := 1) Tryd.underlying3 rfl rfl rfl (by first | exact single_self _ _ | exact pset_self _ _ _ | assumption) rfl) rfl ?_
  refine RL.q (Yld.bin rfl rfl BinV.lss) rfl ?_
  refine RL.q (Yld.assign rfl) rfl ?_
  refine RL.nil ?_
  refine N.next ?_
  refine W.keep (.cons (k := 3) rfl .nil) (.cons (k := 0) rfl (.cons (k := 1) rfl (.cons (k := 102) rfl .nil))) ?_
  refine W.ret ?_
  exact N.retBy [1] (.cons (.tmp rfl) .nil) rfl rfl rfl rfl ⟨rfl, rfl⟩

set_option maxRecDepth 100000 in
set_option maxHeartbeats 400000 in
theorem same_ct (u v : List O) (H1 H2 : PH) (p q : Option Addr) (c d : Nat) (hA : Sl H1 p c 12 (u.map O.c)) (hB : Sl H2 q d 12 (v.map O.c)) : Ct Tryd.prog 17 [.slice p (u.map O.c).length c, .slice q (v.map O.c).length d] [H1, H2] (fun r Hs => (r = .bool (@decide (u = v) (Classical.propDecidable _))) ∧ Hs = [H1, H2]) := by
  refine Ct.body Tryd.func17 rfl Tryd.ntmps17 rfl ?_
  intro E F
  have hmax := hA.len_le
  have hmax2 := hB.len_le
  simp only [maxLen] at hmax hmax2
  have hlu : (u.map O.c).length = u.length := by simp
  have hlv : (v.map O.c).length = v.length := by simp
  refine W.seq ?_
  refine W.region ?_
  refine RL.q (Yld.assign rfl) rfl ?_
  refine RL.nil ?_
  refine N.next ?_
  refine W.seq ?_
  refine W.seq ?_
  refine W.region ?_
  refine RL.q (Yld.move rfl) rfl ?_
  refine RL.q (Yld.lenSl Tryd.underlying22 rfl) rfl ?_
  refine RL.q (Yld.move rfl) rfl ?_
  refine RL.q (Yld.lenSl Tryd.underlying22 rfl) rfl ?_
  refine RL.q (Yld.bin rfl rfl BinV.neq) rfl ?_
  refine RL.nil ?_
  refine N.next ?_
  refine W.keep (.cons (k := 0) rfl (.cons (k := 1) rfl (.cons (k := 4) rfl (.cons (k := 10) rfl .nil)))) (.cons (k := 0) rfl (.cons (k := 1) rfl (.cons (k := 2) rfl .nil))) ?_
  first | refine W.condD rfl (fun hc10 => ?_) (fun hc10 => ?_) | (refine W.cond rfl (fun hc10 => ?_) (fun hc10 => ?_) <;> try simp only [Bool.or_eq_true, Bool.and_eq_true, Bool.not_eq_true', Bool.not_eq_false', decide_eq_true_eq, Bool.or_eq_false_iff, Bool.and_eq_false_iff, decide_eq_false_iff_not, beq_iff_eq, beq_eq_false_iff_ne, ne_eq, Decidable.not_not] at hc10)
  ·
    refine W.seq ?_
    refine W.region ?_
    refine RL.q (Yld.assign rfl) rfl ?_
    refine RL.nil ?_
    refine N.next ?_
    refine W.ret ?_
    refine N.then_ret ?_
    exact N.retBy [1, 2] (.cons (.tmp rfl) .nil) rfl rfl rfl rfl ⟨by show Value.bool false = _; rw [@decide_eq_false _ (Classical.propDecidable _) (by rintro rfl; omega)], rfl⟩
  ·
    refine W.skip ?_
    refine N.next ?_
    refine W.seq ?_
    refine W.seq ?_
    refine W.region ?_
    refine RL.q (Yld.assign rfl) rfl ?_
    refine RL.nil ?_
    refine N.next ?_
    refine W.block ?_
    refine W.loop (ι := Nat) (fun j => j ≤ u.length ∧ ∀ i : Nat, i < j → u[i]? = v[i]?) (fun j => [(0, .slice p (u.map O.c).length c), (1, .slice q (v.map O.c).length d), (5, .int .i64 (j : Nat))]) (fun _ => [(0, F), (1, H1), (2, H2)]) (fun j => u.length - j) 0 ?_ ?_ ?_ ?_
    · exact ⟨Nat.zero_le _, fun _ h => absurd h (Nat.not_lt_zero _)⟩
    · exact (.cons rfl (.cons rfl (.cons rfl .nil)))
    · exact (.cons rfl (.cons rfl (.cons rfl .nil)))
    rintro j ⟨hj, hI⟩
    refine W.seq ?_
    refine W.seq ?_
    refine W.region ?_
    refine RL.q (Yld.move rfl) rfl ?_
    refine RL.q (Yld.move rfl) rfl ?_
    refine RL.q (Yld.lenSl Tryd.underlying22 rfl) rfl ?_
    refine RL.q (Yld.bin rfl rfl BinV.lss) rfl ?_
    refine RL.nil ?_
    refine N.next ?_
    first | refine W.condD rfl (fun hc14 => ?_) (fun hc14 => ?_) | (refine W.cond rfl (fun hc14 => ?_) (fun hc14 => ?_) <;> try simp only [Bool.or_eq_true, Bool.and_eq_true, Bool.not_eq_true', Bool.not_eq_false', decide_eq_true_eq, Bool.or_eq_false_iff, Bool.and_eq_false_iff, decide_eq_false_iff_not, beq_iff_eq, beq_eq_false_iff_ne, ne_eq, Decidable.not_not] at hc14)
    ·
      obtain ⟨x, hu⟩ : ∃ x, u[j]? = some x := ⟨_, List.getElem?_eq_getElem (show j < u.length by omega)⟩
      obtain ⟨y, hv⟩ : ∃ y, v[j]? = some y := ⟨_, List.getElem?_eq_getElem (show j < v.length by omega)⟩
      have hlx : (u.map O.c)[j]? = some x.c := by simp [hu]
      have hly : (v.map O.c)[j]? = some y.c := by simp [hv]
      refine W.skip ?_
      refine N.next ?_
      refine W.keep (.cons (k := 0) rfl (.cons (k := 1) rfl (.cons (k := 5) rfl .nil))) (.cons (k := 0) rfl (.cons (k := 1) rfl (.cons (k := 2) rfl .nil))) ?_
      refine W.seq ?_
      refine W.block ?_
      refine W.seq ?_
      refine W.draw (.q 0 (.q 1 (.q 2 (.q 3 (.q 4 (.q 5 (.q 6 (.q 7 (.q 8 .done))))))))) (.cons (k := 0) rfl (.cons (k := 1) rfl (.cons (k := 2) rfl .nil))) mix (by kernel_rfl) (by kernel_rfl) ?_
      refine DL.q rfl (Yld.move rfl) rfl ?_
      refine DL.q rfl (Yld.move rfl) rfl ?_
      refine DL.q rfl (Yld.indexRow Tryd.underlying22 sz32 rfl rfl hA (by first | rfl | omega | (simp; done) | (simp; omega)) (by omega) (by first | omega | (simp; done) | (simp; omega))) rfl ?_
      refine DL.q rfl (Yld.eq (v' := .agg [.int .i64 x.cl, .int .i64 x.nu, .int .i64 x.gr, .int .i64 x.kd, .string x.key, .int .i64 x.val, .int .i64 x.old, .int .i64 x.code, .bool x.fnd, .int .i64 x.rv, .int .i64 x.inv, .int .i64 x.rsp].toArray) (Yld.loadRow (cl := 1) Tryd.underlying32 rfl sz32 rfl rfl hA hlx) rfl) rfl ?_
      refine DL.q rfl (Yld.move rfl) rfl ?_
      refine DL.q rfl (Yld.move rfl) rfl ?_
      refine DL.q rfl (Yld.indexRow Tryd.underlying22 sz32 rfl rfl hB (by first | rfl | omega | (simp; done) | (simp; omega)) (by omega) (by first | omega | (simp; done) | (simp; omega))) rfl ?_
      refine DL.q rfl (Yld.eq (v' := .agg [.int .i64 y.cl, .int .i64 y.nu, .int .i64 y.gr, .int .i64 y.kd, .string y.key, .int .i64 y.val, .int .i64 y.old, .int .i64 y.code, .bool y.fnd, .int .i64 y.rv, .int .i64 y.inv, .int .i64 y.rsp].toArray) (Yld.loadRow (cl := 2) Tryd.underlying32 rfl sz32 rfl rfl hB hly) rfl) rfl ?_
      refine DL.q rfl (Yld.bin rfl rfl (BinV.neqT eqg32 (EqV.struct Tryd.underlying32 sih32 (EqF.cons rfl (PartV.one Tryd.underlying3 rfl rfl) (PartV.one Tryd.underlying3 rfl rfl) (EqV.int Tryd.underlying3) (EqF.cons rfl (PartV.one Tryd.underlying3 rfl rfl) (PartV.one Tryd.underlying3 rfl rfl) (EqV.int Tryd.underlying3) (EqF.cons rfl (PartV.one Tryd.underlying3 rfl rfl) (PartV.one Tryd.underlying3 rfl rfl) (EqV.int Tryd.underlying3) (EqF.cons rfl (PartV.agg Tryd.underlying27 rfl sz27 rfl) (PartV.agg Tryd.underlying27 rfl sz27 rfl) (EqV.struct Tryd.underlying27 sih27 (EqF.cons rfl (PartV.one Tryd.underlying3 rfl rfl) (PartV.one Tryd.underlying3 rfl rfl) (EqV.int Tryd.underlying3) (EqF.cons rfl (PartV.one Tryd.underlying9 rfl rfl) (PartV.one Tryd.underlying9 rfl rfl) (EqV.string Tryd.underlying9) (EqF.cons rfl (PartV.one Tryd.underlying2 rfl rfl) (PartV.one Tryd.underlying2 rfl rfl) (EqV.int Tryd.underlying2) (EqF.cons rfl (PartV.one Tryd.underlying2 rfl rfl) (PartV.one Tryd.underlying2 rfl rfl) (EqV.int Tryd.underlying2) EqF.nil))))) (EqF.cons rfl (PartV.agg Tryd.underlying30 rfl sz30 rfl) (PartV.agg Tryd.underlying30 rfl sz30 rfl) (EqV.struct Tryd.underlying30 sih30 (EqF.cons rfl (PartV.one Tryd.underlying28 rfl rfl) (PartV.one Tryd.underlying28 rfl rfl) (EqV.int Tryd.underlying28) (EqF.cons rfl (PartV.one Tryd.underlying4 rfl rfl) (PartV.one Tryd.underlying4 rfl rfl) (EqV.bool Tryd.underlying4) (EqF.cons rfl (PartV.one Tryd.underlying2 rfl rfl) (PartV.one Tryd.underlying2 rfl rfl) (EqV.int Tryd.underlying2) EqF.nil)))) (EqF.cons rfl (PartV.one Tryd.underlying3 rfl rfl) (PartV.one Tryd.underlying3 rfl rfl) (EqV.int Tryd.underlying3) (EqF.cons rfl (PartV.one Tryd.underlying3 rfl rfl) (PartV.one Tryd.underlying3 rfl rfl) (EqV.int Tryd.underlying3) EqF.nil)))))))))) rfl ?_
      refine DL.done ?_
      refine N.next ?_
      refine W.keep (.cons (k := 0) rfl (.cons (k := 1) rfl (.cons (k := 5) rfl (.cons (k := 25) rfl .nil)))) (.cons (k := 0) rfl (.cons (k := 1) rfl (.cons (k := 2) rfl .nil))) ?_
      first | refine W.condD rfl (fun hc25 => ?_) (fun hc25 => ?_) | (refine W.cond rfl (fun hc25 => ?_) (fun hc25 => ?_) <;> try simp only [Bool.or_eq_true, Bool.and_eq_true, Bool.not_eq_true', Bool.not_eq_false', decide_eq_true_eq, Bool.or_eq_false_iff, Bool.and_eq_false_iff, decide_eq_false_iff_not, beq_iff_eq, beq_eq_false_iff_ne, ne_eq, Decidable.not_not] at hc25)
      ·
        have hne : x ≠ y := by
          rintro rfl; simp at hc25
        refine W.seq ?_
        refine W.region ?_
        refine RL.q (Yld.assign rfl) rfl ?_
        refine RL.nil ?_
        refine N.next ?_
        refine W.ret ?_
        refine N.block_ret ?_
        refine N.then_ret ?_
        refine N.then_ret ?_
        refine N.block_ret ?_
        refine N.then_ret ?_
        exact N.retBy [1, 2] (.cons (.tmp rfl) .nil) rfl rfl rfl rfl ⟨by show Value.bool false = _; rw [@decide_eq_false _ (Classical.propDecidable _) (by rintro rfl; rw [hu] at hv; cases hv; exact hne rfl)], rfl⟩
      ·
        have hxy : x = y := by
          cases x; cases y; simp_all
        refine W.skip ?_
        refine N.block_normal ?_
        refine N.next ?_
        refine W.region ?_
        refine RL.q (Yld.move rfl) rfl ?_
        refine RL.q (Yld.bin rfl rfl (by first | exact BinV.add (by omega) (by omega) | exact BinV.addW)) rfl ?_
        refine RL.q (Yld.assign rfl) rfl ?_
        refine RL.nil ?_
        exact N.fam (j + 1) ⟨⟨by omega, fun i hi => (Nat.lt_succ_iff_lt_or_eq.1 hi).elim (hI i) (fun e => by subst e; rw [hu, hv, hxy])⟩, by omega⟩ (.cons rfl (.cons rfl (.cons rfl .nil))) (.cons rfl (.cons rfl (.cons rfl .nil)))
    ·
      refine W.exit ?_
      refine N.then_exit ?_
      refine N.then_exit ?_
      refine N.block_eq ?_
      refine N.next ?_
      refine W.keep .nil (.cons (k := 0) rfl (.cons (k := 1) rfl (.cons (k := 2) rfl .nil))) ?_
      refine W.seq ?_
      refine W.region ?_
      refine RL.q (Yld.assign rfl) rfl ?_
      refine RL.nil ?_
      refine N.next ?_
      refine W.ret ?_
      exact N.retBy [1, 2] (.cons (.tmp rfl) .nil) rfl rfl rfl rfl ⟨by show Value.bool true = _; rw [@decide_eq_true _ (Classical.propDecidable _) (List.ext_getElem? fun i => (Nat.lt_or_ge i u.length).elim (fun h => hI i (by omega)) (fun h => by rw [List.getElem?_eq_none (by omega), List.getElem?_eq_none (by omega)]))], rfl⟩

def HistLaw.mixL (n : Int) (fl : List O) (i : Nat) : List O := (fl.take i).map (cutO n) ++ fl.drop i
theorem HistLaw.mix_len {n : Int} {fl : List O} {i : Nat} : (mixL n fl i).length = fl.length := by simp [mixL]; omega
theorem HistLaw.mix_get {n : Int} {fl : List O} {i : Nat} (h : i < fl.length) : (mixL n fl i)[i]? = fl[i]? := by
  unfold mixL
  rw [List.getElem?_append_right (by simp; omega)]
  simp [List.getElem?_drop, Nat.min_eq_left (Nat.le_of_lt h)]
theorem HistLaw.mix_succ {n : Int} {fl : List O} {i : Nat} {o : O} (h : fl[i]? = some o) : mixL n fl (i + 1) = (mixL n fl i).set i (cutO n o) := by
  have hlt := (List.getElem?_eq_some_iff.1 h).1
  unfold mixL
  rw [List.set_append_right _ _ (by simp; omega)]
  have e : i - ((fl.take i).map (cutO n)).length = 0 := by simp; omega
  rw [e, List.take_add_one, h]
  simp only [Option.toList_some, List.map_append, List.map_cons, List.map_nil, List.append_assoc, List.singleton_append]
  rw [List.drop_eq_getElem_cons hlt]
  rfl
structure HistLaw.PI where
  i : Nat
  Ho : PH

set_option maxRecDepth 100000 in
set_option maxHeartbeats 1600000 in
theorem prefix_ct (l : List O) (hl6 : l.length ≤ 1000000) (H1 : PH) (p : Option Addr) (c : Nat) (hS : Sl H1 p c 12 (l.map O.c)) (n : Int) : Ct Tryd.prog 16 [.slice p (l.map O.c).length c, .int .i64 n] [H1] (fun v Hs => ∃ Ho po co, v = .slice po ((prefixL n l).map O.c).length co ∧ Own Ho po co 32 12 ((prefixL n l).map O.c) ∧ Hs = [H1, Ho]) := by
  refine Ct.body Tryd.func16 rfl Tryd.ntmps16 rfl ?_
  intro E F
  have hmax := hS.len_le
  simp only [maxLen] at hmax
  refine W.seq ?_
  refine W.region ?_
  refine RL.e (Eff.box 103 _ rfl rfl) rfl ?_
  rintro _ _ ⟨b3, rfl, rfl⟩
  refine RL.q (Yld.assign rfl) rfl ?_
  refine RL.nil ?_
  refine N.next ?_
  refine W.seq ?_
  refine W.region ?_
  refine RL.q (Yld.move rfl) rfl ?_
  refine RL.q (Yld.makeFunc eval0 (eval1 rfl)) rfl ?_
  refine RL.e (Eff.call ent38 [1, 103] [1, 103, 130] (.cons rfl (.cons rfl .nil)) (filter_ct l hl6 _ _ _ hS 40 _ _ (fun a => decide (a.inv < n)) ent40 (fun a => prefC_ct b3 n a)) rfl rfl rfl rfl (by rintro _ _ ⟨_, _, _, _, _, rfl⟩; rfl)) rfl ?_
  rintro _ _ ⟨_, ⟨Ho, po, co, rfl, hO0, rfl⟩, rfl⟩
  have hfle : (l.filter fun o => decide (o.inv < n)).length ≤ l.length := List.length_filter_le _ _
  have hmx0 : mixL n (l.filter fun o => decide (o.inv < n)) 0 = (l.filter fun o => decide (o.inv < n)) := by simp [mixL]
  refine RL.q (Yld.assign rfl) rfl ?_
  refine RL.nil ?_
  refine N.next ?_
  refine W.keep (.cons (k := 3) rfl (.cons (k := 5) rfl .nil)) (.cons (k := 0) rfl (.cons (k := 1) rfl (.cons (k := 103) rfl (.cons (k := 130) rfl .nil)))) ?_
  refine W.seq ?_
  refine W.seq ?_
  refine W.region ?_
  refine RL.q (Yld.move rfl) rfl ?_
  refine RL.q (Yld.lenSl Tryd.underlying22 rfl) rfl ?_
  refine RL.q (Yld.move rfl) rfl ?_
  refine RL.nil ?_
  refine N.next ?_
  refine W.block ?_
  refine W.loop (ι := PI) (fun x => x.i ≤ (l.filter fun o => decide (o.inv < n)).length ∧ Own x.Ho po co 32 12 ((mixL n (l.filter fun o => decide (o.inv < n)) x.i).map O.c)) (fun x => [(3, .pointer (some ⟨b3, 0, none⟩)), (5, .slice po (l.filter fun o => decide (o.inv < n)).length co), (10, .slice po (l.filter fun o => decide (o.inv < n)).length co), (11, .int .i64 ((l.filter fun o => decide (o.inv < n)).length : Nat)), (12, .int .i64 (x.i : Nat))]) (fun x => [(0, F), (1, H1), (103, single b3 (.cells [.int .i64 n].toArray 3 (0, 0))), (130, x.Ho)]) (fun x => (l.filter fun o => decide (o.inv < n)).length - x.i) ⟨0, Ho⟩ ?_ ?_ ?_ ?_
  · exact ⟨Nat.zero_le _, by show Own _ _ _ _ _ ((mixL n (l.filter fun o => decide (o.inv < n)) 0).map O.c); rw [hmx0]; exact hO0⟩
  · exact (.cons rfl (.as rfl (by rw [List.length_map]) (.as rfl (by rw [List.length_map]) (.as rfl (by rw [List.length_map]) (.cons rfl .nil)))))
  · exact (.cons rfl (.cons rfl (.cons rfl (.cons rfl .nil))))
  rintro x ⟨hi, hO⟩
  have hmax3 := hO.sl.len_le
  rw [List.length_map, mix_len] at hmax3
  simp only [maxLen] at hmax3
  refine W.seq ?_
  refine W.region ?_
  refine RL.q (Yld.bin rfl rfl BinV.lss) rfl ?_
  refine RL.nil ?_
  refine N.next ?_
  refine W.seq ?_
  first | refine W.condD rfl (fun hc13 => ?_) (fun hc13 => ?_) | (refine W.cond rfl (fun hc13 => ?_) (fun hc13 => ?_) <;> try simp only [Bool.or_eq_true, Bool.and_eq_true, Bool.not_eq_true', Bool.not_eq_false', decide_eq_true_eq, Bool.or_eq_false_iff, Bool.and_eq_false_iff, decide_eq_false_iff_not, beq_iff_eq, beq_eq_false_iff_ne, ne_eq, Decidable.not_not] at hc13)
  ·
    have hml : ((mixL n (l.filter fun o => decide (o.inv < n)) x.i).map O.c).length = (l.filter fun o => decide (o.inv < n)).length := by rw [List.length_map, mix_len]
    obtain ⟨o, ho⟩ : ∃ o, (l.filter fun o => decide (o.inv < n))[x.i]? = some o := ⟨_, List.getElem?_eq_getElem (show x.i < (l.filter fun o => decide (o.inv < n)).length by omega)⟩
    have hlo : ((mixL n (l.filter fun o => decide (o.inv < n)) x.i).map O.c)[x.i]? = some o.c := by rw [List.getElem?_map, mix_get (by omega), ho]; rfl
    have hlo1 : (((mixL n (l.filter fun o => decide (o.inv < n)) x.i).map O.c).set x.i [.int .i64 o.cl, .int .i64 o.nu, .int .i64 o.gr, .int .i64 o.kd, .string o.key, .int .i64 o.val, .int .i64 o.old, .int .i64 o.code, .bool o.fnd, .int .i64 o.rv, .int .i64 o.inv, .int .i64 (-1)])[x.i]? = some [.int .i64 o.cl, .int .i64 o.nu, .int .i64 o.gr, .int .i64 o.kd, .string o.key, .int .i64 o.val, .int .i64 o.old, .int .i64 o.code, .bool o.fnd, .int .i64 o.rv, .int .i64 o.inv, .int .i64 (-1)] := by rw [List.getElem?_set_self (by omega)]
    refine W.skip ?_
    refine N.next ?_
    refine W.seq ?_
    refine W.block ?_
    refine W.seq ?_
    refine W.region ?_
    refine RL.q (Yld.move rfl) rfl ?_
    refine RL.q (Yld.assign rfl) rfl ?_
    refine RL.nil ?_
    refine N.next ?_
    refine W.seq ?_
    refine W.draw (.q 0 (.q 1 (.q 2 (.q 3 (.q 4 (.q 5 (.q 6 .done))))))) (.cons (k := 0) rfl (.cons (k := 1) rfl (.cons (k := 103) rfl (.cons (k := 130) rfl .nil)))) mix (by kernel_rfl) (by kernel_rfl) ?_
    refine DL.q rfl (Yld.move rfl) rfl ?_
    refine DL.q rfl (Yld.move rfl) rfl ?_
    refine DL.q rfl (Yld.indexRow Tryd.underlying22 sz32 rfl rfl hO.sl (by first | rfl | omega | (simp; done) | (simp; omega)) (by omega) (by first | omega | (simp; done) | (simp; omega))) rfl ?_
    refine DL.q rfl (Yld.fieldAddr fo32_6 rfl) rfl ?_
    refine DL.q rfl (Yld.loadRowF (cl := 130) (j := 11) Tryd.underlying3 rfl rfl rfl hO.sl hlo rfl) rfl ?_
    refine DL.q rfl (Yld.load1 (c := 103) Tryd.underlying3 rfl rfl rfl (by first | exact single_self _ _ | exact pset_self _ _ _ | assumption) rfl) rfl ?_
    refine DL.q rfl (Yld.bin rfl rfl BinV.geq) rfl ?_
    refine DL.done ?_
    refine N.next ?_
    refine W.keep (.cons (k := 3) rfl (.cons (k := 5) rfl (.cons (k := 6) rfl (.cons (k := 10) rfl (.cons (k := 11) rfl (.cons (k := 12) rfl (.cons (k := 21) rfl .nil))))))) (.cons (k := 0) rfl (.cons (k := 1) rfl (.cons (k := 103) rfl (.cons (k := 130) rfl .nil)))) ?_
    first | refine W.condD rfl (fun hc21 => ?_) (fun hc21 => ?_) | (refine W.cond rfl (fun hc21 => ?_) (fun hc21 => ?_) <;> try simp only [Bool.or_eq_true, Bool.and_eq_true, Bool.not_eq_true', Bool.not_eq_false', decide_eq_true_eq, Bool.or_eq_false_iff, Bool.and_eq_false_iff, decide_eq_false_iff_not, beq_iff_eq, beq_eq_false_iff_ne, ne_eq, Decidable.not_not] at hc21)
    ·
      have hnx : ((mixL n (l.filter fun o => decide (o.inv < n)) (x.i + 1)).map O.c) = (((mixL n (l.filter fun o => decide (o.inv < n)) x.i).map O.c).set x.i [.int .i64 o.cl, .int .i64 o.nu, .int .i64 o.gr, .int .i64 o.kd, .string o.key, .int .i64 o.val, .int .i64 o.old, .int .i64 o.code, .bool o.fnd, .int .i64 o.rv, .int .i64 o.inv, .int .i64 (-1)]).set x.i [.int .i64 o.cl, .int .i64 o.nu, .int .i64 o.gr, .int .i64 o.kd, .string o.key, .int .i64 o.val, .int .i64 o.old, .int .i64 0, .bool false, .int .i64 0, .int .i64 o.inv, .int .i64 (-1)] := by rw [mix_succ ho, List.map_set, List.set_set]; simp [cutO, hc21, O.c]
      refine W.region ?_
      refine RL.q (Yld.move rfl) rfl ?_
      refine RL.q (Yld.move rfl) rfl ?_
      refine RL.q (Yld.move rfl) rfl ?_
      refine RL.q (Yld.move rfl) rfl ?_
      refine RL.q (Yld.buildP lay30 .nil rfl) rfl ?_
      refine RL.q (Yld.indexRow Tryd.underlying22 sz32 rfl rfl hO.sl (by first | rfl | omega | (simp; done) | (simp; omega)) (by omega) (by first | omega | (simp; done) | (simp; omega))) rfl ?_
      refine RL.q (Yld.fieldAddr fo32_6 rfl) rfl ?_
      refine RL.e0 (Eff.storeRow (tc := 130) (j := 11) sz3 rfl rfl rfl hO hlo rfl rfl rfl rfl rfl) ?_
      rintro _ _ ⟨Ho1, hO1, rfl⟩
      refine RL.q (Yld.indexRow Tryd.underlying22 sz32 rfl rfl hO.sl (by first | rfl | omega | (simp; done) | (simp; omega)) (by omega) (by first | omega | (simp; done) | (simp; omega))) rfl ?_
      refine RL.q (Yld.fieldAddr fo32_4 rfl) rfl ?_
      refine RL.e0 (Eff.storeRow (tc := 130) (j := 7) sz30 rfl rfl rfl hO1 hlo1 rfl rfl rfl rfl rfl) ?_
      rintro _ _ ⟨Hb, hOb, rfl⟩
      refine RL.nil ?_
      refine N.block_normal ?_
      refine N.next ?_
      refine W.keep (.cons (k := 3) rfl (.cons (k := 5) rfl (.cons (k := 10) rfl (.cons (k := 11) rfl (.cons (k := 12) rfl .nil))))) (.cons (k := 0) rfl (.cons (k := 1) rfl (.cons (k := 103) rfl (.cons (k := 130) rfl .nil)))) ?_
      refine W.region ?_
      refine RL.q (Yld.bin rfl rfl (by first | exact BinV.add (by omega) (by omega) | exact BinV.addW)) rfl ?_
      refine RL.q (Yld.move rfl) rfl ?_
      refine RL.nil ?_
      exact N.fam ⟨x.i + 1, Hb⟩ ⟨⟨by show x.i + 1 ≤ _; omega, by show Own _ _ _ _ _ ((mixL n (l.filter fun o => decide (o.inv < n)) (x.i + 1)).map O.c); rw [hnx]; exact hOb⟩, by show _ - (x.i + 1) < _; omega⟩ (.cons rfl (.cons rfl (.cons rfl (.cons rfl (.cons rfl .nil))))) (.cons rfl (.cons rfl (.cons rfl (.cons rfl .nil))))
    ·
      have hnx : ((mixL n (l.filter fun o => decide (o.inv < n)) (x.i + 1)).map O.c) = ((mixL n (l.filter fun o => decide (o.inv < n)) x.i).map O.c) := by
        rw [mix_succ ho, show cutO n o = o by simp only [cutO, if_neg hc21]]
        rw [show (mixL n (l.filter fun o => decide (o.inv < n)) x.i).set x.i o = mixL n (l.filter fun o => decide (o.inv < n)) x.i from List.ext_getElem? fun i => by
          rw [List.getElem?_set]
          by_cases e : x.i = i
          · subst e; rw [if_pos rfl, if_pos (by rw [mix_len]; omega), mix_get (by omega), ho]
          · rw [if_neg e]]
      refine W.skip ?_
      refine N.block_normal ?_
      refine N.next ?_
      refine W.region ?_
      refine RL.q (Yld.bin rfl rfl (by first | exact BinV.add (by omega) (by omega) | exact BinV.addW)) rfl ?_
      refine RL.q (Yld.move rfl) rfl ?_
      refine RL.nil ?_
      exact N.fam ⟨x.i + 1, x.Ho⟩ ⟨⟨by show x.i + 1 ≤ _; omega, by show Own _ _ _ _ _ ((mixL n (l.filter fun o => decide (o.inv < n)) (x.i + 1)).map O.c); rw [hnx]; exact hO⟩, by show _ - (x.i + 1) < _; omega⟩ (.cons rfl (.cons rfl (.cons rfl (.cons rfl (.cons rfl .nil))))) (.cons rfl (.cons rfl (.cons rfl (.cons rfl .nil))))
  ·
    have hend : x.i = (l.filter fun o => decide (o.inv < n)).length := by omega
    have hmx : mixL n (l.filter fun o => decide (o.inv < n)) x.i = prefixL n l := by rw [hend]; simp [mixL, prefixL]
    refine W.exit ?_
    refine N.then_exit ?_
    refine N.then_exit ?_
    refine N.block_eq ?_
    refine N.next ?_
    refine W.keep (.cons (k := 5) rfl .nil) (.cons (k := 0) rfl (.cons (k := 1) rfl (.cons (k := 103) rfl (.cons (k := 130) rfl .nil)))) ?_
    refine W.seq ?_
    refine W.region ?_
    refine RL.q (Yld.move rfl) rfl ?_
    refine RL.q (Yld.assign rfl) rfl ?_
    refine RL.nil ?_
    refine N.next ?_
    refine W.ret ?_
    exact N.retBy [1, 130] (.cons (.tmp rfl) .nil) rfl rfl rfl rfl ⟨x.Ho, po, co, by show Value.slice _ _ _ = _; rw [← hmx, List.length_map, mix_len], by rw [← hmx]; exact hO, rfl⟩

end Go.Proofs.YtbgppnkccbhbpaaDoor
