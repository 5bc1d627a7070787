/- filter, Prefix. Written by program (walk.py). -/
import Derived.Test.YtbgppnkccbhbpaaLH2
namespace Go.Proofs.Ytbgppnkccbhbpaa
open SL HistLaw
set_option linter.unusedVariables false
set_option linter.unusedSimpArgs false
theorem el42 : el Try.prog 42 12 104 := .mk (by kernel_rfl)
theorem ent49 : Ent Try.prog 49 := ⟨_, _, Try.func49, by kernel_rfl, rfl⟩
theorem sz3 : sz Try.prog 3 1 := (by kernel_rfl : (Try.prog.info? 3).map (·.size) = some 1)
theorem ent54 : Ent Try.prog 54 := ⟨_, _, Try.func54, by kernel_rfl, rfl⟩
structure HistLaw.FI where
  i : Nat
  Ho : PH
  po : Option Addr
  co : Nat
noncomputable def HistLaw.validB (l : List O) : Bool := @decide (Valid l) (Classical.propDecidable _)
theorem HistLaw.validB_iff {l : List O} : validB l = true ↔ Valid l := by unfold validB; exact @decide_eq_true_iff _ (Classical.propDecidable _)
theorem rvalidB_ct (l : List O) (H1 : PH) (p : Option Addr) (c : Nat) (hS : Sl H1 p c 12 (l.map O.c)) : Ct Try.prog 19 [.slice p (l.map O.c).length c] [H1] (fun v Hs => v = .bool (validB l) ∧ Hs = [H1]) := (rvalid_ct l H1 p c hS).mono (by
  rintro v Hs ⟨⟨b, rfl, hb⟩, rfl⟩
  exact ⟨congrArg Value.bool (by rw [Bool.eq_iff_iff, hb, validB_iff]), rfl⟩)
theorem hvalidB_ct (l : List O) (H1 : PH) (p : Option Addr) (c : Nat) (hS : Sl H1 p c 12 (l.map O.c)) : Ct Try.prog 25 [.slice p (l.map O.c).length c] [H1] (fun v Hs => v = .bool (validB l) ∧ Hs = [H1]) := (hvalid_ct l H1 p c hS).mono (by
  rintro v Hs ⟨⟨b, rfl, hb⟩, rfl⟩
  exact ⟨congrArg Value.bool (by rw [Bool.eq_iff_iff, hb, validB_iff]), rfl⟩)
theorem HistLaw.O.c_one (a : O) : a.c.length = 12 ∧ ∀ v ∈ a.c, v.oneCell' = true := ⟨rfl, by simp [O.c, Value.oneCell']⟩

set_option maxRecDepth 100000 in
set_option maxHeartbeats 1600000 in
theorem filter_ct (l : List O) (hl6 : l.length ≤ 1000000) (H1 : PH) (p : Option Addr) (c : Nat) (hS : Sl H1 p c 12 (l.map O.c)) (f : Nat) (cap : List Value) (G : PH) (q : O → Bool) (hent : Ent Try.prog f) (hf : ∀ a : O, Ct Try.prog f (.agg [.int .i64 a.cl, .int .i64 a.nu, .int .i64 a.gr, .int .i64 a.kd, .string a.key, .int .i64 a.val, .int .i64 a.old, .int .i64 a.code, .bool a.fnd, .int .i64 a.rv, .int .i64 a.inv, .int .i64 a.rsp].toArray :: cap) [G] (fun v Hs => v = .bool (q a) ∧ Hs = [G])) : Ct Try.prog 49 [.slice p (l.map O.c).length c, .func (.func f) [].toArray cap.toArray] [H1, G] (fun v Hs => ∃ Ho po co, v = .slice po ((l.filter q).map O.c).length co ∧ Own Ho po co 42 12 ((l.filter q).map O.c) ∧ Hs = [H1, G, Ho]) := by
  refine Ct.body Try.func49 rfl Try.ntmps49 rfl ?_
  intro E F
  have hmax := hS.len_le
  simp only [maxLen] at hmax
  refine W.seq ?_
  refine W.region ?_
  refine RL.q (Yld.assign rfl) rfl ?_
  refine RL.nil ?_
  refine N.next ?_
  refine W.seq ?_
  refine W.region ?_
  refine RL.q (Yld.assign rfl) rfl ?_
  refine RL.nil ?_
  refine N.next ?_
  refine W.seq ?_
  refine W.seq ?_
  refine W.imp (Imp.empty _ 30) ?_
  refine W.region ?_
  refine RL.q (Yld.move rfl) rfl ?_
  refine RL.q (Yld.lenSl Try.underlying22 rfl) rfl ?_
  refine RL.q (Yld.move rfl) rfl ?_
  refine RL.nil ?_
  refine N.next ?_
  refine W.block ?_
  refine W.loop (ι := FI) (fun x => x.i ≤ (l.map O.c).length ∧ Own x.Ho x.po x.co 42 12 (((l.take x.i).filter q).map O.c)) (fun x => [(0, .slice p (l.map O.c).length c), (1, .func (.func f) [].toArray cap.toArray), (5, .slice x.po (((l.take x.i).filter q).map O.c).length x.co), (8, .slice p (l.map O.c).length c), (9, .int .i64 ((l.map O.c).length : Nat)), (10, .int .i64 (x.i : Nat))]) (fun x => [(0, F), (1, H1), (2, G), (30, x.Ho)]) (fun x => (l.map O.c).length - x.i) ⟨0, emp, none, 0⟩ ?_ ?_ ?_ ?_
  · exact ⟨Nat.zero_le _, by simpa using Own.nil _ _⟩
  · exact (.cons rfl (.cons rfl (.cons rfl (.cons rfl (.cons rfl (.cons rfl .nil))))))
  · exact (.cons rfl (.cons rfl (.cons rfl (.cons rfl .nil))))
  rintro x ⟨hi, hO⟩
  refine W.seq ?_
  refine W.region ?_
  refine RL.q (Yld.bin rfl rfl BinV.lss) rfl ?_
  refine RL.nil ?_
  refine N.next ?_
  refine W.seq ?_
  first | refine W.condD rfl (fun hc11 => ?_) (fun hc11 => ?_) | (refine W.cond rfl (fun hc11 => ?_) (fun hc11 => ?_) <;> try simp only [Bool.or_eq_true, Bool.and_eq_true, Bool.not_eq_true', Bool.not_eq_false', decide_eq_true_eq, Bool.or_eq_false_iff, Bool.and_eq_false_iff, decide_eq_false_iff_not, beq_iff_eq, beq_eq_false_iff_ne, ne_eq, Decidable.not_not] at hc11)
  ·
    have hll : (l.map O.c).length = l.length := by simp
    obtain ⟨o, ho⟩ : ∃ o, l[x.i]? = some o := ⟨_, List.getElem?_eq_getElem (show x.i < l.length by simp only [List.length_map] at *; omega)⟩
    have hlo : (l.map O.c)[x.i]? = some o.c := by simp [ho]
    have htk : l.take (x.i + 1) = l.take x.i ++ [o] := by rw [List.take_add_one, ho]; rfl
    have hfl : ((l.take x.i).filter q).length ≤ x.i := Nat.le_trans (List.length_filter_le _ _) (by rw [List.length_take]; omega)
    have hfl2 : (((l.take x.i).filter q).map O.c).length = ((l.take x.i).filter q).length := by simp
    refine W.skip ?_
    refine N.next ?_
    refine W.seq ?_
    refine W.block ?_
    refine W.seq ?_
    refine W.region ?_
    refine RL.q (Yld.indexRow Try.underlying22 sz42 rfl rfl hS (by first | rfl | omega | (simp; done) | (simp; omega)) (by omega) (by first | omega | (simp; done) | (simp; omega))) rfl ?_
    refine RL.q (Yld.eq (v' := .agg [.int .i64 o.cl, .int .i64 o.nu, .int .i64 o.gr, .int .i64 o.kd, .string o.key, .int .i64 o.val, .int .i64 o.old, .int .i64 o.code, .bool o.fnd, .int .i64 o.rv, .int .i64 o.inv, .int .i64 o.rsp].toArray) (Yld.loadRow (cl := 1) Try.underlying42 rfl sz42 rfl rfl hS hlo) rfl) rfl ?_
    refine RL.e (Eff.alloc 107 zc42) rfl ?_
    rintro _ _ ⟨b7, rfl, rfl⟩
    refine RL.e0 (Eff.storeS (c := 107) _ sz42 rfl rfl rfl rfl rfl rfl rfl (by (try simp only [putAt, List.take, List.drop, List.nil_append, List.cons_append, List.append_nil, List.length_cons, List.length_nil, Nat.add_zero, Nat.zero_add, Nat.reduceAdd]); rfl)) ?_
    rintro _ _ rfl
    refine RL.nil ?_
    refine N.next ?_
    refine W.seq ?_
    refine W.region ?_
    refine RL.q (Yld.move rfl) rfl ?_
    refine RL.q (Yld.loadW (c := 107) Try.underlying42 rfl sz42 rfl rfl (by first | exact single_self _ _ | exact pset_self _ _ _ | assumption) rfl) rfl ?_
    refine RL.e (Eff.callV hent [2] [2] rfl (.cons rfl .nil) (hf o) rfl rfl rfl rfl (by rintro _ _ ⟨_, rfl⟩; rfl)) rfl ?_
    rintro _ _ ⟨_, ⟨rfl, rfl⟩, rfl⟩
    refine RL.nil ?_
    refine N.next ?_
    refine W.keep (.cons (k := 0) rfl (.cons (k := 1) rfl (.cons (k := 5) rfl (.cons (k := 7) rfl (.cons (k := 8) rfl (.cons (k := 9) rfl (.cons (k := 10) rfl (.cons (k := 16) rfl .nil)))))))) (.cons (k := 0) rfl (.cons (k := 1) rfl (.cons (k := 2) rfl (.cons (k := 30) rfl (.cons (k := 107) rfl .nil))))) ?_
    refine W.cond rfl (fun hc16 => ?_) (fun hc16 => ?_)
    ·
      have hnx : (((l.take (x.i + 1)).filter q).map O.c) = (((l.take x.i).filter q).map O.c) ++ [o.c] := by rw [htk, List.filter_append, List.map_append]; simp [hc16]
      refine W.region ?_
      refine RL.q (Yld.move rfl) rfl ?_
      refine RL.q (Yld.loadW (c := 107) Try.underlying42 rfl sz42 rfl rfl (by first | exact single_self _ _ | exact pset_self _ _ _ | assumption) rfl) rfl ?_
      refine RL.e (Eff.buildSlice 119 Try.underlying22 sz42 zc42 rfl rfl (.cons rfl rfl .nil) rfl) rfl ?_
      rintro _ _ ⟨b19, rfl, rfl⟩
      refine RL.e (Eff.append (tc := 30) (sc := 119) Try.underlying22 el42 rfl rfl rfl rfl hO rfl (Own.one (l := o.c) rfl (O.c_one o).2 rfl).sl rfl (by simp [O.c, Value.oneCell']) (by decide) (by simp; omega) (by simp [maxLen]; omega)) rfl ?_
      rintro _ _ ⟨Ha, pa, ca, rfl, hOa, rfl⟩
      refine RL.q (Yld.assign rfl) rfl ?_
      refine RL.nil ?_
      refine N.block_normal ?_
      refine N.next ?_
      refine W.keep (.cons (k := 0) rfl (.cons (k := 1) rfl (.cons (k := 5) rfl (.cons (k := 8) rfl (.cons (k := 9) rfl (.cons (k := 10) rfl .nil)))))) (.cons (k := 0) rfl (.cons (k := 1) rfl (.cons (k := 2) rfl (.cons (k := 30) rfl (.cons (k := 107) rfl (.cons (k := 119) rfl .nil)))))) ?_
      refine W.region ?_
      refine RL.q (Yld.bin rfl rfl (by first | exact BinV.add (by omega) (by omega) | exact BinV.addW)) rfl ?_
      refine RL.q (Yld.move rfl) rfl ?_
      refine RL.nil ?_
      exact N.fam ⟨x.i + 1, Ha, pa, ca⟩ ⟨⟨by show x.i + 1 ≤ _; omega, by show Own _ _ _ _ _ (((l.take (x.i + 1)).filter q).map O.c); rw [hnx]; exact hOa⟩, by show _ - (x.i + 1) < _; omega⟩ (.cons rfl (.cons rfl (.as rfl (by show Value.slice _ _ _ = Value.slice _ (((l.take (x.i + 1)).filter q).map O.c).length _; rw [hnx]) (.cons rfl (.cons rfl (.cons rfl .nil)))))) (.cons rfl (.cons rfl (.cons rfl (.cons rfl .nil))))
    ·
      have hnx : (((l.take (x.i + 1)).filter q).map O.c) = (((l.take x.i).filter q).map O.c) := by rw [htk, List.filter_append, List.map_append]; simp [hc16]
      refine W.skip ?_
      refine N.block_normal ?_
      refine N.next ?_
      refine W.region ?_
      refine RL.q (Yld.bin rfl rfl (by first | exact BinV.add (by omega) (by omega) | exact BinV.addW)) rfl ?_
      refine RL.q (Yld.move rfl) rfl ?_
      refine RL.nil ?_
      exact N.fam ⟨x.i + 1, x.Ho, x.po, x.co⟩ ⟨⟨by show x.i + 1 ≤ _; omega, by show Own _ _ _ _ _ (((l.take (x.i + 1)).filter q).map O.c); rw [hnx]; exact hO⟩, by show _ - (x.i + 1) < _; omega⟩ (.cons rfl (.cons rfl (.as rfl (by show Value.slice _ _ _ = Value.slice _ (((l.take (x.i + 1)).filter q).map O.c).length _; rw [hnx]) (.cons rfl (.cons rfl (.cons rfl .nil)))))) (.cons rfl (.cons rfl (.cons rfl (.cons rfl .nil))))
  ·
    have hend : x.i = l.length := by simp only [List.length_map] at *; omega
    refine W.exit ?_
    refine N.then_exit ?_
    refine N.then_exit ?_
    refine N.block_eq ?_
    refine N.next ?_
    refine W.keep (.cons (k := 5) rfl .nil) (.cons (k := 0) rfl (.cons (k := 1) rfl (.cons (k := 2) rfl (.cons (k := 30) rfl .nil)))) ?_
    refine W.seq ?_
    refine W.region ?_
    refine RL.q (Yld.move rfl) rfl ?_
    refine RL.q (Yld.assign rfl) rfl ?_
    refine RL.nil ?_
    refine N.next ?_
    refine W.ret ?_
    exact N.retBy [1, 2, 30] (.cons (.tmp rfl) .nil) rfl rfl rfl rfl ⟨x.Ho, x.po, x.co, by show Value.slice _ _ _ = _; rw [hend, List.take_length], by rw [hend, List.take_length] at hO; exact hO, rfl⟩

set_option maxRecDepth 100000 in
set_option maxHeartbeats 400000 in
theorem prefC_ct (b : Nat) (n : Int) (a : O) : Ct Try.prog 54 [.agg [.int .i64 a.cl, .int .i64 a.nu, .int .i64 a.gr, .int .i64 a.kd, .string a.key, .int .i64 a.val, .int .i64 a.old, .int .i64 a.code, .bool a.fnd, .int .i64 a.rv, .int .i64 a.inv, .int .i64 a.rsp].toArray, .pointer (some ⟨b, 0, none⟩)] [single b (.cells [.int .i64 n].toArray 3 (0, 0))] (fun v Hs => v = .bool (decide (a.inv < n)) ∧ Hs = [single b (.cells [.int .i64 n].toArray 3 (0, 0))]) := by
  refine Ct.body Try.func54 rfl Try.ntmps54 rfl ?_
  intro E F
  refine W.seq ?_
  refine W.region ?_
  refine RL.e (Eff.box 102 _ rfl rfl) rfl ?_
  rintro _ _ ⟨b2, rfl, rfl⟩
  refine RL.q (Yld.assign rfl) rfl ?_
  refine RL.nil ?_
  refine N.next ?_
  refine W.seq ?_
  refine W.region ?_
  refine RL.q (Yld.fieldAddr fo42_5 rfl) rfl ?_
  refine RL.q (Yld.load1 (c := 102) Try.underlying3 rfl rfl rfl (by first | exact single_self _ _ | exact pset_self _ _ _ | assumption) rfl) rfl ?_
  refine RL.q (Yld.load1 (c := 1) Try.underlying3 rfl rfl rfl (by first | exact single_self _ _ | exact pset_self _ _ _ | assumption) rfl) rfl ?_
  refine RL.q (Yld.bin rfl rfl BinV.lss) rfl ?_
  refine RL.q (Yld.assign rfl) rfl ?_
  refine RL.nil ?_
  refine N.next ?_
  refine W.keep (.cons (k := 3) rfl .nil) (.cons (k := 0) rfl (.cons (k := 1) rfl (.cons (k := 102) rfl .nil))) ?_
  refine W.ret ?_
  exact N.retBy [1] (.cons (.tmp rfl) .nil) rfl rfl rfl rfl ⟨rfl, rfl⟩

def HistLaw.mixL (n : Int) (fl : List O) (i : Nat) : List O := (fl.take i).map (cutO n) ++ fl.drop i
theorem HistLaw.mix_len {n : Int} {fl : List O} {i : Nat} : (mixL n fl i).length = fl.length := by simp [mixL]; omega
theorem HistLaw.mix_get {n : Int} {fl : List O} {i : Nat} (h : i < fl.length) : (mixL n fl i)[i]? = fl[i]? := by
  unfold mixL
  rw [List.getElem?_append_right (by simp; omega)]
  simp [List.getElem?_drop, Nat.min_eq_left (Nat.le_of_lt h)]
theorem HistLaw.mix_succ {n : Int} {fl : List O} {i : Nat} {o : O} (h : fl[i]? = some o) : mixL n fl (i + 1) = (mixL n fl i).set i (cutO n o) := by
  have hlt := (List.getElem?_eq_some_iff.1 h).1
  unfold mixL
  rw [List.set_append_right _ _ (by simp; omega)]
  have e : i - ((fl.take i).map (cutO n)).length = 0 := by simp; omega
  rw [e, List.take_add_one, h]
  simp only [Option.toList_some, List.map_append, List.map_cons, List.map_nil, List.append_assoc, List.singleton_append]
  rw [List.drop_eq_getElem_cons hlt]
  rfl
structure HistLaw.PI where
  i : Nat
  Ho : PH

set_option maxRecDepth 100000 in
set_option maxHeartbeats 1600000 in
theorem prefix_ct (l : List O) (hl6 : l.length ≤ 1000000) (H1 : PH) (p : Option Addr) (c : Nat) (hS : Sl H1 p c 12 (l.map O.c)) (n : Int) : Ct Try.prog 41 [.slice p (l.map O.c).length c, .int .i64 n] [H1] (fun v Hs => ∃ Ho po co, v = .slice po ((prefixL n l).map O.c).length co ∧ Own Ho po co 42 12 ((prefixL n l).map O.c) ∧ Hs = [H1, Ho]) := by
  refine Ct.body Try.func41 rfl Try.ntmps41 rfl ?_
  intro E F
  have hmax := hS.len_le
  simp only [maxLen] at hmax
  refine W.seq ?_
  refine W.region ?_
  refine RL.e (Eff.box 103 _ rfl rfl) rfl ?_
  rintro _ _ ⟨b3, rfl, rfl⟩
  refine RL.q (Yld.assign rfl) rfl ?_
  refine RL.nil ?_
  refine N.next ?_
  refine W.seq ?_
  refine W.region ?_
  refine RL.q (Yld.move rfl) rfl ?_
  refine RL.q (Yld.makeFunc eval0 (eval1 rfl)) rfl ?_
  refine RL.e (Eff.call ent49 [1, 103] [1, 103, 130] (.cons rfl (.cons rfl .nil)) (filter_ct l hl6 _ _ _ hS 54 _ _ (fun a => decide (a.inv < n)) ent54 (fun a => prefC_ct b3 n a)) rfl rfl rfl rfl (by rintro _ _ ⟨_, _, _, _, _, rfl⟩; rfl)) rfl ?_
  rintro _ _ ⟨_, ⟨Ho, po, co, rfl, hO0, rfl⟩, rfl⟩
  have hfle : (l.filter fun o => decide (o.inv < n)).length ≤ l.length := List.length_filter_le _ _
  have hmx0 : mixL n (l.filter fun o => decide (o.inv < n)) 0 = (l.filter fun o => decide (o.inv < n)) := by simp [mixL]
  refine RL.q (Yld.assign rfl) rfl ?_
  refine RL.nil ?_
  refine N.next ?_
  refine W.keep (.cons (k := 3) rfl (.cons (k := 5) rfl .nil)) (.cons (k := 0) rfl (.cons (k := 1) rfl (.cons (k := 103) rfl (.cons (k := 130) rfl .nil)))) ?_
  refine W.seq ?_
  refine W.seq ?_
  refine W.region ?_
  refine RL.q (Yld.move rfl) rfl ?_
  refine RL.q (Yld.lenSl Try.underlying22 rfl) rfl ?_
  refine RL.q (Yld.move rfl) rfl ?_
  refine RL.nil ?_
  refine N.next ?_
  refine W.block ?_
  refine W.loop (ι := PI) (fun x => x.i ≤ (l.filter fun o => decide (o.inv < n)).length ∧ Own x.Ho po co 42 12 ((mixL n (l.filter fun o => decide (o.inv < n)) x.i).map O.c)) (fun x => [(3, .pointer (some ⟨b3, 0, none⟩)), (5, .slice po (l.filter fun o => decide (o.inv < n)).length co), (10, .slice po (l.filter fun o => decide (o.inv < n)).length co), (11, .int .i64 ((l.filter fun o => decide (o.inv < n)).length : Nat)), (12, .int .i64 (x.i : Nat))]) (fun x => [(0, F), (1, H1), (103, single b3 (.cells [.int .i64 n].toArray 3 (0, 0))), (130, x.Ho)]) (fun x => (l.filter fun o => decide (o.inv < n)).length - x.i) ⟨0, Ho⟩ ?_ ?_ ?_ ?_
  · exact ⟨Nat.zero_le _, by show Own _ _ _ _ _ ((mixL n (l.filter fun o => decide (o.inv < n)) 0).map O.c); rw [hmx0]; exact hO0⟩
  · exact (.cons rfl (.as rfl (by rw [List.length_map]) (.as rfl (by rw [List.length_map]) (.as rfl (by rw [List.length_map]) (.cons rfl .nil)))))
  · exact (.cons rfl (.cons rfl (.cons rfl (.cons rfl .nil))))
  rintro x ⟨hi, hO⟩
  have hmax3 := hO.sl.len_le
  rw [List.length_map, mix_len] at hmax3
  simp only [maxLen] at hmax3
  refine W.seq ?_
  refine W.region ?_
  refine RL.q (Yld.bin rfl rfl BinV.lss) rfl ?_
  refine RL.nil ?_
  refine N.next ?_
  refine W.seq ?_
  first | refine W.condD rfl (fun hc13 => ?_) (fun hc13 => ?_) | (refine W.cond rfl (fun hc13 => ?_) (fun hc13 => ?_) <;> try simp only [Bool.or_eq_true, Bool.and_eq_true, Bool.not_eq_true', Bool.not_eq_false', decide_eq_true_eq, Bool.or_eq_false_iff, Bool.and_eq_false_iff, decide_eq_false_iff_not, beq_iff_eq, beq_eq_false_iff_ne, ne_eq, Decidable.not_not] at hc13)
  ·
    have hml : ((mixL n (l.filter fun o => decide (o.inv < n)) x.i).map O.c).length = (l.filter fun o => decide (o.inv < n)).length := by rw [List.length_map, mix_len]
    obtain ⟨o, ho⟩ : ∃ o, (l.filter fun o => decide (o.inv < n))[x.i]? = some o := ⟨_, List.getElem?_eq_getElem (show x.i < (l.filter fun o => decide (o.inv < n)).length by omega)⟩
    have hlo : ((mixL n (l.filter fun o => decide (o.inv < n)) x.i).map O.c)[x.i]? = some o.c := by rw [List.getElem?_map, mix_get (by omega), ho]; rfl
    have hlo1 : (((mixL n (l.filter fun o => decide (o.inv < n)) x.i).map O.c).set x.i [.int .i64 o.cl, .int .i64 o.nu, .int .i64 o.gr, .int .i64 o.kd, .string o.key, .int .i64 o.val, .int .i64 o.old, .int .i64 o.code, .bool o.fnd, .int .i64 o.rv, .int .i64 o.inv, .int .i64 (-1)])[x.i]? = some [.int .i64 o.cl, .int .i64 o.nu, .int .i64 o.gr, .int .i64 o.kd, .string o.key, .int .i64 o.val, .int .i64 o.old, .int .i64 o.code, .bool o.fnd, .int .i64 o.rv, .int .i64 o.inv, .int .i64 (-1)] := by rw [List.getElem?_set_self (by omega)]
    refine W.skip ?_
    refine N.next ?_
    refine W.seq ?_
    refine W.block ?_
    refine W.seq ?_
    refine W.region ?_
    refine RL.q (Yld.move rfl) rfl ?_
    refine RL.q (Yld.assign rfl) rfl ?_
    refine RL.nil ?_
    refine N.next ?_
    refine W.seq ?_
    refine W.draw (.q 0 (.q 1 (.q 2 (.q 3 (.q 4 (.q 5 (.q 6 .done))))))) (.cons (k := 0) rfl (.cons (k := 1) rfl (.cons (k := 103) rfl (.cons (k := 130) rfl .nil)))) mix (by kernel_rfl) (by kernel_rfl) ?_
    refine DL.q rfl (Yld.move rfl) rfl ?_
    refine DL.q rfl (Yld.move rfl) rfl ?_
    refine DL.q rfl (Yld.indexRow Try.underlying22 sz42 rfl rfl hO.sl (by first | rfl | omega | (simp; done) | (simp; omega)) (by omega) (by first | omega | (simp; done) | (simp; omega))) rfl ?_
    refine DL.q rfl (Yld.fieldAddr fo42_6 rfl) rfl ?_
    refine DL.q rfl (Yld.loadRowF (cl := 130) (j := 11) Try.underlying3 rfl rfl rfl hO.sl hlo rfl) rfl ?_
    refine DL.q rfl (Yld.load1 (c := 103) Try.underlying3 rfl rfl rfl (by first | exact single_self _ _ | exact pset_self _ _ _ | assumption) rfl) rfl ?_
    refine DL.q rfl (Yld.bin rfl rfl BinV.geq) rfl ?_
    refine DL.done ?_
    refine N.next ?_
    refine W.keep (.cons (k := 3) rfl (.cons (k := 5) rfl (.cons (k := 6) rfl (.cons (k := 10) rfl (.cons (k := 11) rfl (.cons (k := 12) rfl (.cons (k := 21) rfl .nil))))))) (.cons (k := 0) rfl (.cons (k := 1) rfl (.cons (k := 103) rfl (.cons (k := 130) rfl .nil)))) ?_
    first | refine W.condD rfl (fun hc21 => ?_) (fun hc21 => ?_) | (refine W.cond rfl (fun hc21 => ?_) (fun hc21 => ?_) <;> try simp only [Bool.or_eq_true, Bool.and_eq_true, Bool.not_eq_true', Bool.not_eq_false', decide_eq_true_eq, Bool.or_eq_false_iff, Bool.and_eq_false_iff, decide_eq_false_iff_not, beq_iff_eq, beq_eq_false_iff_ne, ne_eq, Decidable.not_not] at hc21)
    ·
      have hnx : ((mixL n (l.filter fun o => decide (o.inv < n)) (x.i + 1)).map O.c) = (((mixL n (l.filter fun o => decide (o.inv < n)) x.i).map O.c).set x.i [.int .i64 o.cl, .int .i64 o.nu, .int .i64 o.gr, .int .i64 o.kd, .string o.key, .int .i64 o.val, .int .i64 o.old, .int .i64 o.code, .bool o.fnd, .int .i64 o.rv, .int .i64 o.inv, .int .i64 (-1)]).set x.i [.int .i64 o.cl, .int .i64 o.nu, .int .i64 o.gr, .int .i64 o.kd, .string o.key, .int .i64 o.val, .int .i64 o.old, .int .i64 0, .bool false, .int .i64 0, .int .i64 o.inv, .int .i64 (-1)] := by rw [mix_succ ho, List.map_set, List.set_set]; simp [cutO, hc21, O.c]
      refine W.region ?_
      refine RL.q (Yld.move rfl) rfl ?_
      refine RL.q (Yld.move rfl) rfl ?_
      refine RL.q (Yld.move rfl) rfl ?_
      refine RL.q (Yld.move rfl) rfl ?_
      refine RL.q (Yld.buildP lay40 .nil rfl) rfl ?_
      refine RL.q (Yld.indexRow Try.underlying22 sz42 rfl rfl hO.sl (by first | rfl | omega | (simp; done) | (simp; omega)) (by omega) (by first | omega | (simp; done) | (simp; omega))) rfl ?_
      refine RL.q (Yld.fieldAddr fo42_6 rfl) rfl ?_
      refine RL.e0 (Eff.storeRow (tc := 130) (j := 11) sz3 rfl rfl rfl hO hlo rfl rfl rfl rfl rfl) ?_
      rintro _ _ ⟨Ho1, hO1, rfl⟩
      refine RL.q (Yld.indexRow Try.underlying22 sz42 rfl rfl hO.sl (by first | rfl | omega | (simp; done) | (simp; omega)) (by omega) (by first | omega | (simp; done) | (simp; omega))) rfl ?_
      refine RL.q (Yld.fieldAddr fo42_4 rfl) rfl ?_
      refine RL.e0 (Eff.storeRow (tc := 130) (j := 7) sz40 rfl rfl rfl hO1 hlo1 rfl rfl rfl rfl rfl) ?_
      rintro _ _ ⟨Hb, hOb, rfl⟩
      refine RL.nil ?_
      refine N.block_normal ?_
      refine N.next ?_
      refine W.keep (.cons (k := 3) rfl (.cons (k := 5) rfl (.cons (k := 10) rfl (.cons (k := 11) rfl (.cons (k := 12) rfl .nil))))) (.cons (k := 0) rfl (.cons (k := 1) rfl (.cons (k := 103) rfl (.cons (k := 130) rfl .nil)))) ?_
      refine W.region ?_
      refine RL.q (Yld.bin rfl rfl (by first | exact BinV.add (by omega) (by omega) | exact BinV.addW)) rfl ?_
      refine RL.q (Yld.move rfl) rfl ?_
      refine RL.nil ?_
      exact N.fam ⟨x.i + 1, Hb⟩ ⟨⟨by show x.i + 1 ≤ _; omega, by show Own _ _ _ _ _ ((mixL n (l.filter fun o => decide (o.inv < n)) (x.i + 1)).map O.c); rw [hnx]; exact hOb⟩, by show _ - (x.i + 1) < _; omega⟩ (.cons rfl (.cons rfl (.cons rfl (.cons rfl (.cons rfl .nil))))) (.cons rfl (.cons rfl (.cons rfl (.cons rfl .nil))))
    ·
      have hnx : ((mixL n (l.filter fun o => decide (o.inv < n)) (x.i + 1)).map O.c) = ((mixL n (l.filter fun o => decide (o.inv < n)) x.i).map O.c) := by
        rw [mix_succ ho, show cutO n o = o by simp only [cutO, if_neg hc21]]
        rw [show (mixL n (l.filter fun o => decide (o.inv < n)) x.i).set x.i o = mixL n (l.filter fun o => decide (o.inv < n)) x.i from List.ext_getElem? fun i => by
          rw [List.getElem?_set]
          by_cases e : x.i = i
          · subst e; rw [if_pos rfl, if_pos (by rw [mix_len]; omega), mix_get (by omega), ho]
          · rw [if_neg e]]
      refine W.skip ?_
      refine N.block_normal ?_
      refine N.next ?_
      refine W.region ?_
      refine RL.q (Yld.bin rfl rfl (by first | exact BinV.add (by omega) (by omega) | exact BinV.addW)) rfl ?_
      refine RL.q (Yld.move rfl) rfl ?_
      refine RL.nil ?_
      exact N.fam ⟨x.i + 1, x.Ho⟩ ⟨⟨by show x.i + 1 ≤ _; omega, by show Own _ _ _ _ _ ((mixL n (l.filter fun o => decide (o.inv < n)) (x.i + 1)).map O.c); rw [hnx]; exact hO⟩, by show _ - (x.i + 1) < _; omega⟩ (.cons rfl (.cons rfl (.cons rfl (.cons rfl (.cons rfl .nil))))) (.cons rfl (.cons rfl (.cons rfl (.cons rfl .nil))))
  ·
    have hend : x.i = (l.filter fun o => decide (o.inv < n)).length := by omega
    have hmx : mixL n (l.filter fun o => decide (o.inv < n)) x.i = prefixL n l := by rw [hend]; simp [mixL, prefixL]
    refine W.exit ?_
    refine N.then_exit ?_
    refine N.then_exit ?_
    refine N.block_eq ?_
    refine N.next ?_
    refine W.keep (.cons (k := 5) rfl .nil) (.cons (k := 0) rfl (.cons (k := 1) rfl (.cons (k := 103) rfl (.cons (k := 130) rfl .nil)))) ?_
    refine W.seq ?_
    refine W.region ?_
    refine RL.q (Yld.move rfl) rfl ?_
    refine RL.q (Yld.assign rfl) rfl ?_
    refine RL.nil ?_
    refine N.next ?_
    refine W.ret ?_
    exact N.retBy [1, 130] (.cons (.tmp rfl) .nil) rfl rfl rfl rfl ⟨x.Ho, po, co, by show Value.slice _ _ _ = _; rw [← hmx, List.length_map, mix_len], by rw [← hmx]; exact hO, rfl⟩

end Go.Proofs.Ytbgppnkccbhbpaa
