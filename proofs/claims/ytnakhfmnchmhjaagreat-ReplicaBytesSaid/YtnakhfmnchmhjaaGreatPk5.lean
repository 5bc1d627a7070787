/- Several texts in one, in their build order: what the proofs of this seat share. -/
import Derived.Test.YtnakhfmnchmhjaaGreatPk4
import Derived.Test.YtnakhfmnchmhjaaGreatPk3
import Derived.Below
set_option linter.unusedVariables false
set_option linter.unusedSimpArgs false
set_option linter.unusedSectionVars false
/- Contracts of package config and of its reference. Written by program (walk2.py). -/
namespace Go.Proofs.YtnakhfmnchmhjaaGreat
open SL Cfg
set_option linter.unusedVariables false
set_option linter.unusedSimpArgs false
theorem ent54 : Ent Tryz.prog 54 := ⟨_, _, Tryz.func54, by kernel_rfl, rfl⟩
theorem ent299 : Ent Tryz.prog 299 := ⟨_, _, Tryz.func299, by kernel_rfl, rfl⟩
theorem fo86_0 : fieldOff Tryz.prog 86 0 = some 0 := by kernel_rfl
theorem ent342 : Ent Tryz.prog 342 := ⟨_, _, Tryz.func342, by kernel_rfl, rfl⟩
theorem fo86_1 : fieldOff Tryz.prog 86 1 = some 1 := by kernel_rfl
theorem ent39 : Ent Tryz.prog 39 := ⟨_, _, Tryz.func39, by kernel_rfl, rfl⟩
theorem ent107 : Ent Tryz.prog 107 := ⟨_, _, Tryz.func107, by kernel_rfl, rfl⟩
theorem fo86_2 : fieldOff Tryz.prog 86 2 = some 2 := by kernel_rfl
theorem sz86 : sz Tryz.prog 86 3 := (by kernel_rfl : (Tryz.prog.info? 86).map (·.size) = some 3)
theorem ent55 : Ent Tryz.prog 55 := ⟨_, _, Tryz.func55, by kernel_rfl, rfl⟩
theorem ent193 : Ent Tryz.prog 193 := ⟨_, _, Tryz.func193, by kernel_rfl, rfl⟩
theorem ent192 : Ent Tryz.prog 192 := ⟨_, _, Tryz.func192, by kernel_rfl, rfl⟩
theorem ent191 : Ent Tryz.prog 191 := ⟨_, _, Tryz.func191, by kernel_rfl, rfl⟩
theorem ent189 : Ent Tryz.prog 189 := ⟨_, _, Tryz.func189, by kernel_rfl, rfl⟩
theorem ent194 : Ent Tryz.prog 194 := ⟨_, _, Tryz.func194, by kernel_rfl, rfl⟩
theorem zc22 : zc Tryz.prog 22 [.slice none 0 0] := (by kernel_rfl : ((Tryz.prog.info? 22).bind (·.zero)).map (fun v => v.cells.toList) = some [.slice none 0 0])
theorem ent89 : Ent Tryz.prog 89 := ⟨_, _, Tryz.func89, by kernel_rfl, rfl⟩
theorem zv4 : zv Tryz.prog 4 (.bool false) := (by kernel_rfl : (Tryz.prog.info? 4).bind (·.zero) = some (.bool false))
theorem ent366 : Ent Tryz.prog 366 := ⟨_, _, Tryz.func366, by kernel_rfl, rfl⟩
theorem zc172 : zc Tryz.prog 172 [.map none] := (by kernel_rfl : ((Tryz.prog.info? 172).bind (·.zero)).map (fun v => v.cells.toList) = some [.map none])
theorem sz172 : sz Tryz.prog 172 1 := (by kernel_rfl : (Tryz.prog.info? 172).map (·.size) = some 1)
theorem ent367 : Ent Tryz.prog 367 := ⟨_, _, Tryz.func367, by kernel_rfl, rfl⟩
abbrev u86 := @Tryz.underlying86
abbrev u172 := @Tryz.underlying172
structure Cfg.Cf where
  o : List Int
  n : List Int
  l : List Int
  po : Option Addr
  co : Nat
  pn : Option Addr
  cn : Nat
  pl : Option Addr
  cl : Nat
def Cfg.Cf.In (x : Cf) (H : PH) : Prop := Sl H x.po x.co 1 (iz x.o) ∧ Sl H x.pn x.cn 1 (iz x.n) ∧ Sl H x.pl x.cl 1 (iz x.l)
def Cfg.Cf.Ok (x : Cf) : Prop := setL x.o = x.o ∧ setL x.n = x.n ∧ setL x.l = x.l ∧ 0 < x.o.length ∧ x.o ≠ x.n ∧ (minusL x.l (setL (x.o ++ x.n))).length = x.l.length
instance (x : Cfg.Cf) : Decidable x.Ok := inferInstanceAs (Decidable (_ ∧ _))
structure Cfg.QI where
  j : Nat
  es : Array MapEntry
  ck : Nat
  m : List (Int × Value)
theorem Cfg.cat2 {α : Type} (a c : α) (b d : Nat) (u v : List Int) : catL [(a, b, u), (c, d, v)] = u ++ v := by simp [catL]
theorem Cfg.cat3 {α : Type} (a c e : α) (b d f : Nat) (u v w : List Int) : catL [(a, b, u), (c, d, v), (e, f, w)] = u ++ v ++ w := by simp [catL]
theorem Cfg.cat1 {α : Type} (a : α) (b : Nat) (u : List Int) : catL [(a, b, u)] = u := by simp [catL]

set_option maxRecDepth 100000 in
set_option maxHeartbeats 400000 in
theorem ints_ct (l : List Int) (H1 : PH) (p : Option Addr) (c : Nat) (hl : Sl H1 p c 1 (iz l)) (m : List Int) (H2 : PH) (q : Option Addr) (d : Nat) (hm : Sl H2 q d 1 (iz m)) : Ct Tryz.prog 107 [.slice p l.length c, .slice q m.length d] [H1, H2] (fun v Hs => v = .bool (decide (l = m)) ∧ Hs = [H1, H2]) := by
  refine Ct.body Tryz.func107 rfl Tryz.ntmps107 rfl ?_
  intro E F
  have hmxl := hl.len_le
  simp only [iz_len, maxLen] at hmxl
  have hmxm := hm.len_le
  simp only [iz_len, maxLen] at hmxm
  refine q_sr (q_an ?_)
  refine W.seq (q_sr (q_q q_mv (q_q (q_n u22) (q_q q_mv (q_q (q_n u22) (q_q (q_b BinV.neq) (q_nn (q_k [0, 1, 10] [0, 1, 2] ?_))))))))
  first | refine W.condD rfl (fun hc10 => ?_) (fun hc10 => ?_) | (refine W.cond rfl (fun hc10 => ?_) (fun hc10 => ?_) <;> try simp only [Bool.or_eq_true, Bool.and_eq_true, Bool.not_eq_true', Bool.not_eq_false', decide_eq_true_eq, Bool.or_eq_false_iff, Bool.and_eq_false_iff, decide_eq_false_iff_not, beq_iff_eq, beq_eq_false_iff_ne, ne_eq, Decidable.not_not] at hc10)
  ·
   refine q_sr (q_an ?_)
   refine W.ret (N.then_ret ?_)
   exact q_r [1, 2] (.cons (.tmp rfl) .nil) rfl rfl rfl ⟨by rw [decide_eq_false (by rintro rfl; exact hc10 rfl)]; rfl, rfl⟩
  ·
   refine W.skip (N.next (W.seq (q_sr (q_an ?_))))
   refine W.block ?_
   refine W.loopK (ι := Nat) (fun j => (j ≤ l.length ∧ ∀ i : Nat, i < j → l[i]? = m[i]?)) (fun j => [(5, .int .i64 (j : Nat))]) (fun j => []) (fun j => l.length - j) (.of [0, 1] rfl) (.of [0, 1, 2] rfl) 0 ?_ ?_ ?_ ?_
   · exact ⟨Nat.zero_le _, fun _ h => absurd h (Nat.not_lt_zero _)⟩
   · exact (q_a .nil)
   · exact .nil
   rintro j ⟨hj, hI⟩
   refine q_k [5, 0, 1] [0, 1, 2] ?_
   refine W.seq (q_sr (q_q q_mv (q_q q_mv (q_q (q_n u22) (q_q (q_b BinV.lss) (q_nn ?_))))))
   first | refine W.condD rfl (fun hc14 => ?_) (fun hc14 => ?_) | (refine W.cond rfl (fun hc14 => ?_) (fun hc14 => ?_) <;> try simp only [Bool.or_eq_true, Bool.and_eq_true, Bool.not_eq_true', Bool.not_eq_false', decide_eq_true_eq, Bool.or_eq_false_iff, Bool.and_eq_false_iff, decide_eq_false_iff_not, beq_iff_eq, beq_eq_false_iff_ne, ne_eq, Decidable.not_not] at hc14)
   ·
    obtain ⟨a, ha, hla⟩ := iz_at (show j < l.length by omega)
    obtain ⟨b, hb, hlb⟩ := iz_at (show j < m.length by omega)
    refine W.skip (N.next (q_k [0, 1, 5] [0, 1, 2] ?_))
    refine W.seq (W.block (W.seq ?_))
    refine W.draw (.q 0 (.q 1 (.q 2 (.q 3 (.q 4 (.q 5 (.q 6 (.q 7 (.q 8 .done))))))))) (.of [0, 1, 2] rfl) mix (by kernel_rfl) (by kernel_rfl) (q_d rfl q_mv (q_d rfl q_mv ?_))
    refine q_d rfl (q_ix u22 sz3) ?_
    refine q_d rfl (by first | exact (by first | exact q_r1 1 u3 | exact q_r1 2 u3) | exact (by first | exact q_rF 1 0 u3 | exact q_rF 2 0 u3)) ?_
    refine q_d rfl q_mv (q_d rfl q_mv ?_)
    refine q_d rfl (q_ix u22 sz3) ?_
    refine q_d rfl (by first | exact (by first | exact q_r1 1 u3 | exact q_r1 2 u3) | exact (by first | exact q_rF 1 0 u3 | exact q_rF 2 0 u3)) ?_
    refine q_d rfl (q_b BinV.neq) (DL.done (N.next (q_k [0, 1, 5, 25] [0, 1, 2] ?_)))
    first | refine W.condD rfl (fun hc25 => ?_) (fun hc25 => ?_) | (refine W.cond rfl (fun hc25 => ?_) (fun hc25 => ?_) <;> try simp only [Bool.or_eq_true, Bool.and_eq_true, Bool.not_eq_true', Bool.not_eq_false', decide_eq_true_eq, Bool.or_eq_false_iff, Bool.and_eq_false_iff, decide_eq_false_iff_not, beq_iff_eq, beq_eq_false_iff_ne, ne_eq, Decidable.not_not] at hc25)
    ·
     refine q_sr (q_an ?_)
     refine q_k [4] [0, 1, 2] ?_
     refine W.ret (N.block_ret (N.then_ret (N.then_ret (N.block_ret (N.then_ret ?_)))))
     exact q_r [1, 2] (.cons (.tmp rfl) .nil) rfl rfl rfl ⟨by rw [decide_eq_false (by rintro rfl; rw [ha] at hb; cases hb; exact hc25 rfl)]; rfl, rfl⟩
    ·
     refine W.skip (N.block_normal (N.next (W.region (q_q q_mv ?_))))
     refine q_q q_ad (q_q q_as (RL.nil ?_))
     exact N.famK (j + 1) ⟨⟨by omega, fun i hi => (Nat.lt_succ_iff_lt_or_eq.1 hi).elim (hI i) (fun e => by subst e; rw [ha, hb]; congr 1; omega)⟩, by omega⟩ (q_a .nil) (.to rfl) .nil (.to rfl)
   ·
    refine W.exit (N.then_exit (N.then_exit (N.block_eq (N.next ?_))))
    refine W.keep .nil (.of [0, 1, 2] rfl) (q_sr (q_an ?_))
    refine W.ret ?_
    exact q_r [1, 2] (.cons (.tmp rfl) .nil) rfl rfl rfl ⟨by rw [decide_eq_true (eq_of_get (by omega) fun i hi => hI i (by omega))]; rfl, rfl⟩

/-- .. both within one piece -/
theorem ints1_ct (l m : List Int) (H1 : PH) (p q : Option Addr) (c d : Nat) (hl : Sl H1 p c 1 (iz l)) (hm : Sl H1 q d 1 (iz m)) : True := trivial

set_option maxRecDepth 100000 in
set_option maxHeartbeats 400000 in
theorem intsS_ct (l m : List Int) (H1 : PH) (p q : Option Addr) (c d : Nat) (hl : Sl H1 p c 1 (iz l)) (hm : Sl H1 q d 1 (iz m)) : Ct Tryz.prog 107 [.slice p l.length c, .slice q m.length d] [H1] (fun v Hs => v = .bool (decide (l = m)) ∧ Hs = [H1]) := by
  refine Ct.body Tryz.func107 rfl Tryz.ntmps107 rfl ?_
  intro E F
  have hmxl := hl.len_le
  simp only [iz_len, maxLen] at hmxl
  have hmxm := hm.len_le
  simp only [iz_len, maxLen] at hmxm
  refine q_sr (q_an ?_)
  refine W.seq (q_sr (q_q q_mv (q_q (q_n u22) (q_q q_mv (q_q (q_n u22) (q_q (q_b BinV.neq) (q_nn (q_k [0, 1, 10] [0, 1] ?_))))))))
  first | refine W.condD rfl (fun hc10 => ?_) (fun hc10 => ?_) | (refine W.cond rfl (fun hc10 => ?_) (fun hc10 => ?_) <;> try simp only [Bool.or_eq_true, Bool.and_eq_true, Bool.not_eq_true', Bool.not_eq_false', decide_eq_true_eq, Bool.or_eq_false_iff, Bool.and_eq_false_iff, decide_eq_false_iff_not, beq_iff_eq, beq_eq_false_iff_ne, ne_eq, Decidable.not_not] at hc10)
  ·
   refine q_sr (q_an ?_)
   refine W.ret (N.then_ret ?_)
   exact q_r [1] (.cons (.tmp rfl) .nil) rfl rfl rfl ⟨by rw [decide_eq_false (by rintro rfl; exact hc10 rfl)]; rfl, rfl⟩
  ·
   refine W.skip (N.next (W.seq (q_sr (q_an ?_))))
   refine W.block ?_
   refine W.loopK (ι := Nat) (fun j => (j ≤ l.length ∧ ∀ i : Nat, i < j → l[i]? = m[i]?)) (fun j => [(5, .int .i64 (j : Nat))]) (fun j => []) (fun j => l.length - j) (.of [0, 1] rfl) (.of [0, 1] rfl) 0 ?_ ?_ ?_ ?_
   · exact ⟨Nat.zero_le _, fun _ h => absurd h (Nat.not_lt_zero _)⟩
   · exact (q_a .nil)
   · exact .nil
   rintro j ⟨hj, hI⟩
   refine q_k [5, 0, 1] [0, 1] ?_
   refine W.seq (q_sr (q_q q_mv (q_q q_mv (q_q (q_n u22) (q_q (q_b BinV.lss) (q_nn ?_))))))
   first | refine W.condD rfl (fun hc14 => ?_) (fun hc14 => ?_) | (refine W.cond rfl (fun hc14 => ?_) (fun hc14 => ?_) <;> try simp only [Bool.or_eq_true, Bool.and_eq_true, Bool.not_eq_true', Bool.not_eq_false', decide_eq_true_eq, Bool.or_eq_false_iff, Bool.and_eq_false_iff, decide_eq_false_iff_not, beq_iff_eq, beq_eq_false_iff_ne, ne_eq, Decidable.not_not] at hc14)
   ·
    obtain ⟨a, ha, hla⟩ := iz_at (show j < l.length by omega)
    obtain ⟨b, hb, hlb⟩ := iz_at (show j < m.length by omega)
    refine W.skip (N.next (q_k [0, 1, 5] [0, 1] ?_))
    refine W.seq (W.block (W.seq ?_))
    refine W.draw (.q 0 (.q 1 (.q 2 (.q 3 (.q 4 (.q 5 (.q 6 (.q 7 (.q 8 .done))))))))) (.of [0, 1] rfl) mix (by kernel_rfl) (by kernel_rfl) (q_d rfl q_mv (q_d rfl q_mv ?_))
    refine q_d rfl (Yld.indexRow u22 sz3 rfl rfl hl (by first | rfl | omega | (simp; done) | (simp; omega)) (by omega) (by first | omega | (simp; done) | (simp; omega))) ?_
    refine q_d rfl (Yld.loadRow1 (cl := 1) u3 rfl rfl rfl hl hla) (q_d rfl q_mv (q_d rfl q_mv ?_))
    refine q_d rfl (Yld.indexRow u22 sz3 rfl rfl hm (by first | rfl | omega | (simp; done) | (simp; omega)) (by omega) (by first | omega | (simp; done) | (simp; omega))) ?_
    refine q_d rfl (Yld.loadRow1 (cl := 1) u3 rfl rfl rfl hm hlb) (q_d rfl (q_b BinV.neq) (DL.done (N.next (q_k [0, 1, 5, 25] [0, 1] ?_))))
    first | refine W.condD rfl (fun hc25 => ?_) (fun hc25 => ?_) | (refine W.cond rfl (fun hc25 => ?_) (fun hc25 => ?_) <;> try simp only [Bool.or_eq_true, Bool.and_eq_true, Bool.not_eq_true', Bool.not_eq_false', decide_eq_true_eq, Bool.or_eq_false_iff, Bool.and_eq_false_iff, decide_eq_false_iff_not, beq_iff_eq, beq_eq_false_iff_ne, ne_eq, Decidable.not_not] at hc25)
    ·
     refine q_sr (q_an ?_)
     refine q_k [4] [0, 1] ?_
     refine W.ret (N.block_ret (N.then_ret (N.then_ret (N.block_ret (N.then_ret ?_)))))
     exact q_r [1] (.cons (.tmp rfl) .nil) rfl rfl rfl ⟨by rw [decide_eq_false (by rintro rfl; rw [ha] at hb; cases hb; exact hc25 rfl)]; rfl, rfl⟩
    ·
     refine W.skip (N.block_normal (N.next (W.region (q_q q_mv ?_))))
     refine q_q q_ad (q_q q_as (RL.nil ?_))
     exact N.famK (j + 1) ⟨⟨by omega, fun i hi => (Nat.lt_succ_iff_lt_or_eq.1 hi).elim (hI i) (fun e => by subst e; rw [ha, hb]; congr 1; omega)⟩, by omega⟩ (q_a .nil) (.to rfl) .nil (.to rfl)
   ·
    refine W.exit (N.then_exit (N.then_exit (N.block_eq (N.next ?_))))
    refine W.keep .nil (.of [0, 1] rfl) (q_sr (q_an ?_))
    refine W.ret ?_
    exact q_r [1] (.cons (.tmp rfl) .nil) rfl rfl rfl ⟨by rw [decide_eq_true (eq_of_get (by omega) fun i hi => hI i (by omega))]; rfl, rfl⟩

set_option maxRecDepth 100000 in
set_option maxHeartbeats 400000 in
theorem has_ct (l : List Int) (H1 : PH) (p : Option Addr) (c : Nat) (hl : Sl H1 p c 1 (iz l)) (n : Int) : Ct Tryz.prog 54 [.slice p l.length c, .int .i64 n] [H1] (fun v Hs => v = .bool (decide (n ∈ l)) ∧ Hs = [H1]) := by
  refine Ct.body Tryz.func54 rfl Tryz.ntmps54 rfl ?_
  intro E F
  have hmxl := hl.len_le
  simp only [iz_len, maxLen] at hmxl
  refine q_sr (q_an ?_)
  refine W.seq (q_sr (q_an ?_))
  refine W.block ?_
  refine W.loopK (ι := Nat) (fun j => (j ≤ l.length ∧ ∀ (i : Nat) z, i < j → l[i]? = some z → z ≠ n)) (fun j => [(5, .int .i64 (j : Nat))]) (fun j => []) (fun j => l.length - j) (.of [0, 1] rfl) (.of [0, 1] rfl) 0 ?_ ?_ ?_ ?_
  · exact ⟨Nat.zero_le _, upto0⟩
  · exact (q_a .nil)
  · exact .nil
  rintro j ⟨hj, hI⟩
  refine q_k [5, 0, 1] [0, 1] ?_
  refine W.seq (q_sr (q_q q_mv (q_q q_mv (q_q (q_n u22) (q_q (q_b BinV.lss) (q_nn ?_))))))
  first | refine W.condD rfl (fun hc9 => ?_) (fun hc9 => ?_) | (refine W.cond rfl (fun hc9 => ?_) (fun hc9 => ?_) <;> try simp only [Bool.or_eq_true, Bool.and_eq_true, Bool.not_eq_true', Bool.not_eq_false', decide_eq_true_eq, Bool.or_eq_false_iff, Bool.and_eq_false_iff, decide_eq_false_iff_not, beq_iff_eq, beq_eq_false_iff_ne, ne_eq, Decidable.not_not] at hc9)
  ·
   obtain ⟨z, hz, hlz⟩ := iz_at (show j < l.length by omega)
   refine W.skip (N.next (q_k [0, 1, 5] [0, 1] ?_))
   refine W.seq (W.block (q_sr (q_q q_mv (q_q q_mv ?_))))
   refine q_q (q_ix u22 sz3) ?_
   refine q_q (by first | exact (q_r1 1 u3) | exact (q_rF 1 0 u3)) ?_
   refine q_q q_mv (q_q (q_b BinV.eql) (q_nn (q_k [0, 1, 5, 17] [0, 1] ?_)))
   first | refine W.condD rfl (fun hc17 => ?_) (fun hc17 => ?_) | (refine W.cond rfl (fun hc17 => ?_) (fun hc17 => ?_) <;> try simp only [Bool.or_eq_true, Bool.and_eq_true, Bool.not_eq_true', Bool.not_eq_false', decide_eq_true_eq, Bool.or_eq_false_iff, Bool.and_eq_false_iff, decide_eq_false_iff_not, beq_iff_eq, beq_eq_false_iff_ne, ne_eq, Decidable.not_not] at hc17)
   ·
    refine q_sr (q_an ?_)
    refine q_k [4] [0, 1] ?_
    refine W.ret (N.block_ret (N.then_ret (N.then_ret (N.block_ret (N.then_ret ?_)))))
    exact q_r [1] (.cons (.tmp rfl) .nil) rfl rfl rfl ⟨by rw [decide_eq_true (by rw [← hc17]; exact List.mem_of_getElem? hz)]; rfl, rfl⟩
   ·
    refine W.skip (N.block_normal (N.next (W.region (q_q q_mv ?_))))
    refine q_q q_ad (q_q q_as (RL.nil ?_))
    exact N.famK (j + 1) ⟨⟨by omega, upto hI hz hc17⟩, by omega⟩ (q_a .nil) (.to rfl) .nil (.to rfl)
  ·
   refine W.exit (N.then_exit (N.then_exit (N.block_eq (N.next ?_))))
   refine W.keep .nil (.of [0, 1] rfl) (q_sr (q_an ?_))
   refine W.ret ?_
   exact q_r [1] (.cons (.tmp rfl) .nil) rfl rfl rfl ⟨by rw [decide_eq_false (fun h => by obtain ⟨i, hi⟩ := List.getElem?_of_mem h; exact hI i n (by have := (List.getElem?_eq_some_iff.1 hi).1; omega) hi rfl)]; rfl, rfl⟩

set_option maxRecDepth 100000 in
set_option maxHeartbeats 1600000 in
theorem rset_ct (l : List Int) (H1 : PH) (p : Option Addr) (c : Nat) (hl : Sl H1 p c 1 (iz l)) (hb : l.length ≤ 1000000) : Ct Tryz.prog 39 [.slice p l.length c] [H1] (fun v Hs => ∃ H' p' c', v = .slice p' (setL l).length c' ∧ Own H' p' c' 3 1 (iz (setL l)) ∧ Hs = [H1, H']) := by
  refine Ct.body Tryz.func39 rfl Tryz.ntmps39 rfl ?_
  intro E F
  have hmxl := hl.len_le
  simp only [iz_len, maxLen] at hmxl
  refine q_sr (q_an ?_)
  refine q_sr ?_
  refine q_e (Eff.buildSlice 106 u22 sz3 zc3 rfl rfl .nil rfl) ?_
  rintro _ _ ⟨b6, rfl, rfl⟩
  refine q_an ?_
  refine W.seq (q_sr (q_an ?_))
  refine W.block ?_
  refine W.loopK (ι := SI) (fun x => (x.i ≤ l.length ∧ Own x.H x.p x.c 3 1 (iz x.s) ∧ IsSet (l.take x.i) x.s)) (fun x => [(3, .slice x.p x.s.length x.c), (4, .int .i64 (x.i : Nat))]) (fun x => [(106, x.H)]) (fun x => l.length - x.i) (.of [0] rfl) (.of [0, 1] rfl) ⟨0, single b6 (.cells [].toArray 3 (0, 0)), some ⟨b6, 0, none⟩, 0, []⟩ ?_ ?_ ?_ ?_
  · exact ⟨Nat.zero_le _, iz_none rfl, IsSet.nil⟩
  · exact (q_a (q_a .nil))
  · exact (.to rfl)
  rintro x ⟨hi, hO, hs⟩
  refine q_k [3, 4, 0] [106, 0, 1] ?_
  refine W.seq (q_sr (q_q q_mv (q_q q_mv (q_q (q_n u22) (q_q (q_b BinV.lss) (q_nn ?_))))))
  first | refine W.condD rfl (fun hc10 => ?_) (fun hc10 => ?_) | (refine W.cond rfl (fun hc10 => ?_) (fun hc10 => ?_) <;> try simp only [Bool.or_eq_true, Bool.and_eq_true, Bool.not_eq_true', Bool.not_eq_false', decide_eq_true_eq, Bool.or_eq_false_iff, Bool.and_eq_false_iff, decide_eq_false_iff_not, beq_iff_eq, beq_eq_false_iff_ne, ne_eq, Decidable.not_not] at hc10)
  ·
   obtain ⟨z, hz, hlz⟩ := iz_at (show x.i < l.length by omega)
   have hsl := hs.len
   rw [List.length_take] at hsl
   have hcx := hO.sl.len_le
   simp only [iz_len, maxLen] at hcx
   refine W.skip (N.next (q_k [0, 3, 4] [0, 1, 106] ?_))
   refine W.seq (W.block (W.seq (q_sr (q_q q_mv (q_q q_mv ?_)))))
   refine q_q (q_ix u22 sz3) ?_
   refine q_q (by first | exact (by first | exact q_r1 1 u3 | exact q_r1 106 u3) | exact (by first | exact q_rF 1 0 u3 | exact q_rF 106 0 u3)) ?_
   refine q_q (q_b BinV.lss) (q_q q_mv ?_)
   refine' q_or 18 25 7 [0, 3, 4, 13, 14, 15, 16, 17] [0, 1, 106] ?_ ?_ ?_
   rotate_left 1
   ·
    intro hg18
    refine q_g q_mv (q_g q_mv (q_g q_mv ?_))
    refine q_g (q_ix u22 sz3) ?_
    refine q_g (by first | exact (by first | exact q_r1 1 u3 | exact q_r1 106 u3) | exact (by first | exact q_rF 1 0 u3 | exact q_rF 106 0 u3)) ?_
    refine RL.ge rfl rfl (q_c ent54 [106] [106] (has_ct x.s _ _ _ hO.sl z)) rfl ?_
    rintro _ _ ⟨_, ⟨rfl, rfl⟩, rfl⟩
    refine q_q Yld.pk ?_
    exact q_m
   ·
    intro hg18
    repeat refine q_gs ?_
    refine q_q Yld.pk ?_
    exact q_m
   refine q_nn (q_k [0, 3, 4, 25] [0, 1, 106] ?_)
   first | refine W.condD rfl (fun hc25 => ?_) (fun hc25 => ?_) | (refine W.cond rfl (fun hc25 => ?_) (fun hc25 => ?_) <;> try simp only [Bool.or_eq_true, Bool.and_eq_true, Bool.not_eq_true', Bool.not_eq_false', decide_eq_true_eq, Bool.or_eq_false_iff, Bool.and_eq_false_iff, decide_eq_false_iff_not, beq_iff_eq, beq_eq_false_iff_ne, ne_eq, Decidable.not_not] at hc25)
   ·
    refine W.exit (N.then_exit (N.block_eq (N.next (W.region (q_q q_mv ?_)))))
    refine q_q q_ad (q_q q_as (RL.nil ?_))
    exact N.famK ⟨x.i + 1, x.H, x.p, x.c, x.s⟩ ⟨⟨by dsimp only; omega, hO, hs.skip hz hc25⟩, by dsimp only; omega⟩ (q_a (q_a .nil)) (.to rfl) (.to rfl) (.to rfl)
   ·
    refine W.skip (N.next (q_sr (q_an ?_)))
    refine W.seq (W.block ?_)
    refine W.loopK (ι := Nat) (fun k => (k ≤ x.s.length ∧ ∀ (i : Nat) y, i < k → x.s[i]? = some y → y < z)) (fun k => [(5, .int .i64 (k : Nat))]) (fun k => []) (fun k => x.s.length - k) (.of [0, 3, 4] rfl) (.of [0, 1, 106] rfl) 0 ?_ ?_ ?_ ?_
    · exact ⟨Nat.zero_le _, upto0⟩
    · exact (q_a .nil)
    · exact .nil
    rintro k ⟨hk, hkI⟩
    refine q_k [5, 0, 3, 4] [0, 1, 106] ?_
    refine W.seq (W.seq ?_)
    refine W.draw (.q 0 (.q 1 (.q 2 (.q 3 (.q 4 (.q 5 (.q 6 (.q 7 (.q 8 (.q 9 (.q 10 (.q 11 (.q 12 (.q 13 (.q 14 .done))))))))))))))) (.of [0, 1, 106] rfl) mix (by kernel_rfl) (by kernel_rfl) (q_d rfl q_mv (q_d rfl q_mv (q_d rfl (q_n u22) (q_d rfl (q_b BinV.lss) (q_d rfl q_mv ?_)))))
    refine' DL.and (t := 30) (d := 40) 10 rfl (.of [0, 3, 4, 5, 26, 27, 28, 29] rfl) (.of [0, 1, 106] rfl) ?_ ?_ ?_
    rotate_left 1
    ·
     intro hg30
     have hg30 := of_decide_eq_true hg30
     have hly := iz_getD (show k < x.s.length by omega)
     refine DL.gq rfl rfl rfl q_mv rfl ?_
     refine DL.gq rfl rfl rfl q_mv rfl ?_
     refine DL.gq rfl rfl rfl (q_ix u22 sz3) rfl ?_
     refine DL.gq rfl rfl rfl (by first | exact (by first | exact q_r1 1 u3 | exact q_r1 106 u3) | exact (by first | exact q_rF 1 0 u3 | exact q_rF 106 0 u3)) rfl ?_
     refine DL.gq rfl rfl rfl q_mv rfl ?_
     refine DL.gq rfl rfl rfl q_mv rfl ?_
     refine DL.gq rfl rfl rfl (q_ix u22 sz3) rfl ?_
     refine DL.gq rfl rfl rfl (by first | exact (by first | exact q_r1 1 u3 | exact q_r1 106 u3) | exact (by first | exact q_rF 1 0 u3 | exact q_rF 106 0 u3)) rfl ?_
     refine DL.gq rfl rfl rfl (q_b BinV.lss) rfl (q_d rfl Yld.pk ?_)
     exact DL.meet (.to rfl) (.to rfl)
    ·
     intro hg30
     repeat refine q_ds ?_
     refine q_d rfl Yld.pk ?_
     exact DL.meet (.to rfl) (.to rfl)
    refine DL.done (N.next (q_k [0, 3, 4, 5, 40] [0, 1, 106] ?_))
    first | refine W.condD rfl (fun hc40 => ?_) (fun hc40 => ?_) | (refine W.cond rfl (fun hc40 => ?_) (fun hc40 => ?_) <;> try simp only [Bool.or_eq_true, Bool.and_eq_true, Bool.not_eq_true', Bool.not_eq_false', decide_eq_true_eq, Bool.or_eq_false_iff, Bool.and_eq_false_iff, decide_eq_false_iff_not, beq_iff_eq, beq_eq_false_iff_ne, ne_eq, Decidable.not_not] at hc40)
    ·
     refine W.skip (N.next (W.block (W.region (q_q q_mv ?_))))
     refine q_q q_ad (q_q q_as (RL.nil (N.block_normal ?_)))
     exact N.famK (k + 1) ⟨⟨by omega, upto hkI (List.getElem?_eq_getElem (show k < x.s.length by omega)) (by have h := hc40.2; rw [List.getD_eq_getElem?_getD, List.getElem?_eq_getElem (show k < x.s.length by omega)] at h; exact h)⟩, by omega⟩ (q_a .nil) (.to rfl) .nil (.to rfl)
    ·
     refine W.exit (N.then_exit (N.then_exit (N.block_eq (N.next ?_))))
     refine W.draw (.q 1 (.q 2 (.q 3 (.q 5 (.q 6 (.q 7 (.q 8 (.q 11 (.q 12 (.q 13 (.two 0 (.two 4 (.one 9 (.one 10 (.one 14 (.q 15 .done)))) 9 (.one 4 (.one 10 (.one 14 (.q 15 .done))))) 9 (.one 0 (.one 4 (.one 10 (.one 14 (.q 15 .done)))))))))))))))) (.of [0, 1, 106] rfl) mix (by kernel_rfl) (by kernel_rfl) (q_d rfl q_mv (q_d rfl q_mv ?_))
     refine q_d rfl (Yld.sliceH u22 sz3 rfl rfl (by omega) (by first | omega | (simp; done) | (simp; omega))) ?_
     refine q_d rfl q_mv (q_d rfl q_mv ?_)
     refine q_d rfl (q_ix u22 sz3) ?_
     refine q_d rfl (by first | exact (by first | exact q_r1 1 u3 | exact q_r1 106 u3) | exact (by first | exact q_rF 1 0 u3 | exact q_rF 106 0 u3)) ?_
     refine q_d rfl q_mv (q_d rfl q_mv ?_)
     refine q_d rfl (Yld.sliceL u22 sz3 rfl rfl (by omega) (by first | omega | (simp; done) | (simp; omega))) ?_
     refine DL.two ?_ ?_
     ·
      refine q_o rfl (Eff.buildSlice 143 u22 sz3 zc3 rfl rfl .nil rfl) ?_
      rintro _ _ ⟨b43, rfl, rfl⟩
      refine DL.two ?_ ?_
      ·
       refine q_o rfl (Eff.appendE (tc := 143) (sc := 106) (fun z : Int => [Value.int .i64 z]) u22 el3 rfl rfl rfl rfl (iz_none rfl) rfl (iz_take _ _ ▸ hO.sl.take k : Sl _ _ _ 1 (iz (x.s.take k))) (by simp; omega) (iz_one1 _) (by decide) (by first | (simp; done) | (simp; omega)) (by first | (simp [maxLen]; done) | (simp [maxLen]; omega))) ?_
       rintro _ _ ⟨Ha, pa, ca, rfl, hOa, rfl⟩
       refine q_o rfl (Eff.buildSlice 152 u22 sz3 zc3 rfl rfl (.cons rfl rfl .nil) rfl) ?_
       rintro _ _ ⟨b52, rfl, rfl⟩
       refine q_o rfl (Eff.appendE (tc := 143) (sc := 152) (fun z : Int => [Value.int .i64 z]) u22 el3 rfl rfl rfl rfl hOa rfl (iz_single rfl) rfl (iz_one1 _) (by decide) (by simp; omega) (by first | (simp [maxLen]; done) | (simp [maxLen]; omega))) ?_
       rintro _ _ ⟨Hb, pb, cb, rfl, hOb, rfl⟩
       refine q_o rfl (Eff.appendE (tc := 143) (sc := 106) (fun z : Int => [Value.int .i64 z]) u22 el3 rfl rfl rfl rfl hOb rfl (iz_drop _ _ ▸ hO.sl.drop (k := k) (by simp; omega) : Sl _ _ _ 1 (iz (x.s.drop k))) (by simp) (iz_one1 _) (by decide) (by first | (simp; done) | (simp; omega)) (by first | (simp [maxLen]; done) | (simp [maxLen]; omega))) ?_
       rintro _ _ ⟨Hd, pd, cd, rfl, hOd, rfl⟩
       refine q_d rfl q_as (DL.done (N.block_normal (N.next (q_k [0, 3, 4] [0, 1, 106, 143, 152] ?_))))
       refine W.region (q_q q_mv ?_)
       refine q_q q_ad (q_q q_as (RL.nil ?_))
       refine N.imp (Imp.move (c := 143) (c' := 106) rfl rfl) ?_
       exact N.famK ⟨x.i + 1, Hd, pd, cd, ins x.s k z⟩ ⟨⟨by dsimp only; omega, hOd, hs.put hz (by omega) hc25.2 hk hkI (fun y hy h => hc40.elim (fun h1 => h1 (by have := (List.getElem?_eq_some_iff.1 hy).1; omega)) (fun h1 => h1 (by rw [List.getD_eq_getElem?_getD, hy]; exact h)))⟩, by dsimp only; omega⟩ (q_a (q_a .nil)) (.to rfl) (.to rfl) (.to rfl)
      ·
       refine q_o rfl (Eff.buildSlice 152 u22 sz3 zc3 rfl rfl (.cons rfl rfl .nil) rfl) ?_
       rintro _ _ ⟨b52, rfl, rfl⟩
       refine q_o rfl (Eff.appendE (tc := 143) (sc := 106) (fun z : Int => [Value.int .i64 z]) u22 el3 rfl rfl rfl rfl (iz_none rfl) rfl (iz_take _ _ ▸ hO.sl.take k : Sl _ _ _ 1 (iz (x.s.take k))) (by simp; omega) (iz_one1 _) (by decide) (by first | (simp; done) | (simp; omega)) (by first | (simp [maxLen]; done) | (simp [maxLen]; omega))) ?_
       rintro _ _ ⟨Ha, pa, ca, rfl, hOa, rfl⟩
       refine q_o rfl (Eff.appendE (tc := 143) (sc := 152) (fun z : Int => [Value.int .i64 z]) u22 el3 rfl rfl rfl rfl hOa rfl (iz_single rfl) rfl (iz_one1 _) (by decide) (by simp; omega) (by first | (simp [maxLen]; done) | (simp [maxLen]; omega))) ?_
       rintro _ _ ⟨Hb, pb, cb, rfl, hOb, rfl⟩
       refine q_o rfl (Eff.appendE (tc := 143) (sc := 106) (fun z : Int => [Value.int .i64 z]) u22 el3 rfl rfl rfl rfl hOb rfl (iz_drop _ _ ▸ hO.sl.drop (k := k) (by simp; omega) : Sl _ _ _ 1 (iz (x.s.drop k))) (by simp) (iz_one1 _) (by decide) (by first | (simp; done) | (simp; omega)) (by first | (simp [maxLen]; done) | (simp [maxLen]; omega))) ?_
       rintro _ _ ⟨Hd, pd, cd, rfl, hOd, rfl⟩
       refine q_d rfl q_as (DL.done (N.block_normal (N.next (q_k [0, 3, 4] [0, 1, 106, 143, 152] ?_))))
       refine W.region (q_q q_mv ?_)
       refine q_q q_ad (q_q q_as (RL.nil ?_))
       refine N.imp (Imp.move (c := 143) (c' := 106) rfl rfl) ?_
       exact N.famK ⟨x.i + 1, Hd, pd, cd, ins x.s k z⟩ ⟨⟨by dsimp only; omega, hOd, hs.put hz (by omega) hc25.2 hk hkI (fun y hy h => hc40.elim (fun h1 => h1 (by have := (List.getElem?_eq_some_iff.1 hy).1; omega)) (fun h1 => h1 (by rw [List.getD_eq_getElem?_getD, hy]; exact h)))⟩, by dsimp only; omega⟩ (q_a (q_a .nil)) (.to rfl) (.to rfl) (.to rfl)
     ·
      refine q_o rfl (Eff.buildSlice 152 u22 sz3 zc3 rfl rfl (.cons rfl rfl .nil) rfl) ?_
      rintro _ _ ⟨b52, rfl, rfl⟩
      refine q_o rfl (Eff.buildSlice 143 u22 sz3 zc3 rfl rfl .nil rfl) ?_
      rintro _ _ ⟨b43, rfl, rfl⟩
      refine q_o rfl (Eff.appendE (tc := 143) (sc := 106) (fun z : Int => [Value.int .i64 z]) u22 el3 rfl rfl rfl rfl (iz_none rfl) rfl (iz_take _ _ ▸ hO.sl.take k : Sl _ _ _ 1 (iz (x.s.take k))) (by simp; omega) (iz_one1 _) (by decide) (by first | (simp; done) | (simp; omega)) (by first | (simp [maxLen]; done) | (simp [maxLen]; omega))) ?_
      rintro _ _ ⟨Ha, pa, ca, rfl, hOa, rfl⟩
      refine q_o rfl (Eff.appendE (tc := 143) (sc := 152) (fun z : Int => [Value.int .i64 z]) u22 el3 rfl rfl rfl rfl hOa rfl (iz_single rfl) rfl (iz_one1 _) (by decide) (by simp; omega) (by first | (simp [maxLen]; done) | (simp [maxLen]; omega))) ?_
      rintro _ _ ⟨Hb, pb, cb, rfl, hOb, rfl⟩
      refine q_o rfl (Eff.appendE (tc := 143) (sc := 106) (fun z : Int => [Value.int .i64 z]) u22 el3 rfl rfl rfl rfl hOb rfl (iz_drop _ _ ▸ hO.sl.drop (k := k) (by simp; omega) : Sl _ _ _ 1 (iz (x.s.drop k))) (by simp) (iz_one1 _) (by decide) (by first | (simp; done) | (simp; omega)) (by first | (simp [maxLen]; done) | (simp [maxLen]; omega))) ?_
      rintro _ _ ⟨Hd, pd, cd, rfl, hOd, rfl⟩
      refine q_d rfl q_as (DL.done (N.block_normal (N.next (q_k [0, 3, 4] [0, 1, 106, 143, 152] ?_))))
      refine W.region (q_q q_mv ?_)
      refine q_q q_ad (q_q q_as (RL.nil ?_))
      refine N.imp (Imp.move (c := 143) (c' := 106) rfl rfl) ?_
      exact N.famK ⟨x.i + 1, Hd, pd, cd, ins x.s k z⟩ ⟨⟨by dsimp only; omega, hOd, hs.put hz (by omega) hc25.2 hk hkI (fun y hy h => hc40.elim (fun h1 => h1 (by have := (List.getElem?_eq_some_iff.1 hy).1; omega)) (fun h1 => h1 (by rw [List.getD_eq_getElem?_getD, hy]; exact h)))⟩, by dsimp only; omega⟩ (q_a (q_a .nil)) (.to rfl) (.to rfl) (.to rfl)
  ·
   have hend : x.i = l.length := by omega
   rw [hend, List.take_length] at hs
   have hse := hs.eq
   refine W.exit (N.then_exit (N.then_exit (N.block_eq (N.next (q_k [3] [0, 1, 106] ?_)))))
   refine q_sr (q_q q_mv (q_an ?_))
   refine W.ret ?_
   exact q_r [1, 106] (.cons (.tmp rfl) .nil) rfl rfl rfl ⟨x.H, x.p, x.c, by rw [← hse]; rfl, by rw [← hse]; exact hO, rfl⟩

set_option maxRecDepth 100000 in
set_option maxHeartbeats 400000 in
theorem rminus_ct (l : List Int) (H1 : PH) (p : Option Addr) (c : Nat) (hl : Sl H1 p c 1 (iz l)) (m : List Int) (H2 : PH) (q : Option Addr) (d : Nat) (hm : Sl H2 q d 1 (iz m)) (hb : l.length ≤ 1000000) : Ct Tryz.prog 299 [.slice p l.length c, .slice q m.length d] [H1, H2] (fun v Hs => ∃ H' p' c', v = .slice p' (minusL l m).length c' ∧ Own H' p' c' 3 1 (iz (minusL l m)) ∧ Hs = [H1, H2, H']) := by
  refine Ct.body Tryz.func299 rfl Tryz.ntmps299 rfl ?_
  intro E F
  have hmxl := hl.len_le
  simp only [iz_len, maxLen] at hmxl
  have hmxm := hm.len_le
  simp only [iz_len, maxLen] at hmxm
  refine q_sr (q_an ?_)
  refine q_sr ?_
  refine q_e (Eff.buildSlice 107 u22 sz3 zc3 rfl rfl .nil rfl) ?_
  rintro _ _ ⟨b7, rfl, rfl⟩
  refine q_an ?_
  refine W.seq (q_sr (q_an ?_))
  refine W.block ?_
  refine W.loopK (ι := SI) (fun x => (x.i ≤ l.length ∧ Own x.H x.p x.c 3 1 (iz x.s) ∧ x.s = minusL (l.take x.i) m)) (fun x => [(5, .slice x.p x.s.length x.c), (6, .int .i64 (x.i : Nat))]) (fun x => [(107, x.H)]) (fun x => l.length - x.i) (.of [0, 1] rfl) (.of [0, 1, 2] rfl) ⟨0, single b7 (.cells [].toArray 3 (0, 0)), some ⟨b7, 0, none⟩, 0, []⟩ ?_ ?_ ?_ ?_
  · exact ⟨Nat.zero_le _, iz_none rfl, rfl⟩
  · exact (q_a (q_a .nil))
  · exact (.to rfl)
  rintro x ⟨hi, hO, hs⟩
  refine q_k [5, 6, 0, 1] [107, 0, 1, 2] ?_
  refine W.seq (q_sr (q_q q_mv (q_q q_mv (q_q (q_n u22) (q_q (q_b BinV.lss) (q_nn ?_))))))
  first | refine W.condD rfl (fun hc11 => ?_) (fun hc11 => ?_) | (refine W.cond rfl (fun hc11 => ?_) (fun hc11 => ?_) <;> try simp only [Bool.or_eq_true, Bool.and_eq_true, Bool.not_eq_true', Bool.not_eq_false', decide_eq_true_eq, Bool.or_eq_false_iff, Bool.and_eq_false_iff, decide_eq_false_iff_not, beq_iff_eq, beq_eq_false_iff_ne, ne_eq, Decidable.not_not] at hc11)
  ·
   obtain ⟨z, hz, hlz⟩ := iz_at (show x.i < l.length by omega)
   have hsl : x.s.length ≤ x.i := by rw [hs]; exact Nat.le_trans minus_len (by rw [List.length_take]; omega)
   refine W.skip (N.next (q_k [0, 1, 5, 6] [0, 1, 2, 107] ?_))
   refine W.seq (W.block (q_sr (q_q q_mv (q_q q_mv (q_q q_mv ?_)))))
   refine q_q (q_ix u22 sz3) ?_
   refine q_q (by first | exact (by first | exact q_r1 1 u3 | exact q_r1 2 u3 | exact q_r1 107 u3) | exact (by first | exact q_rF 1 0 u3 | exact q_rF 2 0 u3 | exact q_rF 107 0 u3)) ?_
   refine q_e (q_c ent54 [2] [2] (has_ct m _ _ _ hm z)) ?_
   rintro _ _ ⟨_, ⟨rfl, rfl⟩, rfl⟩
   refine q_q Yld.nt (q_nn (q_k [0, 1, 5, 6, 20] [0, 1, 2, 107] ?_))
   first | refine W.condD rfl (fun hc20 => ?_) (fun hc20 => ?_) | (refine W.cond rfl (fun hc20 => ?_) (fun hc20 => ?_) <;> try simp only [Bool.or_eq_true, Bool.and_eq_true, Bool.not_eq_true', Bool.not_eq_false', decide_eq_true_eq, Bool.or_eq_false_iff, Bool.and_eq_false_iff, decide_eq_false_iff_not, beq_iff_eq, beq_eq_false_iff_ne, ne_eq, Decidable.not_not] at hc20)
   ·
    refine W.region (q_q q_mv (q_q q_mv (q_q q_mv ?_)))
    refine q_q (q_ix u22 sz3) ?_
    refine q_q (by first | exact (by first | exact q_r1 2 u3 | exact q_r1 1 u3 | exact q_r1 107 u3) | exact (by first | exact q_rF 2 0 u3 | exact q_rF 1 0 u3 | exact q_rF 107 0 u3)) ?_
    refine q_e (Eff.buildSlice 126 u22 sz3 zc3 rfl rfl (.cons rfl rfl .nil) rfl) ?_
    rintro _ _ ⟨b26, rfl, rfl⟩
    refine q_e (Eff.appendE (tc := 107) (sc := 126) (fun z : Int => [Value.int .i64 z]) u22 el3 rfl rfl rfl rfl hO rfl (iz_single rfl) rfl (iz_one1 _) (by decide) (by first | (simp; done) | (simp; omega)) (by first | (simp [maxLen]; done) | (simp [maxLen]; omega))) ?_
    rintro _ _ ⟨Ha, pa, ca, rfl, hOa, rfl⟩
    refine q_q q_as (RL.nil (N.block_normal (N.next (q_k [0, 1, 5, 6] [0, 1, 2, 107, 126] ?_))))
    refine W.region (q_q q_mv ?_)
    refine q_q q_ad (q_q q_as (RL.nil ?_))
    exact N.famK ⟨x.i + 1, Ha, pa, ca, x.s ++ [z]⟩ ⟨⟨by dsimp only; omega, hOa, by dsimp only; rw [minus_take hz, if_neg hc20, hs]⟩, by dsimp only; omega⟩ (q_a (q_a .nil)) (.to rfl) (.to rfl) (.to rfl)
   ·
    refine W.skip (N.block_normal (N.next (W.region (q_q q_mv ?_))))
    refine q_q q_ad (q_q q_as (RL.nil ?_))
    exact N.famK ⟨x.i + 1, x.H, x.p, x.c, x.s⟩ ⟨⟨by dsimp only; omega, hO, by dsimp only; rw [minus_take hz, if_pos (Classical.not_not.1 hc20)]; exact hs⟩, by dsimp only; omega⟩ (q_a (q_a .nil)) (.to rfl) (.to rfl) (.to rfl)
  ·
   have hend : x.i = l.length := by omega
   rw [hend, List.take_length] at hs
   refine W.exit (N.then_exit (N.then_exit (N.block_eq (N.next (q_k [5] [0, 1, 2, 107] ?_)))))
   refine q_sr (q_q q_mv (q_an ?_))
   refine W.ret ?_
   exact q_r [1, 2, 107] (.cons (.tmp rfl) .nil) rfl rfl rfl ⟨x.H, x.p, x.c, by rw [← hs]; rfl, by rw [← hs]; exact hO, rfl⟩

set_option maxRecDepth 100000 in
set_option maxHeartbeats 400000 in
theorem most_ct (l : List Int) (H1 : PH) (p : Option Addr) (c : Nat) (hl : Sl H1 p c 1 (iz l)) (m : List Int) (H2 : PH) (q : Option Addr) (d : Nat) (hm : Sl H2 q d 1 (iz m)) (hb : l.length ≤ 1000000) : Ct Tryz.prog 342 [.slice p l.length c, .slice q m.length d] [H1, H2] (fun v Hs => v = .bool (maj l m) ∧ Hs = [H1, H2]) := by
  refine Ct.body Tryz.func342 rfl Tryz.ntmps342 rfl ?_
  intro E F
  refine q_sr (q_an ?_)
  refine q_sr (q_q q_mv (q_q (q_n u22) (q_q q_mv (q_q q_mv ?_))))
  refine q_e (q_c ent299 [1, 2] [1, 2, 30] (rminus_ct l _ _ _ hl m _ _ _ hm hb)) ?_
  rintro _ _ ⟨_, ⟨Ha, pa, ca, rfl, hOa, rfl⟩, rfl⟩
  have hml := minus_len (l := l) (m := m)
  refine q_q (q_n u22) ?_
  refine q_q q_sb ?_
  refine q_q q_ml (q_q q_mv (q_q (q_n u22) (q_q (q_b BinV.gtr) (q_an ?_))))
  refine q_k [4] [0, 1, 2, 30] ?_
  refine W.ret ?_
  exact q_r [1, 2] (.cons (.tmp rfl) .nil) rfl rfl rfl ⟨by rw [← maj_of]; rfl, rfl⟩

set_option maxRecDepth 100000 in
set_option maxHeartbeats 400000 in
theorem rquorum_ct (x : Cf) (H1 : PH) (hx : x.In H1) (m : List Int) (H2 : PH) (q : Option Addr) (d : Nat) (hm : Sl H2 q d 1 (iz m)) (hbo : x.o.length ≤ 1000000) (hbn : x.n.length ≤ 1000000) : Ct Tryz.prog 285 [.agg [.slice x.po x.o.length x.co, .slice x.pn x.n.length x.cn, .slice x.pl x.l.length x.cl].toArray, .slice q m.length d] [H1, H2] (fun v Hs => v = .bool (quor x.o x.n m) ∧ Hs = [H1, H2]) := by
  refine Ct.body Tryz.func285 rfl Tryz.ntmps285 rfl ?_
  intro E F
  obtain ⟨ho, hn, hl⟩ := hx
  have hmo := ho.len_le
  have hmn := hn.len_le
  have hml := hl.len_le
  simp only [iz_len, maxLen] at hmo hmn hml
  refine q_sr ?_
  refine q_bx 102 fun b2 => ?_
  refine q_an ?_
  refine q_sr (q_q (q_fa fo86_0) (q_q (q_l 102 u22) (q_q q_mv ?_)))
  refine q_e (q_c ent342 [1, 2] [1, 2] (most_ct x.o _ _ _ ho m _ _ _ hm hbo)) ?_
  rintro _ _ ⟨_, ⟨rfl, rfl⟩, rfl⟩
  refine q_q q_mv ?_
  refine' q_and 9 20 11 [0, 1, 2, 4, 5, 6, 7, 8] [0, 1, 2, 102] ?_ ?_ ?_
  rotate_left 1
  ·
   intro hg9
   refine q_g (q_fa fo86_1) (q_g (q_l 102 u22) (q_g (q_n u22) (q_g (q_b BinV.eql) (q_g q_mv ?_))))
   refine' q_or 14 19 5 [0, 1, 2, 4, 5, 6, 7, 8, 9, 10, 11, 12, 13] [0, 1, 2, 102] ?_ ?_ ?_
   rotate_left 1
   ·
    intro hg14
    refine q_g (q_fa fo86_1) (q_g (q_l 102 u22) (q_g q_mv ?_))
    refine RL.ge rfl rfl (q_c ent342 [1, 2] [1, 2] (most_ct x.n _ _ _ hn m _ _ _ hm hbn)) rfl ?_
    rintro _ _ ⟨_, ⟨rfl, rfl⟩, rfl⟩
    refine q_g Yld.pk ?_
    exact q_m
   ·
    intro hg14
    repeat refine q_gs ?_
    refine q_g Yld.pk ?_
    exact q_m
   refine q_q Yld.pk ?_
   exact q_m
  ·
   intro hg9
   repeat refine q_gs ?_
   refine RL.gskipU rfl rfl rfl ?_
   refine RL.gskipU rfl rfl rfl ?_
   refine RL.gskipU rfl rfl rfl ?_
   refine RL.gskipU rfl rfl rfl (q_gs (q_q Yld.pk ?_))
   exact q_m
  refine q_an ?_
  refine q_k [4] [0, 1, 2, 102] ?_
  refine W.ret ?_
  exact q_r [1, 2] (.cons (.tmp rfl) .nil) rfl rfl rfl ⟨by show Value.bool _ = _; unfold quor; congr 2; congr 1; rw [Bool.eq_iff_iff, decide_eq_true_eq, decide_eq_true_eq]; omega, rfl⟩

set_option maxRecDepth 100000 in
set_option maxHeartbeats 400000 in
theorem rvoters_ct (x : Cf) (H1 : PH) (hx : x.In H1) (hb : (x.o ++ x.n).length ≤ 1000000) : Ct Tryz.prog 55 [.agg [.slice x.po x.o.length x.co, .slice x.pn x.n.length x.cn, .slice x.pl x.l.length x.cl].toArray] [H1] (fun v Hs => ∃ H' p' c', v = .slice p' (setL (x.o ++ x.n)).length c' ∧ Own H' p' c' 3 1 (iz (setL (x.o ++ x.n))) ∧ Hs = [H1, H']) := by
  refine Ct.body Tryz.func55 rfl Tryz.ntmps55 rfl ?_
  intro E F
  obtain ⟨ho, hn, hl⟩ := hx
  have hmo := ho.len_le
  have hmn := hn.len_le
  have hml := hl.len_le
  simp only [iz_len, maxLen] at hmo hmn hml
  rw [List.length_append] at hb
  refine q_sr ?_
  refine q_bx 101 fun b1 => ?_
  refine q_an ?_
  refine W.seq ?_
  refine W.draw (.q 1 (.q 2 (.q 4 (.q 5 (.one 0 (.one 3 (.one 6 (.one 7 (.q 8 .done))))))))) (.of [0, 1, 101] rfl) mix (by kernel_rfl) (by kernel_rfl) (q_d rfl (q_fa fo86_0) (q_d rfl (q_l 101 u22) (q_d rfl (q_fa fo86_1) (q_d rfl (q_l 101 u22) ?_))))
  refine q_o rfl (Eff.buildSlice 103 u22 sz3 zc3 rfl rfl .nil rfl) ?_
  rintro _ _ ⟨b3, rfl, rfl⟩
  refine q_o rfl (Eff.appendE (tc := 103) (sc := 1) (fun z : Int => [Value.int .i64 z]) u22 el3 rfl rfl rfl rfl (iz_none rfl) rfl ho rfl (iz_one1 _) (by decide) (by first | (simp; done) | (simp; omega)) (by first | (simp [maxLen]; done) | (simp [maxLen]; omega))) ?_
  rintro _ _ ⟨Ha, pa, ca, rfl, hOa, rfl⟩
  refine q_o rfl (Eff.appendE (tc := 103) (sc := 1) (fun z : Int => [Value.int .i64 z]) u22 el3 rfl rfl rfl rfl hOa rfl hn rfl (iz_one1 _) (by decide) (by first | (simp; done) | (simp; omega)) (by first | (simp [maxLen]; done) | (simp [maxLen]; omega))) ?_
  rintro _ _ ⟨Hb, pb, cb, rfl, hOb, rfl⟩
  refine q_o rfl (Eff.call ent39 [103] [103, 130] (.cons rfl .nil) (rset_ct (x.o ++ x.n) _ _ _ hOb.sl (by simp; omega)) rfl rfl rfl rfl (by rintro _ _ ⟨_, _, _, _, _, rfl⟩; rfl)) ?_
  rintro _ _ ⟨_, ⟨Hs1, ps, cs, rfl, hOs, rfl⟩, rfl⟩
  refine q_d rfl q_as (DL.done (N.next (q_k [2] [0, 1, 101, 103, 130] ?_)))
  refine W.ret ?_
  exact q_r [1, 130] (.cons (.tmp rfl) .nil) rfl rfl rfl ⟨_, _, _, rfl, hOs, rfl⟩

set_option maxRecDepth 100000 in
set_option maxHeartbeats 400000 in
theorem rcvalid_ct (x : Cf) (H1 : PH) (hx : x.In H1) (hbo : x.o.length ≤ 400000) (hbn : x.n.length ≤ 400000) (hbl : x.l.length ≤ 400000) : Ct Tryz.prog 226 [.agg [.slice x.po x.o.length x.co, .slice x.pn x.n.length x.cn, .slice x.pl x.l.length x.cl].toArray] [H1] (fun v Hs => v = .bool (decide x.Ok) ∧ Hs = [H1]) := by
  refine Ct.body Tryz.func226 rfl Tryz.ntmps226 rfl ?_
  intro E F
  obtain ⟨ho, hn, hl⟩ := hx
  have hmo := ho.len_le
  have hmn := hn.len_le
  have hml := hl.len_le
  simp only [iz_len, maxLen] at hmo hmn hml
  refine q_sr ?_
  refine q_bx 101 fun b1 => ?_
  refine q_an ?_
  refine W.seq (W.seq ?_)
  refine W.draw (.q 0 (.q 1 (.q 3 (.q 4 (.one 2 (.one 5 (.q 6 (.q 7 (.q 8 (.q 9 (.q 11 (.q 12 (.one 10 (.one 13 (.q 14 (.q 15 (.q 16 (.q 17 (.q 18 (.q 20 (.q 21 (.one 19 (.one 22 (.q 23 (.q 24 .done))))))))))))))))))))))))) (.of [0, 101] rfl) mix (by kernel_rfl) (by kernel_rfl) (q_d rfl (q_fa fo86_0) (q_d rfl (q_l 101 u22) (q_d rfl (q_fa fo86_0) (q_d rfl (q_l 101 u22) ?_))))
  refine q_o rfl (Eff.call ent39 [1] [1, 130] (.cons rfl .nil) (rset_ct x.o _ _ _ ho (by omega)) rfl rfl rfl rfl (by rintro _ _ ⟨_, _, _, _, _, rfl⟩; rfl)) ?_
  rintro _ _ ⟨_, ⟨Ha, pa, ca, rfl, hOa, rfl⟩, rfl⟩
  refine q_o rfl (q_c ent107 [130, 1] [130, 1] (ints_ct (setL x.o) _ _ _ hOa.sl x.o _ _ _ ho)) ?_
  rintro _ _ ⟨_, ⟨rfl, rfl⟩, rfl⟩
  refine q_d rfl Yld.nt (q_d rfl q_mv ?_)
  refine' DL.or (t := 10) (d := 18) 8 rfl (.of [0, 1, 2, 3, 4, 5, 6, 7, 8, 9] rfl) (.of [0, 1, 101, 130] rfl) ?_ ?_ ?_
  rotate_left 1
  ·
   intro hg10
   refine DL.gq rfl rfl rfl (q_fa fo86_1) rfl ?_
   refine DL.gq rfl rfl rfl (q_l 101 u22) rfl ?_
   refine DL.gq rfl rfl rfl (q_fa fo86_1) rfl ?_
   refine DL.gq rfl rfl rfl (q_l 101 u22) rfl ?_
   refine DL.gone rfl rfl rfl (Eff.call ent39 [1] [1, 141] (.cons rfl .nil) (rset_ct x.n _ _ _ hn (by omega)) rfl rfl rfl rfl (by rintro _ _ ⟨_, _, _, _, _, rfl⟩; rfl)) rfl (by rintro _ _ ⟨_, ⟨Ha, pa, ca, rfl, hOa, rfl⟩, rfl⟩; repeat (first | exact .nil | refine .cons rfl ?_)) ?_
   rintro _ _ ⟨_, ⟨Ha, pa, ca, rfl, hOa, rfl⟩, rfl⟩
   refine DL.gone rfl rfl rfl (q_c ent107 [141, 1] [141, 1] (ints_ct (setL x.n) _ _ _ hOa.sl x.n _ _ _ hn)) rfl (by rintro _ _ ⟨_, ⟨rfl, rfl⟩, rfl⟩; repeat (first | exact .nil | refine .cons rfl ?_)) ?_
   rintro _ _ ⟨_, ⟨rfl, rfl⟩, rfl⟩
   refine DL.gq rfl rfl rfl Yld.nt rfl (q_d rfl Yld.pk ?_)
   exact DL.meet (.to rfl) (.to rfl)
  ·
   intro hg10
   repeat refine q_ds ?_
   refine DL.gskip1 rfl rfl rfl rfl rfl ?_
   refine DL.gskip1 rfl rfl rfl rfl rfl (q_ds ?_)
   refine q_d rfl Yld.pk ?_
   exact DL.meet (.to rfl) (.to rfl)
  refine q_d rfl q_mv ?_
  refine' DL.or (t := 19) (d := 27) 8 rfl (.of [0, 1, 2, 3, 4, 5, 6, 7, 8, 9, 18] rfl) (.of [0, 1, 101, 130] rfl) ?_ ?_ ?_
  rotate_left 1
  ·
   intro hg19
   refine DL.gq rfl rfl rfl (q_fa fo86_2) rfl ?_
   refine DL.gq rfl rfl rfl (q_l 101 u22) rfl ?_
   refine DL.gq rfl rfl rfl (q_fa fo86_2) rfl ?_
   refine DL.gq rfl rfl rfl (q_l 101 u22) rfl ?_
   refine DL.gone rfl rfl rfl (Eff.call ent39 [1] [1, 142] (.cons rfl .nil) (rset_ct x.l _ _ _ hl (by omega)) rfl rfl rfl rfl (by rintro _ _ ⟨_, _, _, _, _, rfl⟩; rfl)) rfl (by rintro _ _ ⟨_, ⟨Ha, pa, ca, rfl, hOa, rfl⟩, rfl⟩; repeat (first | exact .nil | refine .cons rfl ?_)) ?_
   rintro _ _ ⟨_, ⟨Ha, pa, ca, rfl, hOa, rfl⟩, rfl⟩
   refine DL.gone rfl rfl rfl (q_c ent107 [142, 1] [142, 1] (ints_ct (setL x.l) _ _ _ hOa.sl x.l _ _ _ hl)) rfl (by rintro _ _ ⟨_, ⟨rfl, rfl⟩, rfl⟩; repeat (first | exact .nil | refine .cons rfl ?_)) ?_
   rintro _ _ ⟨_, ⟨rfl, rfl⟩, rfl⟩
   refine DL.gq rfl rfl rfl Yld.nt rfl (q_d rfl Yld.pk ?_)
   exact DL.meet (.to rfl) (.to rfl)
  ·
   intro hg19
   repeat refine q_ds ?_
   refine DL.gskip1 rfl rfl rfl rfl rfl ?_
   refine DL.gskip1 rfl rfl rfl rfl rfl (q_ds ?_)
   refine q_d rfl Yld.pk ?_
   exact DL.meet (.to rfl) (.to rfl)
  refine DL.done (N.next (q_k [1, 27] [0, 1, 101, 130] ?_))
  refine W.cond rfl (fun hc27 => ?_) (fun hc27 => ?_)
  ·
   refine q_sr (q_an ?_)
   refine W.ret (N.then_ret ?_)
   exact q_r [1] (.cons (.tmp rfl) .nil) rfl rfl rfl ⟨by show Value.bool false = _; rw [Value.bool.injEq, eq_comm, decide_eq_false_iff_not]; rintro ⟨h1, h2, h3, _⟩; simp [h1, h2, h3] at hc27, rfl⟩
  ·
   refine W.skip (N.next (W.seq ?_))
   refine W.draw (.q 0 (.q 1 (.q 2 (.q 3 (.q 4 (.q 5 (.q 6 (.q 7 (.q 8 (.one 9 (.q 10 (.q 11 (.q 12 (.q 13 (.q 14 (.q 15 (.q 19 (.q 20 (.q 21 (.one 16 (.one 17 (.q 18 (.q 22 (.q 23 (.q 24 .done))))))))))))))))))))))))) (.of [0, 101, 130] rfl) mix (by kernel_rfl) (by kernel_rfl) (q_d rfl (q_fa fo86_0) (q_d rfl (q_l 101 u22) (q_d rfl (q_n u22) (q_d rfl (q_b BinV.gtr) (q_d rfl q_mv ?_)))))
   refine' DL.and (t := 32) (d := 39) 7 rfl (.of [1, 27, 28, 29, 30, 31] rfl) (.of [0, 1, 101, 130] rfl) ?_ ?_ ?_
   rotate_left 1
   ·
    intro hg32
    refine DL.gq rfl rfl rfl (q_fa fo86_0) rfl ?_
    refine DL.gq rfl rfl rfl (q_l 101 u22) rfl ?_
    refine DL.gq rfl rfl rfl (q_fa fo86_1) rfl ?_
    refine DL.gq rfl rfl rfl (q_l 101 u22) rfl ?_
    refine DL.gone rfl rfl rfl (q_c ent107 [1] [1] (intsS_ct x.o x.n _ _ _ _ _ ho hn)) rfl (by rintro _ _ ⟨_, ⟨rfl, rfl⟩, rfl⟩; repeat (first | exact .nil | refine .cons rfl ?_)) ?_
    rintro _ _ ⟨_, ⟨rfl, rfl⟩, rfl⟩
    refine DL.gq rfl rfl rfl Yld.nt rfl (q_d rfl Yld.pk ?_)
    exact DL.meet (.to rfl) (.to rfl)
   ·
    intro hg32
    repeat refine q_ds ?_
    refine DL.gskip1 rfl rfl rfl rfl rfl (q_ds ?_)
    refine q_d rfl Yld.pk ?_
    exact DL.meet (.to rfl) (.to rfl)
   refine q_d rfl q_mv ?_
   refine' DL.and (t := 40) (d := 51) 11 rfl (.of [1, 27, 28, 29, 30, 31, 39] rfl) (.of [0, 1, 101, 130] rfl) ?_ ?_ ?_
   rotate_left 1
   ·
    intro hg40
    refine DL.gq rfl rfl rfl (q_fa fo86_2) rfl ?_
    refine DL.gq rfl rfl rfl (q_l 101 u22) rfl ?_
    refine DL.gq rfl rfl rfl (q_lw 101 u86 sz86) rfl ?_
    refine DL.gq rfl rfl rfl (q_fa fo86_2) rfl ?_
    refine DL.gq rfl rfl rfl (q_l 101 u22) rfl ?_
    refine DL.gq rfl rfl rfl (q_n u22) rfl ?_
    refine DL.gone rfl rfl rfl (q_c ent55 [1] [1, 131] (rvoters_ct x H1 ⟨ho, hn, hl⟩ (by simp; omega))) rfl (by rintro _ _ ⟨_, ⟨Hv, pv, cv, rfl, hOv, rfl⟩, rfl⟩; repeat (first | exact .nil | refine .cons rfl ?_)) ?_
    rintro _ _ ⟨_, ⟨Hv, pv, cv, rfl, hOv, rfl⟩, rfl⟩
    refine DL.gone rfl rfl rfl (Eff.call ent299 [1, 131] [1, 131, 132] (.cons rfl (.cons rfl .nil)) (rminus_ct x.l _ _ _ hl (setL (x.o ++ x.n)) _ _ _ hOv.sl (by omega)) rfl rfl rfl rfl (by rintro _ _ ⟨_, _, _, _, _, rfl⟩; rfl)) rfl (by rintro _ _ ⟨_, ⟨Hm, pm, cm, rfl, hOm, rfl⟩, rfl⟩; repeat (first | exact .nil | refine .cons rfl ?_)) ?_
    rintro _ _ ⟨_, ⟨Hm, pm, cm, rfl, hOm, rfl⟩, rfl⟩
    refine DL.gq rfl rfl rfl (q_n u22) rfl ?_
    refine DL.gq rfl rfl rfl (q_b BinV.eql) rfl (q_d rfl Yld.pk ?_)
    exact DL.meet (.to rfl) (.to rfl)
   ·
    intro hg40
    repeat refine q_ds ?_
    refine DL.gskip1 rfl rfl rfl rfl rfl ?_
    refine DL.gskip1 rfl rfl rfl rfl rfl (q_ds ?_)
    refine q_ds ?_
    refine q_d rfl Yld.pk ?_
    exact DL.meet (.to rfl) (.to rfl)
   refine q_d rfl q_as (DL.done (N.next (q_k [2] [0, 1, 101, 130] ?_)))
   refine W.ret ?_
   exact q_r [1] (.cons (.tmp rfl) .nil) rfl rfl rfl ⟨by show Value.bool _ = _; rw [Value.bool.injEq, Bool.eq_iff_iff, decide_eq_true_eq]; simp only [Cf.Ok, Bool.and_eq_true, Bool.not_eq_true', decide_eq_true_eq, decide_eq_false_iff_not, Bool.or_eq_false_iff, Decidable.not_not, Bool.not_eq_false'] at hc27 ⊢; exact ⟨fun ⟨⟨a, b⟩, c⟩ => ⟨hc27.1.1, hc27.1.2, hc27.2, by omega, b, by omega⟩, fun ⟨_, _, _, a, b, c⟩ => ⟨⟨by omega, b⟩, by omega⟩⟩, rfl⟩

set_option maxRecDepth 100000 in
set_option maxHeartbeats 400000 in
theorem setC_ct (G : PH) (z : Int) : Ct Tryz.prog 193 [.int .i64 z] [G] (fun v Hs => v = .bool (decide (z < 1)) ∧ Hs = [G]) := by
  refine Ct.body Tryz.func193 rfl Tryz.ntmps193 rfl ?_
  intro E F
  refine q_sr (q_an ?_)
  refine q_sr (q_q q_mv (q_q (q_b BinV.lss) (q_an ?_)))
  refine W.ret ?_
  exact q_r [1] (.cons (.tmp rfl) .nil) rfl rfl rfl ⟨rfl, rfl⟩

set_option maxRecDepth 100000 in
set_option maxHeartbeats 400000 in
theorem cset_ct (ss : List (Option Addr × Nat × List Int)) (G H : PH) (q : Option Addr) (d : Nat) (hG : Sl G q d 1 (ss.map SV)) (hH : ∀ s ∈ ss, Sl H s.1 s.2.1 1 (iz s.2.2)) (hT : (catL ss).length ≤ 1000000) : Ct Tryz.prog 89 [.slice q ss.length d] [G, H] (fun v Hs => ∃ H' p' c', v = .slice p' (setL (catL ss)).length c' ∧ Own H' p' c' 3 1 (iz (setL (catL ss))) ∧ Hs = [G, H, H']) := by
  refine Ct.body Tryz.func89 rfl Tryz.ntmps89 rfl ?_
  intro E F
  refine q_sr (q_an ?_)
  refine W.seq ?_
  refine W.imp (Imp.empty _ 90) (W.region (q_q q_mv ?_))
  refine q_e (q_c ent192 [1, 2] [1, 2, 30] (concat_ct ss G H q d hG hH hT)) ?_
  rintro _ _ ⟨_, ⟨Ha, pa, ca, rfl, hOa, rfl⟩, rfl⟩
  refine q_e (q_c ent191 [30, 90] [30, 90] (deleteFunc1_ct (catL ss) _ _ _ hOa 193 [] emp (fun z => decide (z < 1)) ent193 (fun z => setC_ct emp z))) ?_
  rintro _ _ ⟨_, ⟨Hd, rfl, hOd, rfl⟩, rfl⟩
  have hfl : ((catL ss).filter fun z => !decide (z < 1)).length ≤ (catL ss).length := List.length_filter_le _ _
  refine q_an ?_
  refine q_k [3] [0, 1, 2, 30, 90] ?_
  refine q_sr (q_q q_mv ?_)
  refine q_e (Eff.call ent189 [30] [30] (.cons rfl .nil) (sort_ct _ _ _ _ hOd (by omega)) rfl rfl rfl rfl (by rintro _ _ ⟨_, _, _, rfl⟩; rfl)) ?_
  rintro _ _ ⟨_, ⟨rfl, Hs1, hOs, rfl⟩, rfl⟩
  refine q_nn (q_sr (q_q q_mv ?_))
  refine q_e (q_c ent194 [30] [30] (compact_ct _ _ _ _ _ (srt_len _).symm hOs)) ?_
  rintro _ _ ⟨_, ⟨Hc, rfl, hOc, rfl⟩, rfl⟩
  refine q_an ?_
  refine q_k [2] [0, 1, 2, 30, 90] ?_
  refine W.ret ?_
  exact q_r [1, 2, 30] (.cons (.tmp rfl) .nil) rfl rfl rfl ⟨_, _, _, rfl, hOc, rfl⟩

set_option maxRecDepth 100000 in
set_option maxHeartbeats 400000 in
theorem cvoters_ct (x : Cf) (H1 : PH) (hx : x.In H1) (hb : (x.o ++ x.n).length ≤ 1000000) : Ct Tryz.prog 163 [.agg [.slice x.po x.o.length x.co, .slice x.pn x.n.length x.cn, .slice x.pl x.l.length x.cl].toArray] [H1] (fun v Hs => ∃ H' p' c', v = .slice p' (setL (x.o ++ x.n)).length c' ∧ Own H' p' c' 3 1 (iz (setL (x.o ++ x.n))) ∧ Hs = [H1, H']) := by
  refine Ct.body Tryz.func163 rfl Tryz.ntmps163 rfl ?_
  intro E F
  obtain ⟨ho, hn, hl⟩ := hx
  have hmo := ho.len_le
  have hmn := hn.len_le
  have hml := hl.len_le
  simp only [iz_len, maxLen] at hmo hmn hml
  refine q_sr ?_
  refine q_bx 101 fun b1 => ?_
  refine q_an ?_
  refine q_sr (q_q (q_fa fo86_0) (q_q (q_l 101 u22) (q_q (q_fa fo86_1) (q_q (q_l 101 u22) ?_))))
  refine q_e (Eff.buildSlice 107 u281 sz22 zc22 rfl rfl (.cons rfl rfl (.cons rfl rfl .nil)) rfl) ?_
  rintro _ _ ⟨b7, rfl, rfl⟩
  refine q_e (Eff.call ent89 [107, 1] [107, 1, 130] (.cons rfl .nil) (cset_ct [(x.po, x.co, x.o), (x.pn, x.cn, x.n)] _ H1 _ _ (Own.mk (e := 22) (n := 1) (c := 2) [] (by intro l hl; simp only [List.map_cons, List.map_nil, List.mem_cons, List.not_mem_nil, or_false] at hl; rcases hl with rfl | rfl <;> exact ⟨rfl, by simp [SV, Value.oneCell']⟩) (by simp) (by simp [maxLen]) (by rfl) (by rfl)).sl (by intro s hs; simp only [List.mem_cons, List.not_mem_nil, or_false] at hs; rcases hs with rfl | rfl; exact ho; exact hn) (by rw [cat2]; exact hb)) rfl rfl rfl rfl (by rintro _ _ ⟨_, _, _, _, _, rfl⟩; rfl)) ?_
  rintro _ _ ⟨_, ⟨Hs1, ps, cs, rfl, hOs, rfl⟩, rfl⟩
  refine q_an ?_
  refine q_k [2] [0, 1, 101, 107, 130] ?_
  refine W.ret ?_
  exact q_r [1, 130] (.cons (.tmp rfl) .nil) rfl rfl rfl ⟨_, _, _, by rw [cat2]; rfl, by rw [cat2] at hOs; exact hOs, rfl⟩

set_option maxRecDepth 100000 in
set_option maxHeartbeats 400000 in
theorem majority_ct (l : List Int) (H1 : PH) (p : Option Addr) (c : Nat) (hl : Sl H1 p c 1 (iz l)) (f : Nat) (cap : List Value) (G1 G2 : PH) (q : Int → Bool) (hent : Ent Tryz.prog f) (hf : ∀ z : Int, Ct Tryz.prog f (.int .i64 z :: cap) [G1, G2] (fun v Hs => v = .bool (q z) ∧ Hs = [G1, G2])) (hb : l.length ≤ 1000000) : Ct Tryz.prog 367 [.slice p l.length c, .func (.func f) [].toArray cap.toArray] [H1, G1, G2] (fun v Hs => v = .bool (decide ((l.length : Int) < 2 * ((l.filter q).length : Nat))) ∧ Hs = [H1, G1, G2]) := by
  refine Ct.body Tryz.func367 rfl Tryz.ntmps367 rfl ?_
  intro E F
  have hmxl := hl.len_le
  simp only [iz_len, maxLen] at hmxl
  refine q_sr (q_an ?_)
  refine q_sr (q_an ?_)
  refine W.seq (q_sr (q_q q_mv (q_q (q_n u22) (q_q q_mv (q_nn (W.block ?_))))))
  refine W.loopK (ι := Nat) (fun j => (j ≤ l.length)) (fun j => [(5, .int .i64 (((l.take j).filter q).length : Nat)), (10, .int .i64 (j : Nat))]) (fun j => []) (fun j => l.length - j) (.of [0, 1, 8, 9] rfl) (.of [0, 1, 2, 3] rfl) 0 ?_ ?_ ?_ ?_
  · exact Nat.zero_le _
  · exact (q_a (q_a .nil))
  · exact .nil
  rintro j hj
  refine q_k [5, 10, 0, 1, 8, 9] [0, 1, 2, 3] ?_
  refine q_sr (q_q (q_b BinV.lss) (q_nn (W.seq ?_)))
  first | refine W.condD rfl (fun hc11 => ?_) (fun hc11 => ?_) | (refine W.cond rfl (fun hc11 => ?_) (fun hc11 => ?_) <;> try simp only [Bool.or_eq_true, Bool.and_eq_true, Bool.not_eq_true', Bool.not_eq_false', decide_eq_true_eq, Bool.or_eq_false_iff, Bool.and_eq_false_iff, decide_eq_false_iff_not, beq_iff_eq, beq_eq_false_iff_ne, ne_eq, Decidable.not_not] at hc11)
  ·
   obtain ⟨z, hz, hlz⟩ := iz_at (show j < l.length by omega)
   have hfl : ((l.take j).filter q).length ≤ j := Nat.le_trans (List.length_filter_le _ _) (by rw [List.length_take]; omega)
   refine W.skip (N.next (W.seq (W.block (q_sr ?_))))
   refine q_q (q_ix u22 sz3) ?_
   refine q_q (by first | exact (by first | exact q_r1 1 u3 | exact q_r1 2 u3 | exact q_r1 3 u3) | exact (by first | exact q_rF 1 0 u3 | exact q_rF 2 0 u3 | exact q_rF 3 0 u3)) ?_
   refine q_an ?_
   refine q_sr (q_q q_mv (q_q q_mv ?_))
   refine q_e (Eff.callV hent [2, 3] [2, 3] rfl (.cons rfl .nil) (hf z) rfl rfl rfl rfl (by rintro _ _ ⟨_, rfl⟩; rfl)) ?_
   rintro _ _ ⟨_, ⟨rfl, rfl⟩, rfl⟩
   refine q_nn (q_k [0, 1, 5, 8, 9, 10, 16] [0, 1, 2, 3] ?_)
   refine W.cond rfl (fun hc16 => ?_) (fun hc16 => ?_)
   ·
    refine W.region (q_q q_mv ?_)
    refine q_q q_ad (q_q q_as (RL.nil (N.block_normal (N.next (W.region ?_)))))
    refine q_q q_ad (q_q q_mv (RL.nil ?_))
    exact N.famK (j + 1) ⟨by omega, by omega⟩ (.as rfl (by rw [filter_take hz, if_pos hc16]; simp) (q_a .nil)) (.to rfl) .nil (.to rfl)
   ·
    refine W.skip (N.block_normal (N.next (W.region ?_)))
    refine q_q q_ad (q_q q_mv (RL.nil ?_))
    exact N.famK (j + 1) ⟨by omega, by omega⟩ (.as rfl (by rw [filter_take hz, if_neg (by simp [hc16])]) (q_a .nil)) (.to rfl) .nil (.to rfl)
  ·
   have hend : j = l.length := by omega
   rw [hend, List.take_length]
   have hfl : (l.filter q).length ≤ l.length := List.length_filter_le _ _
   refine W.exit (N.then_exit (N.then_exit (N.block_eq (N.next (q_k [0, 5] [0, 1, 2, 3] ?_)))))
   refine q_sr (q_q q_mv ?_)
   refine q_q q_ml (q_q q_mv (q_q (q_n u22) (q_q (q_b BinV.gtr) (q_an ?_))))
   refine q_k [4] [0, 1, 2, 3] ?_
   refine W.ret ?_
   exact q_r [1, 2, 3] (.cons (.tmp rfl) .nil) rfl rfl rfl ⟨rfl, rfl⟩

set_option maxRecDepth 100000 in
set_option maxHeartbeats 400000 in
theorem quorumC_ct (b m0 : Nat) (es : Array MapEntry) (ck : Nat) (m : List (Int × Value)) (r : List Int) (hM : MapP (fun a : Int => Value.int .i64 a) es ck m) (hr : ∀ z, (mget m z).getD (.bool false) = .bool (decide (z ∈ r))) (z : Int) : Ct Tryz.prog 366 [.int .i64 z, .pointer (some ⟨b, 0, none⟩)] [single b (.cells [.map (some m0)].toArray 172 (0, 0)), single m0 (.map es ck)] (fun v Hs => v = .bool (decide (z ∈ r)) ∧ Hs = [single b (.cells [.map (some m0)].toArray 172 (0, 0)), single m0 (.map es ck)]) := by
  refine Ct.body Tryz.func366 rfl Tryz.ntmps366 rfl ?_
  intro E F
  refine q_sr (q_an ?_)
  refine q_sr (q_q (q_l 1 u172) (q_q q_mv ?_))
  refine q_q (Yld.eq (v' := .bool (decide (z ∈ r))) (Yld.lookup (c := 2) u172 (keyInt u3) zv4 rfl rfl rfl (by assumption)) (hr z)) (q_an ?_)
  refine q_k [3] [0, 1, 2] ?_
  refine W.ret ?_
  exact q_r [1, 2] (.cons (.tmp rfl) .nil) rfl rfl rfl ⟨rfl, rfl⟩

set_option maxRecDepth 100000 in
set_option maxHeartbeats 400000 in
theorem cquorum_ct (x : Cf) (H1 : PH) (hx : x.In H1) (r : List Int) (H2 : PH) (q : Option Addr) (d : Nat) (hr : Sl H2 q d 1 (iz r)) (hbo : x.o.length ≤ 1000000) (hbn : x.n.length ≤ 1000000) : Ct Tryz.prog 328 [.agg [.slice x.po x.o.length x.co, .slice x.pn x.n.length x.cn, .slice x.pl x.l.length x.cl].toArray, .slice q r.length d] [H1, H2] (fun v Hs => v = .bool (quor x.o x.n r) ∧ Hs = [H1, H2]) := by
  refine Ct.body Tryz.func328 rfl Tryz.ntmps328 rfl ?_
  intro E F
  obtain ⟨ho, hn, hl⟩ := hx
  have hmo := ho.len_le
  have hmn := hn.len_le
  have hml := hl.len_le
  simp only [iz_len, maxLen] at hmo hmn hml
  have hmxr := hr.len_le
  simp only [iz_len, maxLen] at hmxr
  refine q_sr ?_
  refine q_bx 102 fun b2 => ?_
  refine q_an ?_
  refine q_sr ?_
  refine q_e (Eff.makeMap 109) ?_
  rintro _ _ ⟨b9, rfl, rfl⟩
  refine q_al 105 zc172 fun b5 => ?_
  refine q_s 105 sz172 ?_
  refine q_nn (W.seq (q_sr (q_q q_mv (q_q (q_n u22) (q_q q_mv (q_nn (q_k [2, 5, 10, 11, 12] [0, 1, 2, 102, 105, 109] ?_)))))))
  refine W.block ?_
  refine W.loopK (ι := QI) (fun y => (y.j ≤ r.length ∧ MapP (fun a : Int => Value.int .i64 a) y.es y.ck y.m ∧ ∀ z, (mget y.m z).getD (.bool false) = .bool (decide (z ∈ r.take y.j)))) (fun y => [(12, .int .i64 (y.j : Nat))]) (fun y => [(109, single b9 (.map y.es y.ck))]) (fun y => r.length - y.j) (.of [2, 5, 10, 11] rfl) (.of [0, 1, 2, 102, 105] rfl) ⟨0, #[], 0, []⟩ ?_ ?_ ?_ ?_
  · exact ⟨Nat.zero_le _, MapP.empty _, fun z => by simp [mget]⟩
  · exact (q_a .nil)
  · exact (.to rfl)
  rintro y ⟨hj, hM, hr⟩
  refine q_k [12, 2, 5, 10, 11] [109, 0, 1, 2, 102, 105] ?_
  refine q_sr (q_q (q_b BinV.lss) (q_nn (W.seq ?_)))
  first | refine W.condD rfl (fun hc13 => ?_) (fun hc13 => ?_) | (refine W.cond rfl (fun hc13 => ?_) (fun hc13 => ?_) <;> try simp only [Bool.or_eq_true, Bool.and_eq_true, Bool.not_eq_true', Bool.not_eq_false', decide_eq_true_eq, Bool.or_eq_false_iff, Bool.and_eq_false_iff, decide_eq_false_iff_not, beq_iff_eq, beq_eq_false_iff_ne, ne_eq, Decidable.not_not] at hc13)
  ·
   obtain ⟨z, hz, hlz⟩ := iz_at (show y.j < r.length by omega)
   refine W.skip (N.next (W.seq (W.block (q_sr ?_))))
   refine q_q (q_ix u22 sz3) ?_
   refine q_q (by first | exact (by first | exact q_r1 1 u3 | exact q_r1 2 u3 | exact q_r1 102 u3 | exact q_r1 105 u3 | exact q_r1 109 u3) | exact (by first | exact q_rF 1 0 u3 | exact q_rF 2 0 u3 | exact q_rF 102 0 u3 | exact q_rF 105 0 u3 | exact q_rF 109 0 u3)) ?_
   refine q_an ?_
   refine W.region (q_q (q_l 105 u172) (q_q q_mv ?_))
   refine RL.e0 (Eff.mapUpdate (c := 109) u172 (keyInt u3) rfl rfl rfl rfl (by assumption)) ?_
   rintro _ _ ⟨es1, ck1, hM1, rfl⟩
   refine RL.nil (N.block_normal (N.next (q_k [2, 5, 10, 11, 12] [0, 1, 2, 102, 105, 109] ?_)))
   refine W.region ?_
   refine q_q q_ad (q_q q_mv (RL.nil ?_))
   exact N.famK ⟨y.j + 1, es1, ck1, mset y.m z (.bool true)⟩ ⟨⟨by dsimp only; omega, hM1, fun w => by dsimp only; rw [mget_mset]; exact (Decidable.em (z = w)).elim (fun e => by subst e; simp [mem_take hz]) (fun e => by rw [if_neg e, hr]; simp [mem_take hz, e])⟩, by dsimp only; omega⟩ (q_a .nil) (.to rfl) (.to rfl) (.to rfl)
  ·
   have hend : y.j = r.length := by omega
   rw [hend, List.take_length] at hr
   refine W.exit (N.then_exit (N.then_exit (N.block_eq (N.next (q_k [2, 5] [0, 1, 2, 102, 105, 109] ?_)))))
   refine q_sr ?_
   refine q_q (Yld.makeFunc eval0 (eval1 rfl)) (q_an ?_)
   refine q_sr (q_q (q_fa fo86_0) (q_q (q_l 102 u22) (q_q q_mv ?_)))
   refine q_e (q_c ent367 [1, 105, 109] [1, 105, 109] (majority_ct x.o _ _ _ ho 366 [.pointer (some ⟨b5, 0, none⟩)] _ _ (fun z => decide (z ∈ r)) ent366 (fun z => quorumC_ct b5 b9 y.es y.ck y.m r hM hr z) hbo)) ?_
   rintro _ _ ⟨_, ⟨rfl, rfl⟩, rfl⟩
   refine q_q q_mv ?_
   refine' q_and 24 35 11 [2, 5, 8, 19, 20, 21, 22, 23] [0, 1, 2, 102, 105, 109] ?_ ?_ ?_
   rotate_left 1
   ·
    intro hg24
    refine q_g (q_fa fo86_1) (q_g (q_l 102 u22) (q_g (q_n u22) (q_g (q_b BinV.eql) (q_g q_mv ?_))))
    refine' q_or 29 34 5 [2, 5, 8, 19, 20, 21, 22, 23, 24, 25, 26, 27, 28] [0, 1, 2, 102, 105, 109] ?_ ?_ ?_
    rotate_left 1
    ·
     intro hg29
     refine q_g (q_fa fo86_1) (q_g (q_l 102 u22) (q_g q_mv ?_))
     refine RL.ge rfl rfl (q_c ent367 [1, 105, 109] [1, 105, 109] (majority_ct x.n _ _ _ hn 366 [.pointer (some ⟨b5, 0, none⟩)] _ _ (fun z => decide (z ∈ r)) ent366 (fun z => quorumC_ct b5 b9 y.es y.ck y.m r hM hr z) hbn)) rfl ?_
     rintro _ _ ⟨_, ⟨rfl, rfl⟩, rfl⟩
     refine q_g Yld.pk ?_
     exact q_m
    ·
     intro hg29
     repeat refine q_gs ?_
     refine q_g Yld.pk ?_
     exact q_m
    refine q_q Yld.pk ?_
    exact q_m
   ·
    intro hg24
    repeat refine q_gs ?_
    refine RL.gskipU rfl rfl rfl ?_
    refine RL.gskipU rfl rfl rfl ?_
    refine RL.gskipU rfl rfl rfl ?_
    refine RL.gskipU rfl rfl rfl (q_gs (q_q Yld.pk ?_))
    exact q_m
   refine q_an ?_
   refine q_k [4] [0, 1, 2, 102, 105, 109] ?_
   refine W.ret ?_
   exact q_r [1, 2] (.cons (.tmp rfl) .nil) rfl rfl rfl ⟨by show Value.bool _ = _; unfold quor maj; congr 2; congr 1; rw [Bool.eq_iff_iff, decide_eq_true_eq, decide_eq_true_eq]; omega, rfl⟩

end Go.Proofs.YtnakhfmnchmhjaaGreat
/-
  A store of what lies there already: the piece stays as it was.
-/
namespace Go.Proofs.YtnakhfmnchmhjaaGreat.SL
set_option linter.unusedVariables false
variable {X : Cx} {σ : Loc} {L : Sh} {ty T : TypeId} {x y : Operand}
theorem Eff.storeRowSame {p : Option Addr} {c e m j i tc k : Nat} {H : PH} {ls : List (List Value)} {l vs : List Value} {v : Value} (hn : sz X.P T k) (hx : ev σ x = some (.pointer (some ⟨(rowAt p (i * m)).block, (rowAt p (i * m)).off + j, none⟩))) (hy : ev σ y = some v) (hL : lk L tc = some H)
    (hO : Own H p c e m ls) (hl : ls[i]? = some l) (hv : v.cells = vs.toArray) (hvl : vs.length = k) (hj : Nat.ble (j + k) m = true) (h1 : vs.all (·.oneCell') = true) (hl' : putAt l j vs = l) :
    Eff X (.store T x y) ty σ L (fun _ L' => L' = L) := by
  have hjm := Nat.le_of_ble_eq_true hj
  obtain ⟨o1, o2, o3, o4⟩ := hO
  have hi := (List.getElem?_eq_some_iff.1 hl).1
  have hlen := (o1 l (List.mem_of_getElem? hl)).1
  cases p with
  | none => obtain ⟨rfl, _⟩ := o4; simp at hl
  | some a =>
    obtain ⟨a1, a2, sp, rfl, a4⟩ := o4
    have hput := flat_put (m := m) (sp := sp) (j := j) (vs := vs) (by omega) ls i l (fun l h => (o1 l h).1) hl
    have hsame : ls.set i l = ls := by
      apply List.ext_getElem?
      intro q
      rw [List.getElem?_set]
      by_cases e : i = q
      · subst e; rw [if_pos rfl, if_pos hi, hl]
      · rw [if_neg e]
    rw [hl', hsame] at hput
    have hflat := flatten_length (ls := ls) (n := m) (fun l h => (o1 l h).1)
    have hle : i * m + j + k ≤ (ls.flatten ++ sp).length := by
      rw [List.length_append, hflat]
      have : (i + 1) * m ≤ ls.length * m := Nat.mul_le_mul_right m hi
      rw [Nat.succ_mul] at this; omega
    have e0 : (rowAt (some a) (i * m)).off + j = i * m + j := by simp [a1]
    have := Eff.storeS (X := X) (σ := σ) (L := L) (ty := ty) (T := T) (x := x) (y := y) (b := a.block) (o := i * m + j) vs hn (by rw [hx]; simp [a1]) hy hL hv hvl (by rw [Nat.ble_eq]; exact hle) h1 hput
    refine fun a' w ha hm o ho ht K Q hK => this a' w ha hm o ho ht K Q ?_
    rintro u L' w' rfl hm'
    refine hK u _ w' rfl (hm'.weak fun q z hq => ?_)
    rw [lk_cons]
    split
    · rename_i e'; subst e'; rw [hL] at hq; exact hq
    · exact hq
end Go.Proofs.YtnakhfmnchmhjaaGreat.SL
/-
  Maps that are nil: held against nil, ranged over.
-/
namespace Go.Proofs.YtnakhfmnchmhjaaGreat.SL
set_option linter.unusedVariables false
section
variable {X : Cx} {σ : Loc} {L : Sh} {ty T : TypeId} {x y : Operand}
theorem BinV.eqlMN {P : Program} {T k e : TypeId} {r : Option Nat} (h : P.underlying T = some (.map k e)) : BinV P .eql T (.map r) (.map none) (.bool r.isNone) := fun w p q => by
  rw [Sem.run_bind, eqGuard_at_map]
  simpa using run_eql_map_nil w T k e r h
theorem BinV.neqMN {P : Program} {T k e : TypeId} {r : Option Nat} (h : P.underlying T = some (.map k e)) : BinV P .neq T (.map r) (.map none) (.bool r.isSome) := fun w p q => by
  rw [Sem.run_bind, eqGuard_at_map]
  cases r with
  | none => simpa using run_neq_map_nil w T k e none h
  | some b => simpa using run_neq_map_nil w T k e (some b) h
theorem Eff.rangeNil {kt e : Nat} (c' : Nat) (ht : X.P.underlying T = some (.map kt e)) (hx : ev σ x = some (.map none)) :
    Eff X (.range T x) ty σ L (fun v L' => ∃ r, v = .pointer (some ⟨r, 0, none⟩) ∧ L' = (c', single r (.mapIter none 0 #[] 0)) :: L) :=
  Eff.val (fun ρ => Instr.range T (ρ x)) (fun ρ o ho => by simp [execOp, ho]) fun a w ha hm => by
    rw [ha.ev hx]
    refine ⟨_, _, _, ?_, ⟨w.heap.size, rfl, rfl⟩, hm.alloc c' _⟩
    simp [Instr.range, run_underlying ht, newObj]
    rfl
theorem Eff.nextNil {c2 r : Nat} (hx : ev σ x = some (.pointer (some ⟨r, 0, none⟩))) (hL2 : lk L c2 = some (single r (.mapIter none 0 #[] 0))) :
    Eff X (.next x false) ty σ L (fun v L' => v = .tuple [.bool false].toArray ∧ L' = L) := fun a w ha hm o ho hty K Q hK => by
  have hr := hm.sub c2 _ hL2 r _ (single_self _ _)
  have hexec : (execOp a.eval o).run X.P w = .ok (.value (.tuple [.bool false].toArray)) w := by
    simp only [execOp, ho, ha.ev hx, Sem.run_bind]
    have : (Instr.next (.pointer (some ⟨r, 0, none⟩)) false o.type).run X.P w = .ok (.tuple #[.bool false]) w := by
      have hg : (getObj r).run X.P w = .ok (.mapIter none 0 #[] 0) w := by simp [getObj, Sem.run, hr]
      simp only [Instr.next, Sem.run_bind, hg]
      rfl
    rw [this]; rfl
  unfold Oper.wp
  rw [hexec]
  exact hK _ L w ⟨rfl, rfl⟩ hm
end
end Go.Proofs.YtnakhfmnchmhjaaGreat.SL
/-
  Pieces that become one, with what is known of both; contracts out of contracts on worlds.
-/
namespace Go.Proofs.YtnakhfmnchmhjaaGreat.SL
set_option linter.unusedVariables false
section
variable {X : Cx} {Q : Exit → Act → World → Prop} {σ : Loc} {L : Sh}
theorem Mem.apart {E : Env} {w : World} (hm : Mem E L w) {c c' : Nat} {G K : PH} (hG : lk L c = some G) (hK : lk L c' = some K) (hne : Nat.beq c' c = false) : ∀ b o, K b = some o → hjoin G K b = some o := fun b o h => by
  have hcc : c ≠ c' := fun e => by subst e; simp at hne
  unfold hjoin
  cases hg : G b with
  | none => exact h
  | some o' => exact (hm.dis c c' G K hcc hG hK b o' o hg h).elim
theorem hjoin_l {G K : PH} : ∀ b o, G b = some o → hjoin G K b = some o := fun b o h => by unfold hjoin; rw [h]
theorem N.merge {e : Exit} (c c' : Nat) {G K : PH} (hG : lk L c = some G) (hK : lk L c' = some K) (hne : Nat.beq c' c = false) (h : (∀ b o, K b = some o → hjoin G K b = some o) → N X Q e σ ((c, hjoin G K) :: (c', emp) :: L)) : N X Q e σ L :=
  fun a w ha hm => h (hm.apart hG hK hne) a w ha (Imp.merge hG hK hne _ _ hm)
theorem W.merge {y : Code} (c c' : Nat) {G K : PH} (hG : lk L c = some G) (hK : lk L c' = some K) (hne : Nat.beq c' c = false) (h : (∀ b o, K b = some o → hjoin G K b = some o) → W X y Q σ ((c, hjoin G K) :: (c', emp) :: L)) : W X y Q σ L :=
  fun a w ha hm => h (hm.apart hG hK hne) a w ha (Imp.merge hG hK hne _ _ hm)
end
/-- behind a call that turns nothing -/
theorem Mem.below {E : Env} {L : Sh} {w w' : World} (hm : Mem E L w) (h1 : w'.os = w.os) (h2 : w'.output = w.output) (h3 : w.heap.size ≤ w'.heap.size) (h4 : ∀ k, k < w.heap.size → w'.heap[k]? = w.heap[k]?) : Mem E L w' :=
  ⟨h1.trans hm.os, h2.trans hm.out, fun c H hc b o hb => by rw [h4 b (PH.sub_lt (hm.sub c H hc) hb)]; exact hm.sub c H hc b o hb, hm.dis⟩
end Go.Proofs.YtnakhfmnchmhjaaGreat.SL
/- More contracts of package config. Written by program (walk2.py). -/
namespace Go.Proofs.YtnakhfmnchmhjaaGreat
open SL Cfg
set_option linter.unusedVariables false
set_option linter.unusedSimpArgs false
theorem ent232 : Ent Tryz.prog 232 := ⟨_, _, Tryz.func232, by kernel_rfl, rfl⟩
theorem ent161 : Ent Tryz.prog 161 := ⟨_, _, Tryz.func161, by kernel_rfl, rfl⟩
theorem ent330 : Ent Tryz.prog 330 := ⟨_, _, Tryz.func330, by kernel_rfl, rfl⟩
theorem ent90 : Ent Tryz.prog 90 := ⟨_, _, Tryz.func90, by kernel_rfl, rfl⟩
theorem ent266 : Ent Tryz.prog 266 := ⟨_, _, Tryz.func266, by kernel_rfl, rfl⟩
theorem ent163 : Ent Tryz.prog 163 := ⟨_, _, Tryz.func163, by kernel_rfl, rfl⟩
theorem ent274 : Ent Tryz.prog 274 := ⟨_, _, Tryz.func274, by kernel_rfl, rfl⟩
set_option maxRecDepth 100000 in
set_option maxHeartbeats 400000 in
theorem index_ct (l : List Int) (H1 : PH) (p : Option Addr) (c : Nat) (hl : Sl H1 p c 1 (iz l)) (a : Int) : Ct Tryz.prog 232 [.slice p l.length c, .int .i64 a] [H1] (fun v Hs => (∃ r : Int, v = .int .i64 r ∧ (0 ≤ r ↔ a ∈ l)) ∧ Hs = [H1]) := by
  refine Ct.body Tryz.func232 rfl Tryz.ntmps232 rfl ?_
  intro E F
  have hmxl := hl.len_le
  simp only [iz_len, maxLen] at hmxl
  refine q_sr (q_an ?_)
  refine W.seq (q_sr (q_q q_mv (q_q (q_n u22) (q_q q_mv (q_nn (W.block ?_))))))
  refine W.loopK (ι := Nat) (fun j => (j ≤ l.length ∧ ∀ (i : Nat) z, i < j → l[i]? = some z → a ≠ z)) (fun j => [(8, .int .i64 (j : Nat))]) (fun j => []) (fun j => l.length - j) (.of [0, 1, 7] rfl) (.of [0, 1] rfl) 0 ?_ ?_ ?_ ?_
  · exact ⟨Nat.zero_le _, upto0⟩
  · exact (q_a .nil)
  · exact .nil
  rintro j ⟨hj, hI⟩
  refine q_k [8, 0, 1, 7] [0, 1] ?_
  refine q_sr (q_q (q_b BinV.lss) (q_nn (W.seq ?_)))
  first | refine W.condD rfl (fun hc9 => ?_) (fun hc9 => ?_) | (refine W.cond rfl (fun hc9 => ?_) (fun hc9 => ?_) <;> try simp only [Bool.or_eq_true, Bool.and_eq_true, Bool.not_eq_true', Bool.not_eq_false', decide_eq_true_eq, Bool.or_eq_false_iff, Bool.and_eq_false_iff, decide_eq_false_iff_not, beq_iff_eq, beq_eq_false_iff_ne, ne_eq, Decidable.not_not] at hc9)
  ·
   obtain ⟨z, hz, hlz⟩ := iz_at (show j < l.length by omega)
   refine W.skip (N.next (W.seq (W.block (q_sr (q_q q_mv (q_an ?_))))))
   refine q_sr (q_q q_mv (q_q q_mv (q_q q_mv ?_)))
   refine q_q (q_ix u22 sz3) ?_
   refine q_q (by first | exact (q_r1 1 u3) | exact (q_rF 1 0 u3)) ?_
   refine q_q (q_b BinV.eql) (q_nn (q_k [0, 1, 5, 7, 8, 16] [0, 1] ?_))
   first | refine W.condD rfl (fun hc16 => ?_) (fun hc16 => ?_) | (refine W.cond rfl (fun hc16 => ?_) (fun hc16 => ?_) <;> try simp only [Bool.or_eq_true, Bool.and_eq_true, Bool.not_eq_true', Bool.not_eq_false', decide_eq_true_eq, Bool.or_eq_false_iff, Bool.and_eq_false_iff, decide_eq_false_iff_not, beq_iff_eq, beq_eq_false_iff_ne, ne_eq, Decidable.not_not] at hc16)
   ·
    refine q_sr (q_q q_mv (q_an ?_))
    refine q_k [4] [0, 1] ?_
    refine W.ret (N.block_ret (N.then_ret (N.then_ret (N.block_ret (N.then_ret ?_)))))
    exact q_r [1] (.cons (.tmp rfl) .nil) rfl rfl rfl ⟨⟨_, rfl, ⟨fun _ => by rw [hc16]; exact List.mem_of_getElem? hz, fun _ => by omega⟩⟩, rfl⟩
   ·
    refine W.skip (N.block_normal (N.next (W.region ?_)))
    refine q_q q_ad (q_q q_mv (RL.nil ?_))
    exact N.famK (j + 1) ⟨⟨by omega, upto hI hz hc16⟩, by omega⟩ (q_a .nil) (.to rfl) .nil (.to rfl)
  ·
   refine W.exit (N.then_exit (N.then_exit (N.block_eq (N.next ?_))))
   refine W.keep .nil (.of [0, 1] rfl) (q_sr (q_an ?_))
   refine W.ret ?_
   exact q_r [1] (.cons (.tmp rfl) .nil) rfl rfl rfl ⟨⟨_, rfl, ⟨fun h => absurd h (by omega), fun h => by obtain ⟨i, hi⟩ := List.getElem?_of_mem h; exact absurd rfl (hI i a (by have := (List.getElem?_eq_some_iff.1 hi).1; omega) hi)⟩⟩, rfl⟩

set_option maxRecDepth 100000 in
set_option maxHeartbeats 400000 in
theorem contains_ct (l : List Int) (H1 : PH) (p : Option Addr) (c : Nat) (hl : Sl H1 p c 1 (iz l)) (a : Int) : Ct Tryz.prog 161 [.slice p l.length c, .int .i64 a] [H1] (fun v Hs => v = .bool (decide (a ∈ l)) ∧ Hs = [H1]) := by
  refine Ct.body Tryz.func161 rfl Tryz.ntmps161 rfl ?_
  intro E F
  refine q_sr (q_an ?_)
  refine q_sr (q_q q_mv (q_q q_mv ?_))
  refine q_e (q_c ent232 [1] [1] (index_ct l _ _ _ hl a)) ?_
  rintro _ _ ⟨_, ⟨⟨r, rfl, hr⟩, rfl⟩, rfl⟩
  refine q_q (q_b BinV.geq) (q_an ?_)
  refine q_k [4] [0, 1] ?_
  refine W.ret ?_
  exact q_r [1] (.cons (.tmp rfl) .nil) rfl rfl rfl ⟨by show Value.bool _ = _; congr 1; exact decide_eq_decide.2 hr, rfl⟩

set_option maxRecDepth 100000 in
set_option maxHeartbeats 400000 in
theorem cloneI_ct (l : List Int) (H1 : PH) (p : Option Addr) (c : Nat) (hl : Sl H1 p c 1 (iz l)) (hb : l.length ≤ 1000000) : Ct Tryz.prog 90 [.slice p l.length c] [H1] (fun v Hs => ∃ H' p' c', v = .slice p' l.length c' ∧ Own H' p' c' 3 1 (iz l) ∧ Hs = [H1, H']) := by
  refine Ct.body Tryz.func90 rfl Tryz.ntmps90 rfl ?_
  intro E F
  have hmxl := hl.len_le
  simp only [iz_len, maxLen] at hmxl
  refine W.seq ?_
  refine W.imp (Imp.empty _ 30) (W.region (q_an ?_))
  refine W.seq (q_sr (q_q q_mv ?_))
  refine q_q (Yld.bin rfl rfl (BinV.eqlSN u22)) (q_nn ?_)
  refine W.cond rfl (fun hc4 => ?_) (fun hc4 => ?_)
  ·
   obtain rfl : p = none := by cases p with | none => rfl | some a => cases hc4
   obtain ⟨hl0, _⟩ := hl
   obtain rfl : l = [] := List.map_eq_nil_iff.1 hl0
   refine q_sr (q_an ?_)
   refine W.ret (N.then_ret ?_)
   exact q_r [1, 30] (.cons (.tmp rfl) .nil) rfl rfl rfl ⟨emp, none, 0, rfl, Own.nil _ _, rfl⟩
  ·
   refine W.skip (N.next (q_sr ?_))
   refine q_e (Eff.buildSlice 105 u22 sz3 zc3 rfl rfl .nil rfl) ?_
   rintro _ _ ⟨b5, rfl, rfl⟩
   refine q_q q_mv ?_
   refine q_e (Eff.appendE (tc := 105) (sc := 1) (fun z : Int => [Value.int .i64 z]) u22 el3 rfl rfl rfl rfl (iz_none rfl) rfl hl rfl (iz_one1 _) (by decide) (by first | (simp; done) | (simp; omega)) (by first | (simp [maxLen]; done) | (simp [maxLen]; omega))) ?_
   rintro _ _ ⟨Ha, pa, ca, rfl, hOa, rfl⟩
   refine q_an ?_
   refine q_k [2] [0, 1, 30, 105] ?_
   refine W.ret ?_
   exact q_r [1, 105] (.cons (.tmp rfl) .nil) rfl rfl rfl ⟨Ha, pa, ca, rfl, hOa, rfl⟩

set_option maxRecDepth 100000 in
set_option maxHeartbeats 400000 in
theorem equal_ct (l : List Int) (H1 : PH) (p : Option Addr) (c : Nat) (hl : Sl H1 p c 1 (iz l)) (m : List Int) (H2 : PH) (q : Option Addr) (d : Nat) (hm : Sl H2 q d 1 (iz m)) : Ct Tryz.prog 266 [.slice p l.length c, .slice q m.length d] [H1, H2] (fun v Hs => v = .bool (decide (l = m)) ∧ Hs = [H1, H2]) := by
  refine Ct.body Tryz.func266 rfl Tryz.ntmps266 rfl ?_
  intro E F
  have hmxl := hl.len_le
  simp only [iz_len, maxLen] at hmxl
  have hmxm := hm.len_le
  simp only [iz_len, maxLen] at hmxm
  refine q_sr (q_an ?_)
  refine W.seq (q_sr (q_q q_mv (q_q (q_n u22) (q_q q_mv (q_q (q_n u22) (q_q (q_b BinV.neq) (q_nn (q_k [0, 1, 10] [0, 1, 2] ?_))))))))
  first | refine W.condD rfl (fun hc10 => ?_) (fun hc10 => ?_) | (refine W.cond rfl (fun hc10 => ?_) (fun hc10 => ?_) <;> try simp only [Bool.or_eq_true, Bool.and_eq_true, Bool.not_eq_true', Bool.not_eq_false', decide_eq_true_eq, Bool.or_eq_false_iff, Bool.and_eq_false_iff, decide_eq_false_iff_not, beq_iff_eq, beq_eq_false_iff_ne, ne_eq, Decidable.not_not] at hc10)
  ·
   refine q_sr (q_an ?_)
   refine W.ret (N.then_ret ?_)
   exact q_r [1, 2] (.cons (.tmp rfl) .nil) rfl rfl rfl ⟨by rw [decide_eq_false (by rintro rfl; exact hc10 rfl)]; rfl, rfl⟩
  ·
   refine W.skip (N.next (W.seq (q_sr (q_q q_mv (q_q (q_n u22) (q_q q_mv (q_nn (W.block ?_))))))))
   refine W.loopK (ι := Nat) (fun j => (j ≤ l.length ∧ ∀ i : Nat, i < j → l[i]? = m[i]?)) (fun j => [(13, .int .i64 (j : Nat))]) (fun j => []) (fun j => l.length - j) (.of [0, 1, 12] rfl) (.of [0, 1, 2] rfl) 0 ?_ ?_ ?_ ?_
   · exact ⟨Nat.zero_le _, fun _ h => absurd h (Nat.not_lt_zero _)⟩
   · exact (q_a .nil)
   · exact .nil
   rintro j ⟨hj, hI⟩
   refine q_k [13, 0, 1, 12] [0, 1, 2] ?_
   refine q_sr (q_q (q_b BinV.lss) (q_nn (W.seq ?_)))
   first | refine W.condD rfl (fun hc14 => ?_) (fun hc14 => ?_) | (refine W.cond rfl (fun hc14 => ?_) (fun hc14 => ?_) <;> try simp only [Bool.or_eq_true, Bool.and_eq_true, Bool.not_eq_true', Bool.not_eq_false', decide_eq_true_eq, Bool.or_eq_false_iff, Bool.and_eq_false_iff, decide_eq_false_iff_not, beq_iff_eq, beq_eq_false_iff_ne, ne_eq, Decidable.not_not] at hc14)
   ·
    obtain ⟨a, ha, hla⟩ := iz_at (show j < l.length by omega)
    obtain ⟨b, hb, hlb⟩ := iz_at (show j < m.length by omega)
    refine W.skip (N.next (W.seq (W.block (q_sr (q_q q_mv (q_an ?_))))))
    refine W.seq ?_
    refine W.draw (.q 0 (.q 1 (.q 2 (.q 3 (.q 4 (.q 5 (.q 6 (.q 7 (.q 8 .done))))))))) (.of [0, 1, 2] rfl) mix (by kernel_rfl) (by kernel_rfl) (q_d rfl q_mv (q_d rfl q_mv ?_))
    refine q_d rfl (Yld.indexRow u22 sz3 rfl rfl hl (by first | rfl | omega | (simp; done) | (simp; omega)) (by omega) (by first | omega | (simp; done) | (simp; omega))) ?_
    refine q_d rfl (Yld.loadRow1 (cl := 1) u3 rfl rfl rfl hl hla) (q_d rfl q_mv (q_d rfl q_mv ?_))
    refine q_d rfl (Yld.indexRow u22 sz3 rfl rfl hm (by first | rfl | omega | (simp; done) | (simp; omega)) (by omega) (by first | omega | (simp; done) | (simp; omega))) ?_
    refine q_d rfl (Yld.loadRow1 (cl := 2) u3 rfl rfl rfl hm hlb) (q_d rfl (q_b BinV.neq) (DL.done (N.next (q_k [0, 1, 12, 13, 24] [0, 1, 2] ?_))))
    first | refine W.condD rfl (fun hc24 => ?_) (fun hc24 => ?_) | (refine W.cond rfl (fun hc24 => ?_) (fun hc24 => ?_) <;> try simp only [Bool.or_eq_true, Bool.and_eq_true, Bool.not_eq_true', Bool.not_eq_false', decide_eq_true_eq, Bool.or_eq_false_iff, Bool.and_eq_false_iff, decide_eq_false_iff_not, beq_iff_eq, beq_eq_false_iff_ne, ne_eq, Decidable.not_not] at hc24)
    ·
     refine q_sr (q_an ?_)
     refine q_k [4] [0, 1, 2] ?_
     refine W.ret (N.block_ret (N.then_ret (N.then_ret (N.block_ret (N.then_ret ?_)))))
     exact q_r [1, 2] (.cons (.tmp rfl) .nil) rfl rfl rfl ⟨by rw [decide_eq_false (by rintro rfl; rw [ha] at hb; cases hb; exact hc24 rfl)]; rfl, rfl⟩
    ·
     refine W.skip (N.block_normal (N.next (W.region ?_)))
     refine q_q q_ad (q_q q_mv (RL.nil ?_))
     exact N.famK (j + 1) ⟨⟨by omega, fun i hi => (Nat.lt_succ_iff_lt_or_eq.1 hi).elim (hI i) (fun e => by subst e; rw [ha, hb]; congr 1; omega)⟩, by omega⟩ (q_a .nil) (.to rfl) .nil (.to rfl)
   ·
    refine W.exit (N.then_exit (N.then_exit (N.block_eq (N.next ?_))))
    refine W.keep .nil (.of [0, 1, 2] rfl) (q_sr (q_an ?_))
    refine W.ret ?_
    exact q_r [1, 2] (.cons (.tmp rfl) .nil) rfl rfl rfl ⟨by rw [decide_eq_true (eq_of_get (by omega) fun i hi => hI i (by omega))]; rfl, rfl⟩

set_option maxRecDepth 100000 in
set_option maxHeartbeats 400000 in
theorem equalS_ct (l : List Int) (H1 : PH) (p : Option Addr) (c : Nat) (hl : Sl H1 p c 1 (iz l)) (m : List Int) (q : Option Addr) (d : Nat) (hm : Sl H1 q d 1 (iz m)) : Ct Tryz.prog 266 [.slice p l.length c, .slice q m.length d] [H1] (fun v Hs => v = .bool (decide (l = m)) ∧ Hs = [H1]) := by
  refine Ct.body Tryz.func266 rfl Tryz.ntmps266 rfl ?_
  intro E F
  have hmxl := hl.len_le
  simp only [iz_len, maxLen] at hmxl
  have hmxm := hm.len_le
  simp only [iz_len, maxLen] at hmxm
  refine q_sr (q_an ?_)
  refine W.seq (q_sr (q_q q_mv (q_q (q_n u22) (q_q q_mv (q_q (q_n u22) (q_q (q_b BinV.neq) (q_nn (q_k [0, 1, 10] [0, 1] ?_))))))))
  first | refine W.condD rfl (fun hc10 => ?_) (fun hc10 => ?_) | (refine W.cond rfl (fun hc10 => ?_) (fun hc10 => ?_) <;> try simp only [Bool.or_eq_true, Bool.and_eq_true, Bool.not_eq_true', Bool.not_eq_false', decide_eq_true_eq, Bool.or_eq_false_iff, Bool.and_eq_false_iff, decide_eq_false_iff_not, beq_iff_eq, beq_eq_false_iff_ne, ne_eq, Decidable.not_not] at hc10)
  ·
   refine q_sr (q_an ?_)
   refine W.ret (N.then_ret ?_)
   exact q_r [1] (.cons (.tmp rfl) .nil) rfl rfl rfl ⟨by rw [decide_eq_false (by rintro rfl; exact hc10 rfl)]; rfl, rfl⟩
  ·
   refine W.skip (N.next (W.seq (q_sr (q_q q_mv (q_q (q_n u22) (q_q q_mv (q_nn (W.block ?_))))))))
   refine W.loopK (ι := Nat) (fun j => (j ≤ l.length ∧ ∀ i : Nat, i < j → l[i]? = m[i]?)) (fun j => [(13, .int .i64 (j : Nat))]) (fun j => []) (fun j => l.length - j) (.of [0, 1, 12] rfl) (.of [0, 1] rfl) 0 ?_ ?_ ?_ ?_
   · exact ⟨Nat.zero_le _, fun _ h => absurd h (Nat.not_lt_zero _)⟩
   · exact (q_a .nil)
   · exact .nil
   rintro j ⟨hj, hI⟩
   refine q_k [13, 0, 1, 12] [0, 1] ?_
   refine q_sr (q_q (q_b BinV.lss) (q_nn (W.seq ?_)))
   first | refine W.condD rfl (fun hc14 => ?_) (fun hc14 => ?_) | (refine W.cond rfl (fun hc14 => ?_) (fun hc14 => ?_) <;> try simp only [Bool.or_eq_true, Bool.and_eq_true, Bool.not_eq_true', Bool.not_eq_false', decide_eq_true_eq, Bool.or_eq_false_iff, Bool.and_eq_false_iff, decide_eq_false_iff_not, beq_iff_eq, beq_eq_false_iff_ne, ne_eq, Decidable.not_not] at hc14)
   ·
    obtain ⟨a, ha, hla⟩ := iz_at (show j < l.length by omega)
    obtain ⟨b, hb, hlb⟩ := iz_at (show j < m.length by omega)
    refine W.skip (N.next (W.seq (W.block (q_sr (q_q q_mv (q_an ?_))))))
    refine W.seq ?_
    refine W.draw (.q 0 (.q 1 (.q 2 (.q 3 (.q 4 (.q 5 (.q 6 (.q 7 (.q 8 .done))))))))) (.of [0, 1] rfl) mix (by kernel_rfl) (by kernel_rfl) (q_d rfl q_mv (q_d rfl q_mv ?_))
    refine q_d rfl (Yld.indexRow u22 sz3 rfl rfl hl (by first | rfl | omega | (simp; done) | (simp; omega)) (by omega) (by first | omega | (simp; done) | (simp; omega))) ?_
    refine q_d rfl (Yld.loadRow1 (cl := 1) u3 rfl rfl rfl hl hla) (q_d rfl q_mv (q_d rfl q_mv ?_))
    refine q_d rfl (Yld.indexRow u22 sz3 rfl rfl hm (by first | rfl | omega | (simp; done) | (simp; omega)) (by omega) (by first | omega | (simp; done) | (simp; omega))) ?_
    refine q_d rfl (Yld.loadRow1 (cl := 1) u3 rfl rfl rfl hm hlb) (q_d rfl (q_b BinV.neq) (DL.done (N.next (q_k [0, 1, 12, 13, 24] [0, 1] ?_))))
    first | refine W.condD rfl (fun hc24 => ?_) (fun hc24 => ?_) | (refine W.cond rfl (fun hc24 => ?_) (fun hc24 => ?_) <;> try simp only [Bool.or_eq_true, Bool.and_eq_true, Bool.not_eq_true', Bool.not_eq_false', decide_eq_true_eq, Bool.or_eq_false_iff, Bool.and_eq_false_iff, decide_eq_false_iff_not, beq_iff_eq, beq_eq_false_iff_ne, ne_eq, Decidable.not_not] at hc24)
    ·
     refine q_sr (q_an ?_)
     refine q_k [4] [0, 1] ?_
     refine W.ret (N.block_ret (N.then_ret (N.then_ret (N.block_ret (N.then_ret ?_)))))
     exact q_r [1] (.cons (.tmp rfl) .nil) rfl rfl rfl ⟨by rw [decide_eq_false (by rintro rfl; rw [ha] at hb; cases hb; exact hc24 rfl)]; rfl, rfl⟩
    ·
     refine W.skip (N.block_normal (N.next (W.region ?_)))
     refine q_q q_ad (q_q q_mv (RL.nil ?_))
     exact N.famK (j + 1) ⟨⟨by omega, fun i hi => (Nat.lt_succ_iff_lt_or_eq.1 hi).elim (hI i) (fun e => by subst e; rw [ha, hb]; congr 1; omega)⟩, by omega⟩ (q_a .nil) (.to rfl) .nil (.to rfl)
   ·
    refine W.exit (N.then_exit (N.then_exit (N.block_eq (N.next ?_))))
    refine W.keep .nil (.of [0, 1] rfl) (q_sr (q_an ?_))
    refine W.ret ?_
    exact q_r [1] (.cons (.tmp rfl) .nil) rfl rfl rfl ⟨by rw [decide_eq_true (eq_of_get (by omega) fun i hi => hI i (by omega))]; rfl, rfl⟩

set_option maxRecDepth 100000 in
set_option maxHeartbeats 400000 in
theorem minusC_ct (b : Nat) (m : List Int) (H2 : PH) (q : Option Addr) (d : Nat) (hm : Sl H2 q d 1 (iz m)) (z : Int) : Ct Tryz.prog 330 [.int .i64 z, .pointer (some ⟨b, 0, none⟩)] [single b (.cells [.slice q m.length d].toArray 22 (0, 0)), H2] (fun v Hs => v = .bool (decide (z ∈ m)) ∧ Hs = [single b (.cells [.slice q m.length d].toArray 22 (0, 0)), H2]) := by
  refine Ct.body Tryz.func330 rfl Tryz.ntmps330 rfl ?_
  intro E F
  refine q_sr (q_an ?_)
  refine q_sr (q_q (q_l 1 u22) (q_q q_mv ?_))
  refine q_e (q_c ent161 [2] [2] (contains_ct m _ _ _ hm z)) ?_
  rintro _ _ ⟨_, ⟨rfl, rfl⟩, rfl⟩
  refine q_an ?_
  refine q_k [3] [0, 1, 2] ?_
  refine W.ret ?_
  exact q_r [1, 2] (.cons (.tmp rfl) .nil) rfl rfl rfl ⟨rfl, rfl⟩

set_option maxRecDepth 100000 in
set_option maxHeartbeats 400000 in
theorem cminus_ct (l : List Int) (H1 : PH) (p : Option Addr) (c : Nat) (hl : Sl H1 p c 1 (iz l)) (m : List Int) (H2 : PH) (q : Option Addr) (d : Nat) (hm : Sl H2 q d 1 (iz m)) (hb : l.length ≤ 1000000) : Ct Tryz.prog 274 [.slice p l.length c, .slice q m.length d] [H1, H2] (fun v Hs => ∃ H' p' c', v = .slice p' (minusL l m).length c' ∧ Own H' p' c' 3 1 (iz (minusL l m)) ∧ Hs = [H1, H2, H']) := by
  refine Ct.body Tryz.func274 rfl Tryz.ntmps274 rfl ?_
  intro E F
  have hmxl := hl.len_le
  simp only [iz_len, maxLen] at hmxl
  have hmxm := hm.len_le
  simp only [iz_len, maxLen] at hmxm
  refine q_sr ?_
  refine q_bx 103 fun b3 => ?_
  refine q_an ?_
  refine q_sr (q_q q_mv ?_)
  refine q_e (q_c ent90 [1] [1, 30] (cloneI_ct l _ _ _ hl hb)) ?_
  rintro _ _ ⟨_, ⟨Ha, pa, ca, rfl, hOa, rfl⟩, rfl⟩
  refine q_q (Yld.makeFunc eval0 (eval1 rfl)) ?_
  refine q_e (q_c ent191 [30, 103, 2] [30, 103, 2] (deleteFunc2_ct l _ _ _ hOa 330 [.pointer (some ⟨b3, 0, none⟩)] _ _ (fun z => decide (z ∈ m)) ent330 (fun z => minusC_ct b3 m _ _ _ hm z))) ?_
  rintro _ _ ⟨_, ⟨Hd, rfl, hOd, rfl⟩, rfl⟩
  refine q_an ?_
  refine q_k [4] [0, 1, 2, 30, 103] ?_
  refine W.ret ?_
  exact q_r [1, 2, 30] (.cons (.tmp rfl) .nil) rfl rfl rfl ⟨_, _, _, rfl, hOd, rfl⟩

theorem Cfg.ss_in {x : Cf} {H1 : PH} (hx : x.In H1) {j : Nat} {s : Option Addr × Nat × List Int} (h : ([(x.po, x.co, x.o), (x.pn, x.cn, x.n), (x.pl, x.cl, x.l)] : List (Option Addr × Nat × List Int))[j]? = some s) : Sl H1 s.1 s.2.1 1 (iz s.2.2) := by
  obtain ⟨ho, hn, hl⟩ := hx
  match j, h with
  | 0, h => cases h; exact ho
  | 1, h => cases h; exact hn
  | 2, h => cases h; exact hl
theorem Cfg.ss_all {x : Cf} {P : List Int → Prop} (h : ∀ (i : Nat) s, i < 3 → ([(x.po, x.co, x.o), (x.pn, x.cn, x.n), (x.pl, x.cl, x.l)] : List (Option Addr × Nat × List Int))[i]? = some s → P s.2.2) : P x.o ∧ P x.n ∧ P x.l := ⟨h 0 _ (by omega) rfl, h 1 _ (by omega) rfl, h 2 _ (by omega) rfl⟩
theorem Cfg.ss_one {x : Cf} {P : List Int → Prop} {j : Nat} {s : Option Addr × Nat × List Int} (h : ([(x.po, x.co, x.o), (x.pn, x.cn, x.n), (x.pl, x.cl, x.l)] : List (Option Addr × Nat × List Int))[j]? = some s) (ha : P x.o ∧ P x.n ∧ P x.l) : P s.2.2 := by
  match j, h with
  | 0, h => cases h; exact ha.1
  | 1, h => cases h; exact ha.2.1
  | 2, h => cases h; exact ha.2.2

set_option maxRecDepth 100000 in
set_option maxHeartbeats 1600000 in
theorem cvalid_ct (x : Cf) (H1 : PH) (hx : x.In H1) (hbo : x.o.length ≤ 400000) (hbn : x.n.length ≤ 400000) (hbl : x.l.length ≤ 400000) : Ct Tryz.prog 248 [.agg [.slice x.po x.o.length x.co, .slice x.pn x.n.length x.cn, .slice x.pl x.l.length x.cl].toArray] [H1] (fun v Hs => v = .bool (decide x.Ok) ∧ Hs = [H1]) := by
  refine Ct.body Tryz.func248 rfl Tryz.ntmps248 rfl ?_
  intro E F
  obtain ⟨ho, hn, hl⟩ := hx
  have hx : x.In H1 := ⟨ho, hn, hl⟩
  have hmo := ho.len_le
  have hmn := hn.len_le
  have hml := hl.len_le
  simp only [iz_len, maxLen] at hmo hmn hml
  refine q_sr ?_
  refine q_bx 101 fun b1 => ?_
  refine q_an ?_
  refine W.seq (q_sr (q_q (q_fa fo86_0) (q_q (q_l 101 u22) (q_q (q_fa fo86_1) (q_q (q_l 101 u22) (q_q (q_fa fo86_2) (q_q (q_l 101 u22) ?_)))))))
  refine q_e (Eff.buildSlice 111 u281 sz22 zc22 rfl rfl (.cons rfl rfl (.cons rfl rfl (.cons rfl rfl .nil))) rfl) ?_
  rintro _ _ ⟨b11, rfl, rfl⟩
  refine q_q (q_n u281) (q_q q_mv (q_nn (q_k [1, 11, 12, 13] [0, 1, 101, 111] ?_)))
  refine W.block ?_
  refine W.loopK (ι := Nat) (fun j => (j ≤ 3 ∧ ∀ (i : Nat) s, i < j → ([(x.po, x.co, x.o), (x.pn, x.cn, x.n), (x.pl, x.cl, x.l)] : List (Option Addr × Nat × List Int))[i]? = some s → setL s.2.2 = s.2.2)) (fun j => [(13, .int .i64 (j : Nat))]) (fun j => []) (fun j => 3 - j) (.of [1, 11, 12] rfl) (.of [0, 1, 101, 111] rfl) 0 ?_ ?_ ?_ ?_
  · exact ⟨Nat.zero_le _, fun _ _ h => absurd h (Nat.not_lt_zero _)⟩
  · exact (q_a .nil)
  · exact .nil
  rintro j ⟨hj, hI⟩
  refine q_k [13, 1, 11, 12] [0, 1, 101, 111] ?_
  refine q_sr (q_q (q_b BinV.lss) (q_nn (W.seq ?_)))
  first | refine W.condD rfl (fun hc14 => ?_) (fun hc14 => ?_) | (refine W.cond rfl (fun hc14 => ?_) (fun hc14 => ?_) <;> try simp only [Bool.or_eq_true, Bool.and_eq_true, Bool.not_eq_true', Bool.not_eq_false', decide_eq_true_eq, Bool.or_eq_false_iff, Bool.and_eq_false_iff, decide_eq_false_iff_not, beq_iff_eq, beq_eq_false_iff_ne, ne_eq, Decidable.not_not] at hc14)
  ·
   obtain ⟨s, hs⟩ : ∃ s, ([(x.po, x.co, x.o), (x.pn, x.cn, x.n), (x.pl, x.cl, x.l)] : List (Option Addr × Nat × List Int))[j]? = some s := ⟨_, List.getElem?_eq_getElem (show j < 3 by omega)⟩
   have hssl := ss_in hx hs
   have hcl := hssl.len_le
   simp only [iz_len, maxLen] at hcl
   have hls : (([(x.po, x.co, x.o), (x.pn, x.cn, x.n), (x.pl, x.cl, x.l)] : List (Option Addr × Nat × List Int)).map SV)[j]? = some [.slice s.1 s.2.2.length s.2.1] := by rw [List.getElem?_map, hs]; rfl
   have hsb : s.2.2.length ≤ 400000 := ss_one (P := fun l => l.length ≤ 400000) hs ⟨hbo, hbn, hbl⟩
   have hS11 := (show Own (single b11 (.cells [.slice x.po x.o.length x.co, .slice x.pn x.n.length x.cn, .slice x.pl x.l.length x.cl].toArray 22 (0, 0))) (some ⟨b11, 0, none⟩) 3 22 1 (([(x.po, x.co, x.o), (x.pn, x.cn, x.n), (x.pl, x.cl, x.l)] : List (Option Addr × Nat × List Int)).map SV) from (Own.mk (e := 22) (n := 1) (c := 3) [] (by intro r hr; simp only [List.map_cons, List.map_nil, List.mem_cons, List.not_mem_nil, or_false] at hr; rcases hr with rfl | rfl | rfl <;> exact ⟨rfl, by simp [SV, Value.oneCell']⟩) (by simp) (by simp [maxLen]) (by rfl) (by rfl))).sl
   refine W.skip (N.next (W.seq (W.block (q_sr ?_))))
   refine q_q (q_ix u281 sz22) ?_
   refine q_q (by first | exact (by first | exact q_r1 1 u22 | exact q_r1 101 u22 | exact q_r1 111 u22) | exact (by first | exact q_rF 1 0 u22 | exact q_rF 101 0 u22 | exact q_rF 111 0 u22)) ?_
   refine q_an ?_
   refine q_sr (q_q q_mv (q_q q_mv ?_))
   refine q_e (Eff.buildSlice 119 u281 sz22 zc22 rfl rfl (.cons rfl rfl .nil) rfl) ?_
   rintro _ _ ⟨b19, rfl, rfl⟩
   refine q_e (Eff.call ent89 [119, 1] [119, 1, 130] (.cons rfl .nil) (cset_ct [(s.1, s.2.1, s.2.2)] _ H1 _ _ (Own.mk (e := 22) (n := 1) (c := 1) [] (by intro r hr; simp only [List.map_cons, List.map_nil, List.mem_cons, List.not_mem_nil, or_false] at hr; rcases hr with rfl <;> exact ⟨rfl, by simp [SV, Value.oneCell']⟩) (by simp) (by simp [maxLen]) (by rfl) (by rfl)).sl (by intro r hr; simp only [List.mem_cons, List.not_mem_nil, or_false] at hr; subst hr; exact hssl) (by rw [cat1]; omega)) rfl rfl rfl rfl (by rintro _ _ ⟨_, _, _, _, _, rfl⟩; rfl)) ?_
   rintro _ _ ⟨_, ⟨Hs1, ps, cs, rfl, hOs, rfl⟩, rfl⟩
   rw [cat1] at hOs ⊢
   refine q_e (q_c ent266 [1, 130] [1, 130] (equal_ct s.2.2 _ _ _ hssl (setL s.2.2) _ _ _ hOs.sl)) ?_
   rintro _ _ ⟨_, ⟨rfl, rfl⟩, rfl⟩
   refine q_q Yld.nt (q_nn (q_k [1, 11, 12, 13, 22] [0, 1, 101, 111, 119, 130] ?_))
   refine W.condD rfl (fun hc22 => ?_) (fun hc22 => ?_)
   ·
    have hne : setL s.2.2 ≠ s.2.2 := fun e => hc22 e.symm
    refine q_sr (q_an ?_)
    refine q_k [2] [0, 1, 101, 111, 119, 130] ?_
    refine W.ret (N.block_ret (N.then_ret (N.then_ret (N.block_ret (N.then_ret ?_)))))
    exact q_r [1] (.cons (.tmp rfl) .nil) rfl rfl rfl ⟨by show Value.bool false = _; rw [Value.bool.injEq, eq_comm, decide_eq_false_iff_not]; rintro ⟨h1, h2, h3, _⟩; exact hne (ss_one (P := fun l => setL l = l) hs ⟨h1, h2, h3⟩), rfl⟩
   ·
    have heq : setL s.2.2 = s.2.2 := (Decidable.not_not.1 hc22).symm
    refine W.skip (N.block_normal (N.next (W.region ?_)))
    refine q_q q_ad (q_q q_mv (RL.nil ?_))
    exact N.famK (j + 1) ⟨⟨by omega, fun i s2 hi h2 => (Nat.lt_succ_iff_lt_or_eq.1 hi).elim (fun h => hI i s2 h h2) (fun e => by subst e; rw [hs] at h2; cases h2; exact heq)⟩, by omega⟩ (q_a .nil) (.to rfl) .nil (.to rfl)
  ·
   have hal := ss_all (P := fun l => setL l = l) (fun i s h => hI i s (by omega))
   refine W.exit (N.then_exit (N.then_exit (N.block_eq (N.next (q_k [1] [0, 1, 101, 111] ?_)))))
   refine W.seq ?_
   refine W.draw (.q 0 (.q 1 (.q 2 (.q 3 (.q 4 (.q 5 (.q 6 (.q 7 (.q 8 (.one 9 (.q 10 (.q 11 (.q 12 (.q 13 (.q 14 (.q 15 (.q 19 (.q 20 (.q 21 (.one 16 (.one 17 (.q 18 (.q 22 (.q 23 (.q 24 .done))))))))))))))))))))))))) (.of [0, 101, 111] rfl) mix (by kernel_rfl) (by kernel_rfl) (q_d rfl (q_fa fo86_0) (q_d rfl (q_l 101 u22) (q_d rfl (q_n u22) (q_d rfl (q_b BinV.gtr) (q_d rfl q_mv ?_)))))
   refine' DL.and (t := 28) (d := 35) 7 rfl (.of [1, 24, 25, 26, 27] rfl) (.of [0, 1, 101, 111] rfl) ?_ ?_ ?_
   rotate_left 1
   ·
    intro hg28
    refine DL.gq rfl rfl rfl (q_fa fo86_0) rfl ?_
    refine DL.gq rfl rfl rfl (q_l 101 u22) rfl ?_
    refine DL.gq rfl rfl rfl (q_fa fo86_1) rfl ?_
    refine DL.gq rfl rfl rfl (q_l 101 u22) rfl ?_
    refine DL.gone rfl rfl rfl (q_c ent266 [1] [1] (equalS_ct x.o _ _ _ ho x.n _ _ hn)) rfl (by rintro _ _ ⟨_, ⟨rfl, rfl⟩, rfl⟩; repeat (first | exact .nil | refine .cons rfl ?_)) ?_
    rintro _ _ ⟨_, ⟨rfl, rfl⟩, rfl⟩
    refine DL.gq rfl rfl rfl Yld.nt rfl (q_d rfl Yld.pk ?_)
    exact DL.meet (.to rfl) (.to rfl)
   ·
    intro hg28
    repeat refine q_ds ?_
    refine DL.gskip1 rfl rfl rfl rfl rfl (q_ds ?_)
    refine q_d rfl Yld.pk ?_
    exact DL.meet (.to rfl) (.to rfl)
   refine q_d rfl q_mv ?_
   refine' DL.and (t := 36) (d := 47) 11 rfl (.of [1, 24, 25, 26, 27, 35] rfl) (.of [0, 1, 101, 111] rfl) ?_ ?_ ?_
   rotate_left 1
   ·
    intro hg36
    refine DL.gq rfl rfl rfl (q_fa fo86_2) rfl ?_
    refine DL.gq rfl rfl rfl (q_l 101 u22) rfl ?_
    refine DL.gq rfl rfl rfl (q_lw 101 u86 sz86) rfl ?_
    refine DL.gq rfl rfl rfl (q_fa fo86_2) rfl ?_
    refine DL.gq rfl rfl rfl (q_l 101 u22) rfl ?_
    refine DL.gq rfl rfl rfl (q_n u22) rfl ?_
    refine DL.gone rfl rfl rfl (q_c ent163 [1] [1, 131] (cvoters_ct x H1 hx (by simp; omega))) rfl (by rintro _ _ ⟨_, ⟨Hv, pv, cv, rfl, hOv, rfl⟩, rfl⟩; repeat (first | exact .nil | refine .cons rfl ?_)) ?_
    rintro _ _ ⟨_, ⟨Hv, pv, cv, rfl, hOv, rfl⟩, rfl⟩
    refine DL.gone rfl rfl rfl (Eff.call ent274 [1, 131] [1, 131, 132] (.cons rfl (.cons rfl .nil)) (cminus_ct x.l _ _ _ hl (setL (x.o ++ x.n)) _ _ _ hOv.sl (by omega)) rfl rfl rfl rfl (by rintro _ _ ⟨_, _, _, _, _, rfl⟩; rfl)) rfl (by rintro _ _ ⟨_, ⟨Hm, pm, cm, rfl, hOm, rfl⟩, rfl⟩; repeat (first | exact .nil | refine .cons rfl ?_)) ?_
    rintro _ _ ⟨_, ⟨Hm, pm, cm, rfl, hOm, rfl⟩, rfl⟩
    refine DL.gq rfl rfl rfl (q_n u22) rfl ?_
    refine DL.gq rfl rfl rfl (q_b BinV.eql) rfl (q_d rfl Yld.pk ?_)
    exact DL.meet (.to rfl) (.to rfl)
   ·
    intro hg36
    repeat refine q_ds ?_
    refine DL.gskip1 rfl rfl rfl rfl rfl ?_
    refine DL.gskip1 rfl rfl rfl rfl rfl (q_ds ?_)
    refine q_ds ?_
    refine q_d rfl Yld.pk ?_
    exact DL.meet (.to rfl) (.to rfl)
   refine q_d rfl q_as (DL.done (N.next (q_k [2] [0, 1, 101, 111] ?_)))
   refine W.ret ?_
   exact q_r [1] (.cons (.tmp rfl) .nil) rfl rfl rfl ⟨by show Value.bool _ = _; rw [Value.bool.injEq, Bool.eq_iff_iff, decide_eq_true_eq]; simp only [Cf.Ok, Bool.and_eq_true, Bool.not_eq_true', decide_eq_true_eq, decide_eq_false_iff_not]; exact ⟨fun ⟨⟨a, b⟩, c⟩ => ⟨hal.1, hal.2.1, hal.2.2, by omega, b, by omega⟩, fun ⟨_, _, _, a, b, c⟩ => ⟨⟨by omega, b⟩, by omega⟩⟩, rfl⟩

end Go.Proofs.YtnakhfmnchmhjaaGreat
/- Lists of integers as bytes: in plain Lean. -/
namespace Go.Proofs.YtnakhfmnchmhjaaGreat.Cfg
set_option linter.unusedVariables false
def rdZs : Nat → RS → List Int × RS
  | 0, s => ([], s)
  | k + 1, s => ((rdZs k s).1 ++ [(rdZ (rdZs k s).2).1], (rdZ (rdZs k s).2).2)
def rdL (s : RS) : List Int × RS := rdZs (rdC s s.1.length).1.toNat (rdC s s.1.length).2
def AllI (l : List Int) : Prop := ∀ z ∈ l, I64 z
theorem rdZs_len (k : Nat) (s : RS) : (rdZs k s).1.length = k := by
  induction k with
  | zero => rfl
  | succ k ih => simp [rdZs, ih]
theorem rdZ_byt {s : RS} (h : Byt s.1) : Byt (rdZ s).2.1 := (rdN_byt h).1
theorem rdZs_byt {s : RS} (h : Byt s.1) (k : Nat) : Byt (rdZs k s).2.1 := by
  induction k with
  | zero => exact h
  | succ k ih => exact rdZ_byt ih
theorem rdZ_i64 {s : RS} (h : Byt s.1) : I64 (rdZ s).1 := unzig_i64 (rdN_byt h).2
theorem rdZs_i64 {s : RS} (h : Byt s.1) (k : Nat) : AllI (rdZs k s).1 := by
  induction k with
  | zero => intro z hz; cases hz
  | succ k ih =>
    intro z hz
    rcases List.mem_append.1 hz with hz | hz
    · exact ih z hz
    · simp only [List.mem_singleton] at hz; subst hz; exact rdZ_i64 (rdZs_byt h k)
theorem rdL_byt {s : RS} (h : Byt s.1) : Byt (rdL s).2.1 := rdZs_byt (rdC_byt h) _
theorem rdL_i64 {s : RS} (h : Byt s.1) : AllI (rdL s).1 := rdZs_i64 (rdC_byt h) _
theorem rdC_le {s : RS} {most : Int} (h0 : 0 ≤ most) : (rdC s most).1 ≤ most := by
  unfold rdC
  split
  · exact h0
  · split
    · split
      · exact h0
      · rename_i h; dsimp only; omega
    · exact h0
theorem rdL_len {s : RS} : (rdL s).1.length ≤ s.1.length := by
  unfold rdL
  rw [rdZs_len]
  have := rdC_le (s := s) (most := s.1.length) (by omega)
  omega
theorem rdN_keep {s : RS} {r : List Int} (h : (rdN s).2 = (r, 0)) (hb : Byt s.1) : s.2 = 0 ∧ s.1 = encN (rdN s).1 ++ r ∧ U64 (rdN s).1 := by
  obtain ⟨l, e⟩ := s
  by_cases he : e = 0
  · subst he
    cases hd : decN l with
    | none => rw [rdN_none hd] at h; simp at h
    | some x =>
      obtain ⟨n, q⟩ := x
      rw [rdN_some hd] at h ⊢
      simp at h; subst h
      have := enc_dec hb hd
      exact ⟨rfl, this.1, this.2.1⟩
  · rw [rdN_err he] at h; simp at h; exact absurd h.2 he
theorem rdZ_keep {s : RS} {r : List Int} (h : (rdZ s).2 = (r, 0)) (hb : Byt s.1) : s.2 = 0 ∧ s.1 = encZ (rdZ s).1 ++ r := by
  obtain ⟨h1, h2, h3⟩ := rdN_keep h hb
  refine ⟨h1, ?_⟩
  unfold encZ rdZ
  rw [zig_unzig h3.1]; exact h2
theorem rdZs_keep {k : Nat} : ∀ {s : RS} {r : List Int}, (rdZs k s).2 = (r, 0) → Byt s.1 → s.2 = 0 ∧ s.1 = (rdZs k s).1.flatMap encZ ++ r := by
  induction k with
  | zero => intro s r h hb; simp only [rdZs] at h ⊢; rw [h]; exact ⟨rfl, rfl⟩
  | succ k ih =>
    intro s r h hb
    obtain ⟨h1, h2⟩ := rdZ_keep (s := (rdZs k s).2) h (rdZs_byt hb k)
    obtain ⟨h3, h4⟩ := ih (r := (rdZs k s).2.1) (by rw [← h1]) hb
    refine ⟨h3, ?_⟩
    simp only [rdZs, List.flatMap_append, List.flatMap_singleton, List.append_assoc]
    rw [← h2]; exact h4
theorem rdC_keep {s : RS} {most : Int} {r : List Int} (h : (rdC s most).2 = (r, 0)) (hb : Byt s.1) : s.2 = 0 ∧ s.1 = encN (rdC s most).1 ++ r ∧ 0 ≤ (rdC s most).1 := by
  obtain ⟨l, e⟩ := s
  by_cases he : e = 0
  · subst he
    cases hd : decN l with
    | none => rw [rdC_none hd] at h; simp at h
    | some x =>
      obtain ⟨n, q⟩ := x
      rw [rdC_some hd] at h ⊢
      by_cases hm : most < 0 ∨ most < n
      · rw [if_pos hm] at h; simp at h
      · rw [if_neg hm] at h ⊢
        simp at h; subst h
        have := enc_dec hb hd
        exact ⟨rfl, this.1, this.2.1.1⟩
  · rw [rdC_err he] at h; simp at h; exact absurd h.2 he
theorem rdL_keep {s : RS} {r : List Int} (h : (rdL s).2 = (r, 0)) (hb : Byt s.1) : s.2 = 0 ∧ s.1 = encL (rdL s).1 ++ r := by
  unfold rdL at h ⊢
  obtain ⟨h1, h2⟩ := rdZs_keep h (rdC_byt hb)
  obtain ⟨h3, h4, h5⟩ := rdC_keep (s := s) (r := (rdC s s.1.length).2.1) (by rw [← h1]) hb
  refine ⟨h3, ?_⟩
  unfold encL
  rw [rdZs_len, List.append_assoc, ← h2, Int.toNat_of_nonneg h5]; exact h4
theorem rdZ_enc {z : Int} (h : I64 z) (r : List Int) : rdZ (encZ z ++ r, 0) = (z, (r, 0)) := by
  unfold rdZ encZ
  rw [rdN_some (dec_enc (zig_u64 h) r)]
  dsimp only; rw [unzig_zig]
theorem rdZs_enc : ∀ (xs : List Int) (r : List Int), AllI xs → rdZs xs.length (xs.flatMap encZ ++ r, 0) = (xs, (r, 0)) := fun xs => by
  induction xs using snoc_ind with
  | h0 => intro r _; rfl
  | h1 xs a ih =>
    intro r h
    have e := ih (encZ a ++ r) fun z hz => h z (List.mem_append_left _ hz)
    rw [List.length_append, List.length_singleton]
    simp only [rdZs, List.flatMap_append, List.flatMap_singleton, List.append_assoc]
    rw [e]
    dsimp only
    rw [rdZ_enc (h a (by simp))]
theorem encN_pos (n : Int) : 1 ≤ (encN n).length := by unfold encN; simp
theorem encZs_len (xs : List Int) : xs.length ≤ (xs.flatMap encZ).length := by
  induction xs with
  | nil => simp
  | cons a xs ih =>
    have := encN_pos (zig a)
    simp only [List.flatMap_cons, List.length_append, List.length_cons, encZ]
    omega
theorem rdL_enc {xs : List Int} (h : AllI xs) (hl : xs.length < 9223372036854775808) (r : List Int) : rdL (encL xs ++ r, 0) = (xs, (r, 0)) := by
  have hd : decN (encL xs ++ r) = some ((xs.length : Int), xs.flatMap encZ ++ r) := by
    unfold encL; rw [List.append_assoc]; exact dec_enc ⟨by omega, by omega⟩ _
  have hc : rdC (encL xs ++ r, 0) (encL xs ++ r).length = ((xs.length : Int), (xs.flatMap encZ ++ r, 0)) := by
    rw [rdC_some hd, if_neg]
    have h2 := encZs_len xs
    unfold encL
    simp only [List.length_append]
    omega
  unfold rdL
  dsimp only
  rw [hc]
  dsimp only
  rw [Int.toNat_natCast]
  exact rdZs_enc xs r h
def encC (o n l : List Int) : List Int := encL o ++ encL n ++ encL l
def decRaw (l : List Int) : (List Int × List Int × List Int) × RS := (((rdL (l, 0)).1, (rdL (rdL (l, 0)).2).1, (rdL (rdL (rdL (l, 0)).2).2).1), (rdL (rdL (rdL (l, 0)).2).2).2)
theorem rdE_zero {s : RS} (h : rdE s = 0) : s = ([], 0) := by
  obtain ⟨l, e⟩ := s
  by_cases hc : e = 0 ∧ 0 < l.length
  · rw [rdE_pos hc] at h; cases h
  · rw [rdE_neg hc] at h
    subst h
    have : l = [] := List.eq_nil_of_length_eq_zero (by omega)
    rw [this]
theorem decRaw_enc {o n l : List Int} (ho : AllI o) (hn : AllI n) (hl : AllI l) (h1 : o.length < 9223372036854775808) (h2 : n.length < 9223372036854775808) (h3 : l.length < 9223372036854775808) : decRaw (encC o n l) = ((o, n, l), ([], 0)) := by
  have e1 : rdL (encC o n l, 0) = (o, (encL n ++ encL l, 0)) := by unfold encC; rw [List.append_assoc]; exact rdL_enc ho h1 _
  have e2 : rdL (encL n ++ encL l, 0) = (n, (encL l, 0)) := rdL_enc hn h2 _
  have e3 : rdL (encL l, 0) = (l, ([], 0)) := by have := rdL_enc hl h3 []; rwa [List.append_nil] at this
  unfold decRaw
  rw [e1]; dsimp only; rw [e2]; dsimp only; rw [e3]
theorem decRaw_dec {b : List Int} (hb : Byt b) (h : rdE (decRaw b).2 = 0) : b = encC (decRaw b).1.1 (decRaw b).1.2.1 (decRaw b).1.2.2 := by
  have h0 := rdE_zero h
  unfold decRaw at h0 ⊢
  dsimp only at h0 ⊢
  have b1 := rdL_byt (s := (b, 0)) hb
  have b2 := rdL_byt b1
  obtain ⟨h1, h2⟩ := rdL_keep h0 b2
  obtain ⟨h3, h4⟩ := rdL_keep (r := (rdL (rdL (b, 0)).2).2.1) (Prod.ext rfl h1) b1
  obtain ⟨h5, h6⟩ := rdL_keep (s := (b, 0)) (r := (rdL (b, 0)).2.1) (Prod.ext rfl h3) hb
  unfold encC
  rw [List.append_nil] at h2
  rw [← h2, List.append_assoc, ← h4]; exact h6
theorem encZ_byt {z : Int} (h : I64 z) : Byt (encZ z) := encN_byt (zig_u64 h)
theorem encZ_len {z : Int} (h : I64 z) : (encZ z).length ≤ 9 := encN_len (zig_u64 h)
theorem encZs_byt {l : List Int} (h : AllI l) : Byt (l.flatMap encZ) := fun z hz => by
  obtain ⟨a, ha, hz⟩ := List.mem_flatMap.1 hz
  exact encZ_byt (h a ha) z hz
theorem encL_byt {l : List Int} (h : AllI l) (hl : l.length < 9223372036854775808) : Byt (encL l) := (encN_byt ⟨by omega, by omega⟩).app (encZs_byt h)
theorem encZs_le : ∀ {l : List Int}, AllI l → (l.flatMap encZ).length ≤ 9 * l.length
  | [], _ => by simp
  | a :: l, h => by
    have h1 := encZ_len (h a (by simp))
    have h2 := encZs_le (l := l) fun z hz => h z (List.mem_cons_of_mem _ hz)
    simp only [List.flatMap_cons, List.length_append, List.length_cons]
    omega
theorem encL_le {l : List Int} (h : AllI l) (hl : l.length < 9223372036854775808) : (encL l).length ≤ 9 + 9 * l.length := by
  have h1 := encN_len (n := (l.length : Int)) ⟨by omega, by omega⟩
  have h2 := encZs_le h
  unfold encL
  rw [List.length_append]; omega
theorem AllI.take {l : List Int} (h : AllI l) (k : Nat) : AllI (l.take k) := fun z hz => h z (List.mem_of_mem_take hz)
/-! ### texts -/
theorem rdT_enc {s : List Int} (hl : s.length < 9223372036854775808) (r : List Int) : rdT (encT s ++ r, 0) = (s, (r, 0)) := by
  have hd : decN (encT s ++ r) = some ((s.length : Int), s ++ r) := by
    unfold encT; rw [List.append_assoc]; exact dec_enc ⟨by omega, by omega⟩ _
  rw [rdT_some hd, if_neg (by rw [List.length_append]; omega), Int.toNat_natCast, List.take_left, List.drop_left]
theorem rdT_keep {s : RS} {r : List Int} (h : (rdT s).2 = (r, 0)) (hb : Byt s.1) : s.2 = 0 ∧ s.1 = encT (rdT s).1 ++ r := by
  obtain ⟨l, e⟩ := s
  by_cases he : e = 0
  · subst he
    cases hd : decN l with
    | none => rw [rdT_none hd] at h; simp at h
    | some x =>
      obtain ⟨n, q⟩ := x
      rw [rdT_some hd] at h ⊢
      obtain ⟨h1, h2, h3⟩ := enc_dec hb hd
      by_cases hm : (q.length : Int) < n
      · rw [if_pos hm] at h; simp at h
      · rw [if_neg hm] at h ⊢
        simp at h; subst h
        refine ⟨rfl, ?_⟩
        unfold encT
        have h4 := h2.1
        rw [List.length_take, show ((min n.toNat q.length : Nat) : Int) = n by omega, List.append_assoc, List.take_append_drop]; exact h1
  · rw [rdT_err he] at h; simp at h; exact absurd h.2 he
theorem encT_byt {s : List Int} (h : Byt s) (hl : s.length < 9223372036854775808) : Byt (encT s) := (encN_byt ⟨by omega, by omega⟩).app h
end Go.Proofs.YtnakhfmnchmhjaaGreat.Cfg
/- Configurations as bytes. Written by program (walk2.py). -/
namespace Go.Proofs.YtnakhfmnchmhjaaGreat
open SL Cfg
set_option linter.unusedVariables false
set_option linter.unusedSimpArgs false
theorem ent98 : Ent Tryz.prog 98 := ⟨_, _, Tryz.func98, by kernel_rfl, rfl⟩
def Cfg.sv (s : Option Addr × Nat × List Int) : Value := .slice s.1 s.2.2.length s.2.1
def Cfg.encW (ss : List (Option Addr × Nat × List Int)) : List Int := ss.flatMap fun s => encL s.2.2
def Cfg.SmS (ss : List (Option Addr × Nat × List Int)) : Prop := ∀ s ∈ ss, AllI s.2.2 ∧ s.2.2.length ≤ 10000
theorem Cfg.encW_le : ∀ {ss : List (Option Addr × Nat × List Int)}, SmS ss → (encW ss).length ≤ ss.length * 90009
  | [], _ => by simp [encW]
  | s :: ss, h => by
    have h1 := h s (by simp)
    have h2 := encW_le (ss := ss) fun t ht => h t (List.mem_cons_of_mem _ ht)
    have h3 := encL_le h1.1 (by omega)
    unfold encW at h2 ⊢
    simp only [List.flatMap_cons, List.length_append, List.length_cons]
    omega
theorem Cfg.SmS.take {ss : List (Option Addr × Nat × List Int)} (h : SmS ss) (k : Nat) : SmS (ss.take k) := fun s hs => h s (List.mem_of_mem_take hs)
theorem Cfg.encW_take {ss : List (Option Addr × Nat × List Int)} {i : Nat} {s : Option Addr × Nat × List Int} (h : ss[i]? = some s) : encW (ss.take (i + 1)) = encW (ss.take i) ++ encL s.2.2 := by
  unfold encW; rw [List.take_add_one, h]; simp
theorem Cfg.flatZ_take {l : List Int} {j : Nat} {z : Int} (h : l[j]? = some z) : (l.take (j + 1)).flatMap encZ = (l.take j).flatMap encZ ++ encZ z := by
  rw [List.take_add_one, h]; simp
theorem Cfg.sv_row {b e : Nat} {ss : List (Option Addr × Nat × List Int)} {cs : List Value} (hcs : cs = ss.map sv) (hm : ss.length ≤ 100) : Sl (single b (.cells cs.toArray e (0, 0))) (some ⟨b, 0, none⟩) ss.length 1 (ss.map SV) := by
  have hf : (ss.map SV).flatten = ss.map sv := by
    clear hcs hm
    induction ss with
    | nil => rfl
    | cons s ss ih => simp [SV, sv, ih]
  have := (Own.mk (b := b) (c := ss.length) (e := e) (n := 1) (ls := ss.map SV) [] (fun r hr => by obtain ⟨s, _, rfl⟩ := List.mem_map.1 hr; exact ⟨rfl, by simp [SV, Value.oneCell']⟩) (by simp) (by simp only [maxLen]; omega) (by rw [List.append_nil, hf]; simp) (cs := cs) (by rw [hcs, List.append_nil, hf])).sl
  exact this
theorem Cfg.put_mid {ss r : List (Option Addr × Nat × List Int)} {c d : Option Addr × Nat × List Int} : putAt ((ss ++ c :: r).map sv) ss.length [sv d] = (ss ++ d :: r).map sv := by
  have h := putAt_right (a := ss.map sv) (r := sv c :: r.map sv) (o := 0) (vs := [sv d])
  rw [List.length_map, Nat.add_zero] at h
  rw [List.map_append, List.map_cons, h, List.map_append, List.map_cons]
  simp [putAt]
theorem Cfg.get_mid {ss r : List (Option Addr × Nat × List Int)} {c : Option Addr × Nat × List Int} : ((ss ++ c :: r).map sv)[ss.length]? = some (sv c) := by simp
def Cfg.rdLs : Nat → RS → List (List Int) × RS
  | 0, s => ([], s)
  | k + 1, s => ((rdLs k s).1 ++ [(rdL (rdLs k s).2).1], (rdL (rdLs k s).2).2)
theorem Cfg.rdLs_three (s : RS) : rdLs 3 s = ([(rdL s).1, (rdL (rdL s).2).1, (rdL (rdL (rdL s).2).2).1], (rdL (rdL (rdL s).2).2).2) := rfl
theorem Cfg.rdN_short (s : RS) : (rdN s).2.1.length ≤ s.1.length := by
  unfold rdN
  split
  · exact Nat.le_refl _
  · split
    · rename_i n r e; exact Nat.le_of_lt (decN_short e)
    · simp
theorem Cfg.rdZ_short (s : RS) : (rdZ s).2.1.length ≤ s.1.length := rdN_short s
theorem Cfg.rdC_short (s : RS) (m : Int) : (rdC s m).2.1.length ≤ s.1.length := by
  unfold rdC
  split
  · exact Nat.le_refl _
  · split
    · rename_i n r e
      split
      · simp
      · exact Nat.le_of_lt (decN_short e)
    · simp
theorem Cfg.rdZs_short (k : Nat) (s : RS) : (rdZs k s).2.1.length ≤ s.1.length := by
  induction k with
  | zero => exact Nat.le_refl _
  | succ k ih => exact Nat.le_trans (rdZ_short _) ih
structure Cfg.DS where
  x : Rd
  ss : List (Option Addr × Nat × List Int)
  H : PH
structure Cfg.DZ where
  k : Nat
  x : Rd
  p : Option Addr
  c : Nat
  l : List Int
  H : PH

set_option maxRecDepth 100000 in
set_option maxHeartbeats 800000 in
theorem enc_ct (x : Cf) (H1 : PH) (hx : x.In H1) (hsm : SmS [(x.po, x.co, x.o), (x.pn, x.cn, x.n), (x.pl, x.cl, x.l)]) : Ct Tryz.prog 91 [.agg [.slice x.po x.o.length x.co, .slice x.pn x.n.length x.cn, .slice x.pl x.l.length x.cl].toArray] [H1] (fun v Hs => v = .string (strOfNums (encC x.o x.n x.l)) ∧ Hs = [H1]) := by
  refine Ct.body Tryz.func91 rfl Tryz.ntmps91 rfl ?_
  intro E F
  obtain ⟨ss, hss⟩ : ∃ ss, ss = [(x.po, x.co, x.o), (x.pn, x.cn, x.n), (x.pl, x.cl, x.l)] := ⟨_, rfl⟩
  rw [← hss] at hsm
  have hle := encW_le hsm
  have hs3 : ss.length = 3 := by rw [hss]; rfl
  have hSl : ∀ s ∈ ss, Sl H1 s.1 s.2.1 1 (iz s.2.2) := by rw [hss]; intro s hs; simp only [List.mem_cons, List.not_mem_nil, or_false] at hs; rcases hs with rfl | rfl | rfl; exact hx.1; exact hx.2.1; exact hx.2.2
  refine q_sr ?_
  refine q_bx 101 fun b1 => ?_
  refine q_an ?_
  refine q_sr (q_an ?_)
  refine W.seq (W.seq ?_)
  refine W.imp (Imp.empty _ 30) (W.region (q_q (q_fa fo86_0) (q_q (q_l 101 u22) (q_q (q_fa fo86_1) (q_q (q_l 101 u22) (q_q (q_fa fo86_2) (q_q (q_l 101 u22) ?_)))))))
  refine q_e (Eff.buildSlice 114 u281 sz22 zc22 rfl rfl (.cons rfl rfl (.cons rfl rfl (.cons rfl rfl .nil))) rfl) ?_
  rintro _ _ ⟨b14, rfl, rfl⟩
  refine q_q (q_n u281) (q_q q_mv (q_nn (q_k [3, 14, 15, 16] [0, 1, 30, 101, 114] ?_)))
  refine W.block ?_
  refine W.loopK (ι := CI) (fun y => (y.i ≤ 3 ∧ Own y.H y.p y.c 5 1 (bz (encW (ss.take y.i))))) (fun y => [(3, .slice y.p (encW (ss.take y.i)).length y.c), (16, .int .i64 (y.i : Nat))]) (fun y => [(30, y.H)]) (fun y => 3 - y.i) (.of [14, 15] rfl) (.of [0, 1, 101, 114] rfl) ⟨0, emp, none, 0⟩ ?_ ?_ ?_ ?_
  · exact ⟨Nat.zero_le _, Own.nil _ _⟩
  · exact (q_a (q_a .nil))
  · exact (.to rfl)
  rintro y ⟨hy, hO⟩
  refine q_k [3, 16, 14, 15] [30, 0, 1, 101, 114] ?_
  have hG : Sl (single b14 _) (some ⟨b14, 0, none⟩) 3 1 (ss.map SV) := hs3 ▸ sv_row (b := b14) (e := 22) (cs := [.slice x.po x.o.length x.co, .slice x.pn x.n.length x.cn, .slice x.pl x.l.length x.cl]) (by rw [hss]; rfl) (by omega)
  have hle2 := encW_le (hsm.take y.i)
  have htk : (ss.take y.i).length ≤ 3 := by rw [List.length_take]; omega
  refine q_sr (q_q (q_b BinV.lss) (q_nn (W.seq ?_)))
  first | refine W.condD rfl (fun hc17 => ?_) (fun hc17 => ?_) | (refine W.cond rfl (fun hc17 => ?_) (fun hc17 => ?_) <;> try simp only [Bool.or_eq_true, Bool.and_eq_true, Bool.not_eq_true', Bool.not_eq_false', decide_eq_true_eq, Bool.or_eq_false_iff, Bool.and_eq_false_iff, decide_eq_false_iff_not, beq_iff_eq, beq_eq_false_iff_ne, ne_eq, Decidable.not_not] at hc17)
  ·
   obtain ⟨s, hs⟩ : ∃ s, ss[y.i]? = some s := ⟨_, List.getElem?_eq_getElem (show y.i < ss.length by omega)⟩
   have hls : (ss.map SV)[y.i]? = some [.slice s.1 s.2.2.length s.2.1] := by simp [hs, SV]
   have hI := hsm s (List.mem_of_getElem? hs)
   have hsl := hSl s (List.mem_of_getElem? hs)
   refine W.skip (N.next (W.seq (W.block (q_sr ?_))))
   refine q_q (Yld.indexRow u281 sz22 rfl rfl hG (by simp [hs3]) (by omega) (by rw [List.length_map]; omega)) ?_
   refine q_q (Yld.loadRow1 (cl := 114) u22 rfl rfl rfl hG hls) (q_an ?_)
   refine q_sr (q_q q_mv (q_q q_mv (q_q (q_n u22) ?_)))
   refine q_q (Yld.convIs u3 u203 rfl (by first | exact IntWalk.u64_in _ ⟨by omega, by omega⟩ | rfl)) ?_
   refine q_e (Eff.call ent100 [30] [30] (.cons rfl (.cons rfl .nil)) (addN_ct (encW (ss.take y.i)) _ _ _ hO (s.2.2.length : Nat) ⟨by omega, by omega⟩ (by omega)) rfl rfl rfl rfl (by rintro _ _ ⟨_, _, _, _, _, rfl⟩; rfl)) ?_
   rintro _ _ ⟨_, ⟨Ha, pa, ca, rfl, hOa, rfl⟩, rfl⟩
   refine q_an ?_
   refine q_k [3, 5, 14, 15, 16] [0, 1, 30, 101, 114] ?_
   refine q_sr (q_q q_mv (q_q (q_n u22) (q_q q_mv (q_nn (W.block ?_)))))
   refine W.loopK (ι := CI) (fun z => (z.i ≤ s.2.2.length ∧ Own z.H z.p z.c 5 1 (bz (encW (ss.take y.i) ++ encN (s.2.2.length : Nat) ++ (s.2.2.take z.i).flatMap encZ)))) (fun z => [(3, .slice z.p (encW (ss.take y.i) ++ encN (s.2.2.length : Nat) ++ (s.2.2.take z.i).flatMap encZ).length z.c), (27, .int .i64 (z.i : Nat))]) (fun z => [(30, z.H)]) (fun z => s.2.2.length - z.i) (.of [14, 15, 16, 25, 26] rfl) (.of [0, 1, 101, 114] rfl) ⟨0, Ha, pa, ca⟩ ?_ ?_ ?_ ?_
   · exact ⟨Nat.zero_le _, by simpa using hOa⟩
   · exact (.as rfl (by simp) (q_a .nil))
   · exact (.to rfl)
   rintro z ⟨hz, hOz⟩
   refine q_k [3, 27, 14, 15, 16, 25, 26] [30, 0, 1, 101, 114] ?_
   have hle3 := encZs_le (hI.1.take z.i)
   have hle4 := encN_len (n := (s.2.2.length : Nat)) ⟨by omega, by omega⟩
   rw [List.length_take] at hle3
   refine q_sr (q_q (q_b BinV.lss) (q_nn (W.seq ?_)))
   first | refine W.condD rfl (fun hc28 => ?_) (fun hc28 => ?_) | (refine W.cond rfl (fun hc28 => ?_) (fun hc28 => ?_) <;> try simp only [Bool.or_eq_true, Bool.and_eq_true, Bool.not_eq_true', Bool.not_eq_false', decide_eq_true_eq, Bool.or_eq_false_iff, Bool.and_eq_false_iff, decide_eq_false_iff_not, beq_iff_eq, beq_eq_false_iff_ne, ne_eq, Decidable.not_not] at hc28)
   ·
    obtain ⟨v, hv, hlv⟩ := iz_at (show z.i < s.2.2.length by omega)
    refine W.skip (N.next (W.seq (W.block (q_sr ?_))))
    refine q_q (q_ix u22 sz3) ?_
    refine q_q (by first | exact (by first | exact q_r1 1 u3 | exact q_r1 101 u3 | exact q_r1 114 u3 | exact q_r1 30 u3) | exact (by first | exact q_rF 1 0 u3 | exact q_rF 101 0 u3 | exact q_rF 114 0 u3 | exact q_rF 30 0 u3)) ?_
    refine q_an ?_
    refine W.region (q_q q_mv (q_q q_mv ?_))
    refine q_e (Eff.call ent98 [30] [30] (.cons rfl (.cons rfl .nil)) (addI_ct (encW (ss.take y.i) ++ encN (s.2.2.length : Nat) ++ (s.2.2.take z.i).flatMap encZ) _ _ _ hOz v (hI.1 v (List.mem_of_getElem? hv)) (by simp only [List.length_append]; omega)) rfl rfl rfl rfl (by rintro _ _ ⟨_, _, _, _, _, rfl⟩; rfl)) ?_
    rintro _ _ ⟨_, ⟨Hb, pb, cb, rfl, hOb, rfl⟩, rfl⟩
    refine q_q q_as (RL.nil (N.block_normal (N.next (q_k [3, 14, 15, 16, 25, 26, 27] [0, 1, 30, 101, 114] ?_))))
    refine W.region ?_
    refine q_q q_ad (q_q q_mv (RL.nil ?_))
    exact N.famK ⟨z.i + 1, Hb, pb, cb⟩ ⟨⟨by dsimp only; omega, by dsimp only; rw [flatZ_take hv, ← List.append_assoc]; exact hOb⟩, by dsimp only; omega⟩ (.as rfl (by show Value.slice _ _ _ = Value.slice _ _ _; dsimp only; rw [flatZ_take hv, ← List.append_assoc]) (q_a .nil)) (.to rfl) (.to rfl) (.to rfl)
   ·
    have hzend : z.i = s.2.2.length := by omega
    have hOz2 := hOz
    rw [hzend, List.take_length] at hOz2
    refine W.exit (N.then_exit (N.then_exit (N.block_eq (N.block_normal (N.next (q_k [3, 14, 15, 16] [0, 1, 30, 101, 114] ?_))))))
    refine W.region ?_
    refine q_q q_ad (q_q q_mv (RL.nil ?_))
    exact N.famK ⟨y.i + 1, z.H, z.p, z.c⟩ ⟨⟨by dsimp only; omega, by dsimp only; rw [encW_take hs]; unfold encL; rw [← List.append_assoc]; exact hOz2⟩, by dsimp only; omega⟩ (.as rfl (by show Value.slice _ _ _ = Value.slice _ _ _; dsimp only; rw [encW_take hs]; unfold encL; rw [← List.append_assoc, hzend, List.take_length]) (q_a .nil)) (.to rfl) (.to rfl) (.to rfl)
  ·
   have hend : y.i = ss.length := by omega
   rw [hend, List.take_length] at hO ⊢
   have hfin : encW ss = encC x.o x.n x.l := by rw [hss]; simp [encW, encC]
   refine W.exit (N.then_exit (N.then_exit (N.block_eq (N.next (q_k [3] [0, 1, 30, 101, 114] ?_)))))
   refine q_sr (q_q q_mv ?_)
   refine q_q (Yld.bytesStr (cl := 30) u152 u5 u9 rfl rfl hO.sl rfl) (q_an ?_)
   refine W.ret ?_
   exact q_r [1] (.cons (.tmp rfl) .nil) rfl rfl rfl ⟨by rw [hfin]; rfl, rfl⟩

end Go.Proofs.YtnakhfmnchmhjaaGreat
/-
  A piece made smaller.
-/
namespace Go.Proofs.YtnakhfmnchmhjaaGreat.SL
set_option linter.unusedVariables false
theorem Imp.sub {L : Sh} {c : Nat} {G H : PH} (hL : lk L c = some H) (hs : ∀ b o, G b = some o → H b = some o) : Imp L ((c, G) :: L) := fun E w hm => by
  refine ⟨hm.os, hm.out, fun d K hK => ?_, fun d e K J hne hK hJ => ?_⟩
  · rw [lk_cons] at hK
    split at hK
    · cases hK; exact fun b o hb => hm.sub c H hL b o (hs b o hb)
    · exact hm.sub d K hK
  · rw [lk_cons] at hK hJ
    split at hK <;> split at hJ
    · rename_i h1 h2; exact absurd (h1.symm.trans h2) hne
    · rename_i h1 h2; cases hK; subst h1
      exact fun b x y hx hy => hm.dis _ e H J hne hL hJ b x y (hs b x hx) hy
    · rename_i h1 h2; cases hJ; subst h2
      exact fun b x y hx hy => hm.dis d _ K H hne hK hL b x y hx (hs b y hy)
    · exact hm.dis d e K J hne hK hJ
theorem hjoin_r {G K : PH} (h : ∀ b o, K b = some o → hjoin G K b = some o) : ∀ b o, K b = some o → hjoin G K b = some o := h
end Go.Proofs.YtnakhfmnchmhjaaGreat.SL
/- Configurations out of bytes. Written by program (walk2.py). -/
namespace Go.Proofs.YtnakhfmnchmhjaaGreat
open SL Cfg
set_option linter.unusedVariables false
set_option linter.unusedSimpArgs false
theorem sz201 : sz Tryz.prog 201 1 := (by kernel_rfl : (Tryz.prog.info? 201).map (·.size) = some 1)
theorem zc86 : zc Tryz.prog 86 [.slice none 0 0, .slice none 0 0, .slice none 0 0] := (by kernel_rfl : ((Tryz.prog.info? 86).bind (·.zero)).map (fun v => v.cells.toList) = some [.slice none 0 0, .slice none 0 0, .slice none 0 0])
theorem ent71 : Ent Tryz.prog 71 := ⟨_, _, Tryz.func71, by kernel_rfl, rfl⟩
theorem zc201 : zc Tryz.prog 201 [.pointer none] := (by kernel_rfl : ((Tryz.prog.info? 201).bind (·.zero)).map (fun v => v.cells.toList) = some [.pointer none])
theorem ent270 : Ent Tryz.prog 270 := ⟨_, _, Tryz.func270, by kernel_rfl, rfl⟩
theorem ent271 : Ent Tryz.prog 271 := ⟨_, _, Tryz.func271, by kernel_rfl, rfl⟩
theorem ent176 : Ent Tryz.prog 176 := ⟨_, _, Tryz.func176, by kernel_rfl, rfl⟩
theorem ent75 : Ent Tryz.prog 75 := ⟨_, _, Tryz.func75, by kernel_rfl, rfl⟩
theorem ent248 : Ent Tryz.prog 248 := ⟨_, _, Tryz.func248, by kernel_rfl, rfl⟩
theorem ent364 : Ent Tryz.prog 364 := ⟨_, _, Tryz.func364, by kernel_rfl, rfl⟩
theorem lay86 : layS Tryz.prog 86 = some ([.slice none 0 0, .slice none 0 0, .slice none 0 0], [(0, 1), (1, 1), (2, 1)]) := by kernel_rfl
abbrev u199 := @Tryz.underlying199
abbrev u201 := @Tryz.underlying201
set_option maxRecDepth 100000 in
set_option maxHeartbeats 400000 in
theorem cblank_ct (x : Cf) (H1 : PH) (hx : x.In H1) (hbo : x.o.length ≤ 1000000) (hbn : x.n.length ≤ 1000000) (hbl : x.l.length ≤ 1000000) : Ct Tryz.prog 364 [.agg [.slice x.po x.o.length x.co, .slice x.pn x.n.length x.cn, .slice x.pl x.l.length x.cl].toArray] [H1] (fun v Hs => v = .bool (decide (x.o.length + x.n.length + x.l.length = 0)) ∧ Hs = [H1]) := by
  refine Ct.body Tryz.func364 rfl Tryz.ntmps364 rfl ?_
  intro E F
  obtain ⟨ho, hn, hl⟩ := hx
  have hmo := ho.len_le
  have hmn := hn.len_le
  have hml := hl.len_le
  simp only [iz_len, maxLen] at hmo hmn hml
  refine q_sr ?_
  refine q_bx 101 fun b1 => ?_
  refine q_an ?_
  refine q_sr (q_q (q_fa fo86_0) (q_q (q_l 101 u22) (q_q (q_n u22) (q_q (q_fa fo86_1) (q_q (q_l 101 u22) (q_q (q_n u22) ?_))))))
  refine q_q q_ad (q_q (q_fa fo86_2) (q_q (q_l 101 u22) (q_q (q_n u22) ?_)))
  refine q_q q_ad (q_q (q_b BinV.eql) (q_an ?_))
  refine q_k [2] [0, 1, 101] ?_
  refine W.ret ?_
  exact q_r [1] (.cons (.tmp rfl) .nil) rfl rfl rfl ⟨by show Value.bool _ = _; rw [Value.bool.injEq]; congr 1; rw [eq_iff_iff]; omega, rfl⟩

def Cfg.Cf.blank (x : Cf) : Prop := x.o.length + x.n.length + x.l.length = 0
def Cfg.decR (l : List Int) (y : Cf) (code : Int) : Prop :=
  (code = 0 ∧ rdE (decRaw l).2 = 0 ∧ (decRaw l).1 = (y.o, y.n, y.l) ∧ (y.Ok ∨ y.blank)) ∨
  (code = 11 ∧ y = ⟨[], [], [], none, 0, none, 0, none, 0⟩ ∧ ¬ (rdE (decRaw l).2 = 0 ∧ ∃ w : Cf, (decRaw l).1 = (w.o, w.n, w.l) ∧ (w.Ok ∨ w.blank)))
theorem Cfg.Cf.Ok.congr {x y : Cf} (h : (x.o, x.n, x.l) = (y.o, y.n, y.l)) (hx : x.Ok) : y.Ok := by
  obtain ⟨xo, xn, xl, _, _, _, _, _, _⟩ := x
  obtain ⟨yo, yn, yl, _, _, _, _, _, _⟩ := y
  simp only [Prod.mk.injEq] at h
  obtain ⟨rfl, rfl, rfl⟩ := h
  exact hx
theorem Cfg.Cf.blank.congr {x y : Cf} (h : (x.o, x.n, x.l) = (y.o, y.n, y.l)) (hx : x.blank) : y.blank := by
  obtain ⟨xo, xn, xl, _, _, _, _, _, _⟩ := x
  obtain ⟨yo, yn, yl, _, _, _, _, _, _⟩ := y
  simp only [Prod.mk.injEq] at h
  obtain ⟨rfl, rfl, rfl⟩ := h
  exact hx
theorem Cfg.three {α : Type} {l : List α} (h : l.length = 3) : ∃ a b c, l = [a, b, c] := by
  match l, h with
  | [a, b, c], _ => exact ⟨a, b, c, rfl⟩

set_option maxRecDepth 100000 in
set_option maxHeartbeats 600000 in
theorem dec_ct (s : ByteArray) (hs : s.size ≤ 400000) : Ct Tryz.prog 323 [.string s] [] (fun v Hs => ∃ (y : Cf) (code : Int) (H : PH), v = .tuple #[.agg [.slice y.po y.o.length y.co, .slice y.pn y.n.length y.cn, .slice y.pl y.l.length y.cl].toArray, .int .i64 code] ∧ y.In H ∧ decR (nums s) y code ∧ Hs = [H]) := by
  refine Ct.body Tryz.func323 rfl Tryz.ntmps323 rfl ?_
  intro E F
  have hbt := nums_byt s
  have hln := nums_len s
  refine q_sr ?_
  refine q_al 102 zc86 fun b2 => ?_
  refine q_an ?_
  refine q_sr ?_
  refine q_al 104 zc86 fun b4 => ?_
  refine q_nn (q_sr (q_q q_mv ?_))
  refine q_e (Eff.strBytes 109 u9 u152 u5 rfl (by first | omega | (simp only [maxLen]; omega))) ?_
  rintro _ _ ⟨H9, p9, c9, rfl, hS9, rfl⟩
  refine q_e (Eff.call ent71 [109] [109, 150, 151] (.cons rfl .nil) (newReader_ct (nums s) _ _ _ hS9 (by omega) hbt) rfl rfl rfl rfl (by rintro _ _ ⟨_, _, _, _, _, _, rfl⟩; rfl)) ?_
  rintro _ _ ⟨_, ⟨r, x, B, rfl, hx, hxs, rfl⟩, rfl⟩
  refine q_an ?_
  refine q_k [2, 4, 5] [0, 102, 104, 109, 150, 151] ?_
  refine W.seq (W.seq ?_)
  refine W.imp (Imp.empty _ 130) ?_
  refine W.imp (Imp.empty _ 131) (W.region (q_q (q_fa fo86_0) (q_q (q_fa fo86_1) (q_q (q_fa fo86_2) ?_))))
  refine q_e (Eff.buildSlice 114 u199 sz201 zc201 rfl rfl (.cons rfl rfl (.cons rfl rfl (.cons rfl rfl .nil))) rfl) ?_
  rintro _ _ ⟨b14, rfl, rfl⟩
  refine q_q (q_n u199) (q_q q_mv (q_nn (W.block ?_)))
  refine W.loopK (ι := DS) (fun y => (y.ss.length ≤ 3 ∧ y.x.In B ∧ (∀ t ∈ y.ss, Sl y.H t.1 t.2.1 1 (iz t.2.2) ∧ t.2.2.length ≤ 400000) ∧ (y.ss.map (·.2.2), y.x.s) = (rdLs y.ss.length (nums s, 0)) ∧ y.x.l.length ≤ 400000)) (fun y => [(16, .int .i64 (y.ss.length : Nat))]) (fun y => [(104, single b4 (.cells ((y.ss ++ List.replicate (3 - y.ss.length) (none, 0, [])).map sv).toArray 86 (0, 0))), (130, emp), (131, y.H), (150, single r (.cells [.slice y.x.p y.x.l.length y.x.c, .int .i64 y.x.e].toArray 261 (0, 0)))]) (fun y => 3 - y.ss.length) (.of [2, 4, 5, 14, 15] rfl) (.of [0, 102, 109, 114, 151] rfl) ⟨x, [], emp⟩ ?_ ?_ ?_ ?_
  · exact ⟨Nat.zero_le _, hx, fun t ht => (by cases ht), (by rw [hxs]; rfl), by have e : x.l = nums s := congrArg Prod.fst hxs; dsimp only; rw [e, hln]; exact hs⟩
  · exact (q_a .nil)
  · exact (.to rfl)
  rintro y ⟨hy3, hyx, hyS, hyR, hyl⟩
  refine q_k [16, 2, 4, 5, 14, 15] [104, 130, 131, 150, 0, 102, 109, 114, 151] ?_
  have hG : Sl (single b14 _) (some ⟨b14, 0, none⟩) 3 1 [[Value.pointer (some ⟨b4, 0, none⟩)], [Value.pointer (some ⟨b4, 1, none⟩)], [Value.pointer (some ⟨b4, 2, none⟩)]] := (Own.mk (b := b14) (c := 3) (e := 201) (n := 1) (ls := [[Value.pointer (some ⟨b4, 0, none⟩)], [Value.pointer (some ⟨b4, 1, none⟩)], [Value.pointer (some ⟨b4, 2, none⟩)]]) [] (by intro q hq; simp only [List.mem_cons, List.not_mem_nil, or_false] at hq; rcases hq with rfl | rfl | rfl <;> exact ⟨rfl, by simp [Value.oneCell']⟩) (by simp) (by simp only [maxLen]; omega) (by rfl) (by rfl)).sl
  refine q_sr (q_q (q_b BinV.lss) (q_nn (W.seq ?_)))
  first | refine W.condD rfl (fun hc17 => ?_) (fun hc17 => ?_) | (refine W.cond rfl (fun hc17 => ?_) (fun hc17 => ?_) <;> try simp only [Bool.or_eq_true, Bool.and_eq_true, Bool.not_eq_true', Bool.not_eq_false', decide_eq_true_eq, Bool.or_eq_false_iff, Bool.and_eq_false_iff, decide_eq_false_iff_not, beq_iff_eq, beq_eq_false_iff_ne, ne_eq, Decidable.not_not] at hc17)
  ·
   have hlp : ([[Value.pointer (some ⟨b4, 0, none⟩)], [Value.pointer (some ⟨b4, 1, none⟩)], [Value.pointer (some ⟨b4, 2, none⟩)]])[y.ss.length]? = some [Value.pointer (some ⟨b4, y.ss.length, none⟩)] := by
     have h3 : y.ss.length < 3 := by omega
     generalize y.ss.length = k at h3
     match k, h3 with
     | 0, _ => rfl
     | 1, _ => rfl
     | 2, _ => rfl
   refine W.skip (N.next (W.seq (W.block (q_sr ?_))))
   refine q_q (Yld.indexRow u199 sz201 rfl rfl hG (by rfl) (by omega) (by simp; omega)) ?_
   refine q_q (Yld.loadRow1 (cl := 114) u201 rfl rfl rfl hG hlp) (q_an ?_)
   refine q_sr (q_q q_mv (q_q q_mv ?_))
   refine q_e (q_c ent270 [150, 151] [150, 151] (Left_ct r y.x B hyx)) ?_
   rintro _ _ ⟨_, ⟨rfl, rfl⟩, rfl⟩
   refine q_e (q_c ent271 [150, 151] [150, 151] (Count_ct r y.x B hyx (y.x.l.length : Nat) (by omega))) ?_
   rintro _ _ ⟨_, ⟨z, hz, hzs, rfl, rfl⟩, rfl⟩
   obtain ⟨cv, hcv⟩ : ∃ cv, (rdC y.x.s (y.x.l.length : Nat)).1 = cv := ⟨_, rfl⟩
   have hcr := rdC_range (s := y.x.s) (most := (y.x.l.length : Nat)) hyx.byt (by omega)
   have hcl := rdC_le (s := y.x.s) (most := (y.x.l.length : Nat)) (by omega)
   rw [hcv] at hcr hcl ⊢
   refine q_q q_mv (q_nn (q_k [2, 4, 5, 7, 14, 15, 16, 23, 24] [0, 102, 104, 109, 114, 130, 131, 150, 151] ?_))
   refine W.block ?_
   refine W.loopK (ι := DZ) (fun w => (w.k ≤ cv.toNat ∧ w.x.In B ∧ Own w.H w.p w.c 3 1 (iz w.l) ∧ (w.l, w.x.s) = rdZs w.k z.s)) (fun w => [(24, .int .i64 (w.k : Nat))]) (fun w => [(104, single b4 (.cells ((y.ss ++ (w.p, w.c, w.l) :: List.replicate (2 - y.ss.length) (none, 0, [])).map sv).toArray 86 (0, 0))), (130, w.H), (150, single r (.cells [.slice w.x.p w.x.l.length w.x.c, .int .i64 w.x.e].toArray 261 (0, 0)))]) (fun w => cv.toNat - w.k) (.of [2, 4, 5, 7, 14, 15, 16, 23] rfl) (.of [0, 102, 109, 114, 131, 151] rfl) ⟨0, z, none, 0, [], emp⟩ ?_ ?_ ?_ ?_
   · exact ⟨Nat.zero_le _, hz, Own.nil _ _, rfl⟩
   · exact (q_a .nil)
   · exact (.as rfl (by rw [show 3 - y.ss.length = 2 - y.ss.length + 1 by omega, List.replicate_succ]) (.to rfl))
   rintro w ⟨hwk, hw, hwO, hwR⟩
   refine q_k [24, 2, 4, 5, 7, 14, 15, 16, 23] [104, 130, 150, 0, 102, 109, 114, 131, 151] ?_
   have hwl := rdZs_len w.k z.s
   have hwl2 : w.l.length = w.k := by have e : w.l = (rdZs w.k z.s).1 := congrArg Prod.fst hwR; rw [e, hwl]
   refine q_sr (q_q (q_b BinV.lss) (q_nn (W.seq ?_)))
   first | refine W.condD rfl (fun hc25 => ?_) (fun hc25 => ?_) | (refine W.cond rfl (fun hc25 => ?_) (fun hc25 => ?_) <;> try simp only [Bool.or_eq_true, Bool.and_eq_true, Bool.not_eq_true', Bool.not_eq_false', decide_eq_true_eq, Bool.or_eq_false_iff, Bool.and_eq_false_iff, decide_eq_false_iff_not, beq_iff_eq, beq_eq_false_iff_ne, ne_eq, Decidable.not_not] at hc25)
   ·
    refine W.skip (N.next (W.seq (W.block ?_)))
    refine W.draw (.q 0 (.q 1 (.q 2 (.q 4 (.two 3 (.one 5 (.one 6 (.one 7 (.q 8 (.one 9 .done))))) 5 (.two 3 (.one 6 (.one 7 (.q 8 (.one 9 .done)))) 6 (.one 3 (.one 7 (.q 8 (.one 9 .done)))))))))) (.of [0] rfl) mix (by kernel_rfl) (by kernel_rfl) (q_d rfl q_mv (q_d rfl q_mv (q_d rfl q_np (q_d rfl q_mv ?_))))
    refine DL.two ?_ ?_
    ·
     refine q_o rfl (Yld.eff (Yld.load1 (c := 104) u22 rfl rfl rfl (single_self _ _) get_mid)) ?_
     rintro _ _ ⟨rfl, rfl⟩
     refine q_o rfl (q_c ent176 [150, 151] [150, 151] (Int_ct r w.x B hw)) ?_
     rintro _ _ ⟨_, ⟨x2, hx2, hx2s, rfl, rfl⟩, rfl⟩
     refine q_o rfl (Eff.buildSlice 132 u22 sz3 zc3 rfl rfl (.cons rfl rfl .nil) rfl) ?_
     rintro _ _ ⟨b32, rfl, rfl⟩
     refine q_o rfl (Eff.appendE (tc := 130) (sc := 132) (fun z : Int => [Value.int .i64 z]) u22 el3 rfl rfl rfl rfl hwO rfl (iz_single rfl) rfl (iz_one1 _) (by decide) (by simp; omega) (by simp [maxLen]; omega)) ?_
     rintro _ _ ⟨Ha, pa, ca, rfl, hOa, rfl⟩
     refine q_d rfl q_np ?_
     refine q_o0 rfl (Eff.storeS (c := 104) [sv (pa, ca, w.l ++ [(rdZ w.x.s).1])] sz22 rfl rfl rfl rfl rfl (by rw [Nat.ble_eq]; simp) rfl put_mid) ?_
     rintro _ _ rfl
     refine DL.done (N.block_normal (N.next (q_k [2, 4, 5, 7, 14, 15, 16, 23, 24] [0, 102, 104, 109, 114, 130, 131, 132, 150, 151] ?_)))
     refine W.region ?_
     refine q_q q_ad (q_q q_mv (RL.nil ?_))
     exact N.famK ⟨w.k + 1, x2, pa, ca, w.l ++ [(rdZ w.x.s).1], Ha⟩ ⟨⟨by dsimp only; omega, hx2, hOa, by
         dsimp only
         have e1 : w.l = (rdZs w.k z.s).1 := congrArg Prod.fst hwR
         have e2 : w.x.s = (rdZs w.k z.s).2 := congrArg Prod.snd hwR
         simp only [rdZs]; rw [← e1, ← e2, hx2s]⟩, by dsimp only; omega⟩ (q_a .nil) (.to rfl) (.to rfl) (.to rfl)
    ·
     refine q_o rfl (q_c ent176 [150, 151] [150, 151] (Int_ct r w.x B hw)) ?_
     rintro _ _ ⟨_, ⟨x2, hx2, hx2s, rfl, rfl⟩, rfl⟩
     refine DL.two ?_ ?_
     ·
      refine q_o rfl (Yld.eff (Yld.load1 (c := 104) u22 rfl rfl rfl (single_self _ _) get_mid)) ?_
      rintro _ _ ⟨rfl, rfl⟩
      refine q_o rfl (Eff.buildSlice 132 u22 sz3 zc3 rfl rfl (.cons rfl rfl .nil) rfl) ?_
      rintro _ _ ⟨b32, rfl, rfl⟩
      refine q_o rfl (Eff.appendE (tc := 130) (sc := 132) (fun z : Int => [Value.int .i64 z]) u22 el3 rfl rfl rfl rfl hwO rfl (iz_single rfl) rfl (iz_one1 _) (by decide) (by simp; omega) (by simp [maxLen]; omega)) ?_
      rintro _ _ ⟨Ha, pa, ca, rfl, hOa, rfl⟩
      refine q_d rfl q_np ?_
      refine q_o0 rfl (Eff.storeS (c := 104) [sv (pa, ca, w.l ++ [(rdZ w.x.s).1])] sz22 rfl rfl rfl rfl rfl (by rw [Nat.ble_eq]; simp) rfl put_mid) ?_
      rintro _ _ rfl
      refine DL.done (N.block_normal (N.next (q_k [2, 4, 5, 7, 14, 15, 16, 23, 24] [0, 102, 104, 109, 114, 130, 131, 132, 150, 151] ?_)))
      refine W.region ?_
      refine q_q q_ad (q_q q_mv (RL.nil ?_))
      exact N.famK ⟨w.k + 1, x2, pa, ca, w.l ++ [(rdZ w.x.s).1], Ha⟩ ⟨⟨by dsimp only; omega, hx2, hOa, by
          dsimp only
          have e1 : w.l = (rdZs w.k z.s).1 := congrArg Prod.fst hwR
          have e2 : w.x.s = (rdZs w.k z.s).2 := congrArg Prod.snd hwR
          simp only [rdZs]; rw [← e1, ← e2, hx2s]⟩, by dsimp only; omega⟩ (q_a .nil) (.to rfl) (.to rfl) (.to rfl)
     ·
      refine q_o rfl (Eff.buildSlice 132 u22 sz3 zc3 rfl rfl (.cons rfl rfl .nil) rfl) ?_
      rintro _ _ ⟨b32, rfl, rfl⟩
      refine q_o rfl (Yld.eff (Yld.load1 (c := 104) u22 rfl rfl rfl (single_self _ _) get_mid)) ?_
      rintro _ _ ⟨rfl, rfl⟩
      refine q_o rfl (Eff.appendE (tc := 130) (sc := 132) (fun z : Int => [Value.int .i64 z]) u22 el3 rfl rfl rfl rfl hwO rfl (iz_single rfl) rfl (iz_one1 _) (by decide) (by simp; omega) (by simp [maxLen]; omega)) ?_
      rintro _ _ ⟨Ha, pa, ca, rfl, hOa, rfl⟩
      refine q_d rfl q_np ?_
      refine q_o0 rfl (Eff.storeS (c := 104) [sv (pa, ca, w.l ++ [(rdZ w.x.s).1])] sz22 rfl rfl rfl rfl rfl (by rw [Nat.ble_eq]; simp) rfl put_mid) ?_
      rintro _ _ rfl
      refine DL.done (N.block_normal (N.next (q_k [2, 4, 5, 7, 14, 15, 16, 23, 24] [0, 102, 104, 109, 114, 130, 131, 132, 150, 151] ?_)))
      refine W.region ?_
      refine q_q q_ad (q_q q_mv (RL.nil ?_))
      exact N.famK ⟨w.k + 1, x2, pa, ca, w.l ++ [(rdZ w.x.s).1], Ha⟩ ⟨⟨by dsimp only; omega, hx2, hOa, by
          dsimp only
          have e1 : w.l = (rdZs w.k z.s).1 := congrArg Prod.fst hwR
          have e2 : w.x.s = (rdZs w.k z.s).2 := congrArg Prod.snd hwR
          simp only [rdZs]; rw [← e1, ← e2, hx2s]⟩, by dsimp only; omega⟩ (q_a .nil) (.to rfl) (.to rfl) (.to rfl)
   ·
    have hwend : w.k = cv.toNat := by omega
    refine W.exit (N.then_exit (N.then_exit (N.block_eq (N.block_normal (N.next (q_k [2, 4, 5, 14, 15, 16] [0, 102, 104, 109, 114, 130, 131, 150, 151] ?_))))))
    refine W.region ?_
    refine q_q q_ad (q_q q_mv (RL.nil ?_))
    refine N.merge 131 130 rfl rfl rfl fun ha => ?_
    exact N.famK ⟨w.x, y.ss ++ [(w.p, w.c, w.l)], hjoin y.H w.H⟩ ⟨⟨by simp; omega, hw, fun t ht => by
        rcases List.mem_append.1 ht with h | h
        · exact ⟨(hyS t h).1.mono hjoin_l, (hyS t h).2⟩
        · simp only [List.mem_singleton] at h; subst h; exact ⟨hwO.sl.mono ha, by have := rdZs_len w.k z.s; have e : w.l = (rdZs w.k z.s).1 := congrArg Prod.fst hwR; dsimp only; rw [e, this]; omega⟩, by
        dsimp only; rw [List.length_append, List.length_singleton, List.map_append]
        have e1 : y.ss.map (·.2.2) = (rdLs y.ss.length (nums s, 0)).1 := congrArg Prod.fst hyR
        have e2 : y.x.s = (rdLs y.ss.length (nums s, 0)).2 := congrArg Prod.snd hyR
        simp only [rdLs]; rw [← e1, ← e2]
        have e3 : (w.l, w.x.s) = rdL y.x.s := by rw [hwR]; unfold rdL; rw [show y.x.s.1.length = y.x.l.length from rfl, hcv, ← hwend, hzs]
        rw [← e3]; rfl, by
        have e4 : w.x.s = (rdZs w.k z.s).2 := congrArg Prod.snd hwR
        have e5 := rdZs_short w.k z.s
        rw [← e4, hzs] at e5
        exact Nat.le_trans e5 (Nat.le_trans (rdC_short _ _) hyl)⟩, by simp; omega⟩ (.as rfl (by show Value.int .i64 _ = Value.int .i64 _; congr 1; simp) .nil) (.to rfl) (.as rfl (by dsimp only; rw [List.append_assoc, List.length_append, List.length_singleton, List.singleton_append, show 3 - (y.ss.length + 1) = 2 - y.ss.length by omega]) (.to rfl)) (.to rfl)
  ·
   have h3 : y.ss.length = 3 := by omega
   obtain ⟨s0, s1, s2, hyss⟩ := three h3
   rw [hyss] at hyS hyR ⊢
   obtain ⟨⟨q0, l0⟩, ⟨q1, l1⟩, ⟨q2, l2⟩⟩ : _ ∧ _ ∧ _ := ⟨hyS s0 (by simp), hyS s1 (by simp), hyS s2 (by simp)⟩
   obtain ⟨C, hCd⟩ : ∃ C : Cf, C = ⟨s0.2.2, s1.2.2, s2.2.2, s0.1, s0.2.1, s1.1, s1.2.1, s2.1, s2.2.1⟩ := ⟨_, rfl⟩
   have hC : C.In y.H := by rw [hCd]; exact ⟨q0, q1, q2⟩
   have hR : (decRaw (nums s)).1 = (C.o, C.n, C.l) ∧ (decRaw (nums s)).2 = y.x.s := by
     have := (rdLs_three (nums s, 0)).symm.trans hyR.symm
     simp only [Prod.mk.injEq, List.map_cons, List.map_nil, List.cons.injEq, and_true] at this
     rw [hCd]; exact ⟨by unfold decRaw; rw [this.1.1, this.1.2.1, this.1.2.2], this.2⟩
   obtain ⟨hR1, hR2⟩ := hR
   have hlo : C.o.length ≤ 400000 := by rw [hCd]; exact l0
   have hln2 : C.n.length ≤ 400000 := by rw [hCd]; exact l1
   have hll : C.l.length ≤ 400000 := by rw [hCd]; exact l2
   rw [show (([s0, s1, s2] ++ List.replicate (3 - [s0, s1, s2].length) ((none, 0, []) : Option Addr × Nat × List Int)).map sv) = [.slice C.po C.o.length C.co, .slice C.pn C.n.length C.cn, .slice C.pl C.l.length C.cl] by rw [hCd]; rfl]
   refine W.exit (N.then_exit (N.then_exit (N.block_eq (N.next (q_k [2, 4, 5] [0, 102, 104, 109, 114, 130, 131, 150, 151] ?_)))))
   refine W.seq (q_sr (q_q q_mv ?_))
   refine q_e (q_c ent75 [150, 151] [150, 151] (End_ct r y.x B hyx)) ?_
   rintro _ _ ⟨_, ⟨rfl, rfl⟩, rfl⟩
   refine q_q (q_b BinV.neq) (q_q q_mv ?_)
   refine' q_or 40 49 9 [2, 4, 5, 37, 38, 39] [0, 102, 104, 109, 114, 130, 131, 150, 151] ?_ ?_ ?_
   rotate_left 1
   ·
    intro hg40
    refine q_g (q_lw 104 u86 sz86) ?_
    refine RL.ge rfl rfl (q_c ent248 [131] [131] (cvalid_ct C y.H hC (by omega) (by omega) (by omega))) rfl ?_
    rintro _ _ ⟨_, ⟨rfl, rfl⟩, rfl⟩
    refine q_g Yld.nt (q_g q_mv ?_)
    refine' q_and 44 48 4 [2, 4, 5, 37, 38, 39, 40, 41, 42, 43] [0, 102, 104, 109, 114, 130, 131, 150, 151] ?_ ?_ ?_
    rotate_left 1
    ·
     intro hg44
     refine q_g (q_lw 104 u86 sz86) ?_
     refine RL.ge rfl rfl (q_c ent364 [131] [131] (cblank_ct C y.H hC (by omega) (by omega) (by omega))) rfl ?_
     rintro _ _ ⟨_, ⟨rfl, rfl⟩, rfl⟩
     refine q_g Yld.nt (q_g Yld.pk ?_)
     exact q_m
    ·
     intro hg44
     repeat refine q_gs ?_
     refine q_g Yld.pk ?_
     exact q_m
    refine q_q Yld.pk ?_
    exact q_m
   ·
    intro hg40
    repeat refine q_gs ?_
    refine RL.gskipU rfl rfl rfl ?_
    refine RL.gskipU rfl rfl rfl ?_
    refine RL.gskipU rfl rfl rfl (q_gs (q_q Yld.pk ?_))
    exact q_m
   refine q_nn (q_k [2, 4, 49] [0, 102, 104, 109, 114, 130, 131, 150, 151] ?_)
   refine W.cond rfl (fun hc49 => ?_) (fun hc49 => ?_)
   ·
    refine q_sr ?_
    refine q_q (Yld.buildP lay86 .nil rfl) (q_s 102 sz86 ?_)
    refine q_an ?_
    refine W.ret (N.then_ret ?_)
    exact q_r [131] (.cons (q_rc 102 u86 sz86) (.cons (.tmp rfl) .nil)) rfl rfl rfl ⟨⟨[], [], [], none, 0, none, 0, none, 0⟩, 11, _, rfl, ⟨⟨rfl, rfl⟩, ⟨rfl, rfl⟩, ⟨rfl, rfl⟩⟩, .inr ⟨rfl, rfl, fun ⟨h1, w, h2, h3⟩ => by
        rw [hR2] at h1; rw [hR1] at h2
        have h4 : C.Ok ∨ C.blank := h3.elim (fun h => .inl (h.congr h2.symm)) (fun h => .inr (h.congr h2.symm))
        unfold Cf.blank at h4
        rcases h4 with h4 | h4 <;> simp [h1, h4] at hc49⟩, rfl⟩
   ·
    refine W.skip (N.next (q_sr (q_q (q_lw 104 u86 sz86) (q_s 102 sz86 ?_))))
    refine q_an ?_
    refine W.ret ?_
    exact q_r [131] (.cons (q_rc 102 u86 sz86) (.cons (.tmp rfl) .nil)) rfl rfl rfl ⟨C, 0, _, rfl, hC, .inl ⟨rfl, by rw [hR2]; by_cases e : rdE y.x.s = 0; exact e; simp [e] at hc49, hR1, by unfold Cf.blank; by_cases e : C.Ok; exact .inl e; exact .inr (by simp [e] at hc49; simp [hc49])⟩, rfl⟩

end Go.Proofs.YtnakhfmnchmhjaaGreat
