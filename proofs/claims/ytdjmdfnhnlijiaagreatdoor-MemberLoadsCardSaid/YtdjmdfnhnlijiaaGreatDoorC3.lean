/- More contracts of package config. Written by program (walk2.py). -/
import Derived.Test.YtdjmdfnhnlijiaaGreatDoorC2
import Derived.Test.YtdjmdfnhnlijiaaGreatDoorSlMrg
namespace Go.Proofs.YtdjmdfnhnlijiaaGreatDoor
open SL Cfg
set_option linter.unusedVariables false
set_option linter.unusedSimpArgs false
theorem ent98 : Ent Tryz.prog 98 := ⟨_, _, Tryz.func98, by kernel_rfl, rfl⟩
theorem ent72 : Ent Tryz.prog 72 := ⟨_, _, Tryz.func72, by kernel_rfl, rfl⟩
theorem ent71 : Ent Tryz.prog 71 := ⟨_, _, Tryz.func71, by kernel_rfl, rfl⟩
theorem ent41 : Ent Tryz.prog 41 := ⟨_, _, Tryz.func41, by kernel_rfl, rfl⟩
theorem ent31 : Ent Tryz.prog 31 := ⟨_, _, Tryz.func31, by kernel_rfl, rfl⟩
theorem ent40 : Ent Tryz.prog 40 := ⟨_, _, Tryz.func40, by kernel_rfl, rfl⟩
theorem ent39 : Ent Tryz.prog 39 := ⟨_, _, Tryz.func39, by kernel_rfl, rfl⟩
set_option maxRecDepth 100000 in
set_option maxHeartbeats 400000 in
theorem index_ct (l : List Int) (H1 : PH) (p : Option Addr) (c : Nat) (hl : Sl H1 p c 1 (iz l)) (a : Int) : Ct Tryz.prog 98 [.slice p l.length c, .int .i64 a] [H1] (fun v Hs => (∃ r : Int, v = .int .i64 r ∧ (0 ≤ r ↔ a ∈ l)) ∧ Hs = [H1]) := by
  refine Ct.body Tryz.func98 rfl Tryz.ntmps98 rfl ?_
  intro E F
  have hmxl := hl.len_le
  simp only [iz_len, maxLen] at hmxl
  refine W.seq ?_
  refine W.region ?_
  refine RL.q (Yld.assign rfl) rfl ?_
  refine RL.nil ?_
  refine N.next ?_
  refine W.seq ?_
  refine W.seq ?_
  refine W.region ?_
  refine RL.q (Yld.move rfl) rfl ?_
  refine RL.q (Yld.lenSl Tryz.underlying22 rfl) rfl ?_
  refine RL.q (Yld.move rfl) rfl ?_
  refine RL.nil ?_
  refine N.next ?_
  refine W.block ?_
  refine W.loopK (ι := Nat) (fun j => (j ≤ l.length ∧ ∀ (i : Nat) z, i < j → l[i]? = some z → a ≠ z)) (fun j => [(8, .int .i64 (j : Nat))]) (fun j => []) (fun j => l.length - j) (.cons (k := 0) rfl (.cons (k := 1) rfl (.cons (k := 7) rfl .nil))) (.cons (k := 0) rfl (.cons (k := 1) rfl .nil)) 0 ?_ ?_ ?_ ?_
  · exact ⟨Nat.zero_le _, upto0⟩
  · exact (.as rfl (by first | rfl | (simp; done) | (congr 1; simp; done) | (congr 1; omega)) .nil)
  · exact .nil
  rintro j ⟨hj, hI⟩
  refine W.keep (.cons (k := 8) rfl (.cons (k := 0) rfl (.cons (k := 1) rfl (.cons (k := 7) rfl .nil)))) (.cons (k := 0) rfl (.cons (k := 1) rfl .nil)) ?_
  refine W.seq ?_
  refine W.region ?_
  refine RL.q (Yld.bin rfl rfl BinV.lss) rfl ?_
  refine RL.nil ?_
  refine N.next ?_
  refine W.seq ?_
  first | refine W.condD rfl (fun hc9 => ?_) (fun hc9 => ?_) | (refine W.cond rfl (fun hc9 => ?_) (fun hc9 => ?_) <;> try simp only [Bool.or_eq_true, Bool.and_eq_true, Bool.not_eq_true', Bool.not_eq_false', decide_eq_true_eq, Bool.or_eq_false_iff, Bool.and_eq_false_iff, decide_eq_false_iff_not, beq_iff_eq, beq_eq_false_iff_ne, ne_eq, Decidable.not_not] at hc9)
  ·
    obtain ⟨z, hz, hlz⟩ := iz_at (show j < l.length by omega)
    refine W.skip ?_
    refine N.next ?_
    refine W.seq ?_
    refine W.block ?_
    refine W.seq ?_
    refine W.region ?_
    refine RL.q (Yld.move rfl) rfl ?_
    refine RL.q (Yld.assign rfl) rfl ?_
    refine RL.nil ?_
    refine N.next ?_
    refine W.seq ?_
    refine W.region ?_
    refine RL.q (Yld.move rfl) rfl ?_
    refine RL.q (Yld.move rfl) rfl ?_
    refine RL.q (Yld.move rfl) rfl ?_
    refine RL.q (Yld.indexRow Tryz.underlying22 sz3 rfl rfl (by first | assumption | exact Own.sl (by assumption)) (by first | rfl | omega | (simp; done) | (simp; omega)) (by omega) (by first | omega | (simp; done) | (simp; omega))) rfl ?_
    refine RL.q (by first | exact (Yld.loadRow1 (cl := 1) Tryz.underlying3 rfl rfl rfl (by first | assumption | exact Own.sl (by assumption)) (by assumption)) | exact (Yld.loadRowF (cl := 1) (j := 0) Tryz.underlying3 rfl rfl rfl (by first | assumption | exact Own.sl (by assumption)) (by assumption) rfl)) rfl ?_
    refine RL.q (Yld.bin rfl rfl BinV.eql) rfl ?_
    refine RL.nil ?_
    refine N.next ?_
    refine W.keep (.cons (k := 0) rfl (.cons (k := 1) rfl (.cons (k := 5) rfl (.cons (k := 7) rfl (.cons (k := 8) rfl (.cons (k := 16) rfl .nil)))))) (.cons (k := 0) rfl (.cons (k := 1) rfl .nil)) ?_
    first | refine W.condD rfl (fun hc16 => ?_) (fun hc16 => ?_) | (refine W.cond rfl (fun hc16 => ?_) (fun hc16 => ?_) <;> try simp only [Bool.or_eq_true, Bool.and_eq_true, Bool.not_eq_true', Bool.not_eq_false', decide_eq_true_eq, Bool.or_eq_false_iff, Bool.and_eq_false_iff, decide_eq_false_iff_not, beq_iff_eq, beq_eq_false_iff_ne, ne_eq, Decidable.not_not] at hc16)
    ·
      refine W.seq ?_
      refine W.region ?_
      refine RL.q (Yld.move rfl) rfl ?_
      refine RL.q (Yld.assign rfl) rfl ?_
      refine RL.nil ?_
      refine N.next ?_
      refine W.keep (.cons (k := 4) rfl .nil) (.cons (k := 0) rfl (.cons (k := 1) rfl .nil)) ?_
      refine W.ret ?_
      refine N.block_ret ?_
      refine N.then_ret ?_
      refine N.then_ret ?_
      refine N.block_ret ?_
      refine N.then_ret ?_
      exact N.retBy [1] (.cons (.tmp rfl) .nil) rfl rfl rfl rfl ⟨⟨_, rfl, ⟨fun _ => by rw [hc16]; exact List.mem_of_getElem? hz, fun _ => by omega⟩⟩, rfl⟩
    ·
      refine W.skip ?_
      refine N.block_normal ?_
      refine N.next ?_
      refine W.region ?_
      refine RL.q (Yld.bin rfl rfl (by first | exact BinV.add (by omega) (by omega) | exact BinV.addW)) rfl ?_
      refine RL.q (Yld.move rfl) rfl ?_
      refine RL.nil ?_
      exact N.famK (j + 1) ⟨⟨by omega, upto hI hz hc16⟩, by omega⟩ (.as rfl (by first | rfl | (simp; done) | (congr 1; simp; done) | (congr 1; omega)) .nil) (.cons rfl (.cons rfl (.cons rfl .nil))) .nil (.cons rfl (.cons rfl .nil))
  ·
    refine W.exit ?_
    refine N.then_exit ?_
    refine N.then_exit ?_
    refine N.block_eq ?_
    refine N.next ?_
    refine W.keep .nil (.cons (k := 0) rfl (.cons (k := 1) rfl .nil)) ?_
    refine W.seq ?_
    refine W.region ?_
    refine RL.q (Yld.assign rfl) rfl ?_
    refine RL.nil ?_
    refine N.next ?_
    refine W.ret ?_
    exact N.retBy [1] (.cons (.tmp rfl) .nil) rfl rfl rfl rfl ⟨⟨_, rfl, ⟨fun h => absurd h (by omega), fun h => by obtain ⟨i, hi⟩ := List.getElem?_of_mem h; exact absurd rfl (hI i a (by have := (List.getElem?_eq_some_iff.1 hi).1; omega) hi)⟩⟩, rfl⟩

set_option maxRecDepth 100000 in
set_option maxHeartbeats 400000 in
theorem contains_ct (l : List Int) (H1 : PH) (p : Option Addr) (c : Nat) (hl : Sl H1 p c 1 (iz l)) (a : Int) : Ct Tryz.prog 72 [.slice p l.length c, .int .i64 a] [H1] (fun v Hs => v = .bool (decide (a ∈ l)) ∧ Hs = [H1]) := by
  refine Ct.body Tryz.func72 rfl Tryz.ntmps72 rfl ?_
  intro E F
  refine W.seq ?_
  refine W.region ?_
  refine RL.q (Yld.assign rfl) rfl ?_
  refine RL.nil ?_
  refine N.next ?_
  refine W.seq ?_
  refine W.region ?_
  refine RL.q (Yld.move rfl) rfl ?_
  refine RL.q (Yld.move rfl) rfl ?_
  refine RL.e (Eff.call ent98 [1] [1] (.cons rfl (.cons rfl .nil)) (index_ct l _ _ _ hl a) rfl rfl rfl rfl (by rintro _ _ ⟨_, rfl⟩; rfl)) rfl ?_
  rintro _ _ ⟨_, ⟨⟨r, rfl, hr⟩, rfl⟩, rfl⟩
  refine RL.q (Yld.bin rfl rfl BinV.geq) rfl ?_
  refine RL.q (Yld.assign rfl) rfl ?_
  refine RL.nil ?_
  refine N.next ?_
  refine W.keep (.cons (k := 4) rfl .nil) (.cons (k := 0) rfl (.cons (k := 1) rfl .nil)) ?_
  refine W.ret ?_
  exact N.retBy [1] (.cons (.tmp rfl) .nil) rfl rfl rfl rfl ⟨by show Value.bool _ = _; congr 1; exact decide_eq_decide.2 hr, rfl⟩

set_option maxRecDepth 100000 in
set_option maxHeartbeats 400000 in
theorem cloneI_ct (l : List Int) (H1 : PH) (p : Option Addr) (c : Nat) (hl : Sl H1 p c 1 (iz l)) (hb : l.length ≤ 1000000) : Ct Tryz.prog 41 [.slice p l.length c] [H1] (fun v Hs => ∃ H' p' c', v = .slice p' l.length c' ∧ Own H' p' c' 3 1 (iz l) ∧ Hs = [H1, H']) := by
  refine Ct.body Tryz.func41 rfl Tryz.ntmps41 rfl ?_
  intro E F
  have hmxl := hl.len_le
  simp only [iz_len, maxLen] at hmxl
  refine W.seq ?_
  refine W.imp (Imp.empty _ 30) ?_
  refine W.region ?_
  refine RL.q (Yld.assign rfl) rfl ?_
  refine RL.nil ?_
  refine N.next ?_
  refine W.seq ?_
  refine W.seq ?_
  refine W.region ?_
  refine RL.q (Yld.move rfl) rfl ?_
  refine RL.q (Yld.bin rfl rfl (BinV.eqlSN Tryz.underlying22)) rfl ?_
  refine RL.nil ?_
  refine N.next ?_
  refine W.cond rfl (fun hc4 => ?_) (fun hc4 => ?_)
  ·
    obtain rfl : p = none := by cases p with | none => rfl | some a => cases hc4
    obtain ⟨hl0, _⟩ := hl
    obtain rfl : l = [] := List.map_eq_nil_iff.1 hl0
    refine W.seq ?_
    refine W.region ?_
    refine RL.q (Yld.assign rfl) rfl ?_
    refine RL.nil ?_
    refine N.next ?_
    refine W.ret ?_
    refine N.then_ret ?_
    exact N.retBy [1, 30] (.cons (.tmp rfl) .nil) rfl rfl rfl rfl ⟨emp, none, 0, rfl, Own.nil _ _, rfl⟩
  ·
    refine W.skip ?_
    refine N.next ?_
    refine W.seq ?_
    refine W.region ?_
    refine RL.e (Eff.buildSlice 105 Tryz.underlying22 sz3 zc3 rfl rfl .nil rfl) rfl ?_
    rintro _ _ ⟨b5, rfl, rfl⟩
    refine RL.q (Yld.move rfl) rfl ?_
    refine RL.e (Eff.appendE (tc := 105) (sc := 1) (fun z : Int => [Value.int .i64 z]) Tryz.underlying22 el3 rfl rfl rfl rfl (iz_none rfl) rfl hl rfl (iz_one1 _) (by decide) (by first | (simp; done) | (simp; omega)) (by first | (simp [maxLen]; done) | (simp [maxLen]; omega))) rfl ?_
    rintro _ _ ⟨Ha, pa, ca, rfl, hOa, rfl⟩
    refine RL.q (Yld.assign rfl) rfl ?_
    refine RL.nil ?_
    refine N.next ?_
    refine W.keep (.cons (k := 2) rfl .nil) (.cons (k := 0) rfl (.cons (k := 1) rfl (.cons (k := 30) rfl (.cons (k := 105) rfl .nil)))) ?_
    refine W.ret ?_
    exact N.retBy [1, 105] (.cons (.tmp rfl) .nil) rfl rfl rfl rfl ⟨Ha, pa, ca, rfl, hOa, rfl⟩

set_option maxRecDepth 100000 in
set_option maxHeartbeats 400000 in
theorem equal_ct (l : List Int) (H1 : PH) (p : Option Addr) (c : Nat) (hl : Sl H1 p c 1 (iz l)) (m : List Int) (H2 : PH) (q : Option Addr) (d : Nat) (hm : Sl H2 q d 1 (iz m)) : Ct Tryz.prog 31 [.slice p l.length c, .slice q m.length d] [H1, H2] (fun v Hs => v = .bool (decide (l = m)) ∧ Hs = [H1, H2]) := by
  refine Ct.body Tryz.func31 rfl Tryz.ntmps31 rfl ?_
  intro E F
  have hmxl := hl.len_le
  simp only [iz_len, maxLen] at hmxl
  have hmxm := hm.len_le
  simp only [iz_len, maxLen] at hmxm
  refine W.seq ?_
  refine W.region ?_
  refine RL.q (Yld.assign rfl) rfl ?_
  refine RL.nil ?_
  refine N.next ?_
  refine W.seq ?_
  refine W.seq ?_
  refine W.region ?_
  refine RL.q (Yld.move rfl) rfl ?_
  refine RL.q (Yld.lenSl Tryz.underlying22 rfl) rfl ?_
  refine RL.q (Yld.move rfl) rfl ?_
  refine RL.q (Yld.lenSl Tryz.underlying22 rfl) rfl ?_
  refine RL.q (Yld.bin rfl rfl BinV.neq) rfl ?_
  refine RL.nil ?_
  refine N.next ?_
  refine W.keep (.cons (k := 0) rfl (.cons (k := 1) rfl (.cons (k := 10) rfl .nil))) (.cons (k := 0) rfl (.cons (k := 1) rfl (.cons (k := 2) rfl .nil))) ?_
  first | refine W.condD rfl (fun hc10 => ?_) (fun hc10 => ?_) | (refine W.cond rfl (fun hc10 => ?_) (fun hc10 => ?_) <;> try simp only [Bool.or_eq_true, Bool.and_eq_true, Bool.not_eq_true', Bool.not_eq_false', decide_eq_true_eq, Bool.or_eq_false_iff, Bool.and_eq_false_iff, decide_eq_false_iff_not, beq_iff_eq, beq_eq_false_iff_ne, ne_eq, Decidable.not_not] at hc10)
  ·
    refine W.seq ?_
    refine W.region ?_
    refine RL.q (Yld.assign rfl) rfl ?_
    refine RL.nil ?_
    refine N.next ?_
    refine W.ret ?_
    refine N.then_ret ?_
    exact N.retBy [1, 2] (.cons (.tmp rfl) .nil) rfl rfl rfl rfl ⟨by rw [decide_eq_false (by rintro rfl; exact hc10 rfl)]; rfl, rfl⟩
  ·
    refine W.skip ?_
    refine N.next ?_
    refine W.seq ?_
    refine W.seq ?_
    refine W.region ?_
    refine RL.q (Yld.move rfl) rfl ?_
    refine RL.q (Yld.lenSl Tryz.underlying22 rfl) rfl ?_
    refine RL.q (Yld.move rfl) rfl ?_
    refine RL.nil ?_
    refine N.next ?_
    refine W.block ?_
    refine W.loopK (ι := Nat) (fun j => (j ≤ l.length ∧ ∀ i : Nat, i < j → l[i]? = m[i]?)) (fun j => [(13, .int .i64 (j : Nat))]) (fun j => []) (fun j => l.length - j) (.cons (k := 0) rfl (.cons (k := 1) rfl (.cons (k := 12) rfl .nil))) (.cons (k := 0) rfl (.cons (k := 1) rfl (.cons (k := 2) rfl .nil))) 0 ?_ ?_ ?_ ?_
    · exact ⟨Nat.zero_le _, fun _ h => absurd h (Nat.not_lt_zero _)⟩
    · exact (.as rfl (by first | rfl | (simp; done) | (congr 1; simp; done) | (congr 1; omega)) .nil)
    · exact .nil
    rintro j ⟨hj, hI⟩
    refine W.keep (.cons (k := 13) rfl (.cons (k := 0) rfl (.cons (k := 1) rfl (.cons (k := 12) rfl .nil)))) (.cons (k := 0) rfl (.cons (k := 1) rfl (.cons (k := 2) rfl .nil))) ?_
    refine W.seq ?_
    refine W.region ?_
    refine RL.q (Yld.bin rfl rfl BinV.lss) rfl ?_
    refine RL.nil ?_
    refine N.next ?_
    refine W.seq ?_
    first | refine W.condD rfl (fun hc14 => ?_) (fun hc14 => ?_) | (refine W.cond rfl (fun hc14 => ?_) (fun hc14 => ?_) <;> try simp only [Bool.or_eq_true, Bool.and_eq_true, Bool.not_eq_true', Bool.not_eq_false', decide_eq_true_eq, Bool.or_eq_false_iff, Bool.and_eq_false_iff, decide_eq_false_iff_not, beq_iff_eq, beq_eq_false_iff_ne, ne_eq, Decidable.not_not] at hc14)
    ·
      obtain ⟨a, ha, hla⟩ := iz_at (show j < l.length by omega)
      obtain ⟨b, hb, hlb⟩ := iz_at (show j < m.length by omega)
      refine W.skip ?_
      refine N.next ?_
      refine W.seq ?_
      refine W.block ?_
      refine W.seq ?_
      refine W.region ?_
      refine RL.q (Yld.move rfl) rfl ?_
      refine RL.q (Yld.assign rfl) rfl ?_
      refine RL.nil ?_
      refine N.next ?_
      refine W.seq ?_
      refine W.draw (.q 0 (.q 1 (.q 2 (.q 3 (.q 4 (.q 5 (.q 6 (.q 7 (.q 8 .done))))))))) (.cons (k := 0) rfl (.cons (k := 1) rfl (.cons (k := 2) rfl .nil))) mix (by kernel_rfl) (by kernel_rfl) ?_
      refine DL.q rfl (Yld.move rfl) rfl ?_
      refine DL.q rfl (Yld.move rfl) rfl ?_
      refine DL.q rfl (Yld.indexRow Tryz.underlying22 sz3 rfl rfl hl (by first | rfl | omega | (simp; done) | (simp; omega)) (by omega) (by first | omega | (simp; done) | (simp; omega))) rfl ?_
      refine DL.q rfl (Yld.loadRow1 (cl := 1) Tryz.underlying3 rfl rfl rfl hl hla) rfl ?_
      refine DL.q rfl (Yld.move rfl) rfl ?_
      refine DL.q rfl (Yld.move rfl) rfl ?_
      refine DL.q rfl (Yld.indexRow Tryz.underlying22 sz3 rfl rfl hm (by first | rfl | omega | (simp; done) | (simp; omega)) (by omega) (by first | omega | (simp; done) | (simp; omega))) rfl ?_
      refine DL.q rfl (Yld.loadRow1 (cl := 2) Tryz.underlying3 rfl rfl rfl hm hlb) rfl ?_
      refine DL.q rfl (Yld.bin rfl rfl BinV.neq) rfl ?_
      refine DL.done ?_
      refine N.next ?_
      refine W.keep (.cons (k := 0) rfl (.cons (k := 1) rfl (.cons (k := 12) rfl (.cons (k := 13) rfl (.cons (k := 24) rfl .nil))))) (.cons (k := 0) rfl (.cons (k := 1) rfl (.cons (k := 2) rfl .nil))) ?_
      first | refine W.condD rfl (fun hc24 => ?_) (fun hc24 => ?_) | (refine W.cond rfl (fun hc24 => ?_) (fun hc24 => ?_) <;> try simp only [Bool.or_eq_true, Bool.and_eq_true, Bool.not_eq_true', Bool.not_eq_false', decide_eq_true_eq, Bool.or_eq_false_iff, Bool.and_eq_false_iff, decide_eq_false_iff_not, beq_iff_eq, beq_eq_false_iff_ne, ne_eq, Decidable.not_not] at hc24)
      ·
        refine W.seq ?_
        refine W.region ?_
        refine RL.q (Yld.assign rfl) rfl ?_
        refine RL.nil ?_
        refine N.next ?_
        refine W.keep (.cons (k := 4) rfl .nil) (.cons (k := 0) rfl (.cons (k := 1) rfl (.cons (k := 2) rfl .nil))) ?_
        refine W.ret ?_
        refine N.block_ret ?_
        refine N.then_ret ?_
        refine N.then_ret ?_
        refine N.block_ret ?_
        refine N.then_ret ?_
        exact N.retBy [1, 2] (.cons (.tmp rfl) .nil) rfl rfl rfl rfl ⟨by rw [decide_eq_false (by rintro rfl; rw [ha] at hb; cases hb; exact hc24 rfl)]; rfl, rfl⟩
      ·
        refine W.skip ?_
        refine N.block_normal ?_
        refine N.next ?_
        refine W.region ?_
        refine RL.q (Yld.bin rfl rfl (by first | exact BinV.add (by omega) (by omega) | exact BinV.addW)) rfl ?_
        refine RL.q (Yld.move rfl) rfl ?_
        refine RL.nil ?_
        exact N.famK (j + 1) ⟨⟨by omega, fun i hi => (Nat.lt_succ_iff_lt_or_eq.1 hi).elim (hI i) (fun e => by subst e; rw [ha, hb]; congr 1; omega)⟩, by omega⟩ (.as rfl (by first | rfl | (simp; done) | (congr 1; simp; done) | (congr 1; omega)) .nil) (.cons rfl (.cons rfl (.cons rfl .nil))) .nil (.cons rfl (.cons rfl (.cons rfl .nil)))
    ·
      refine W.exit ?_
      refine N.then_exit ?_
      refine N.then_exit ?_
      refine N.block_eq ?_
      refine N.next ?_
      refine W.keep .nil (.cons (k := 0) rfl (.cons (k := 1) rfl (.cons (k := 2) rfl .nil))) ?_
      refine W.seq ?_
      refine W.region ?_
      refine RL.q (Yld.assign rfl) rfl ?_
      refine RL.nil ?_
      refine N.next ?_
      refine W.ret ?_
      exact N.retBy [1, 2] (.cons (.tmp rfl) .nil) rfl rfl rfl rfl ⟨by rw [decide_eq_true (eq_of_get (by omega) fun i hi => hI i (by omega))]; rfl, rfl⟩

set_option maxRecDepth 100000 in
set_option maxHeartbeats 400000 in
theorem equalS_ct (l : List Int) (H1 : PH) (p : Option Addr) (c : Nat) (hl : Sl H1 p c 1 (iz l)) (m : List Int) (q : Option Addr) (d : Nat) (hm : Sl H1 q d 1 (iz m)) : Ct Tryz.prog 31 [.slice p l.length c, .slice q m.length d] [H1] (fun v Hs => v = .bool (decide (l = m)) ∧ Hs = [H1]) := by
  refine Ct.body Tryz.func31 rfl Tryz.ntmps31 rfl ?_
  intro E F
  have hmxl := hl.len_le
  simp only [iz_len, maxLen] at hmxl
  have hmxm := hm.len_le
  simp only [iz_len, maxLen] at hmxm
  refine W.seq ?_
  refine W.region ?_
  refine RL.q (Yld.assign rfl) rfl ?_
  refine RL.nil ?_
  refine N.next ?_
  refine W.seq ?_
  refine W.seq ?_
  refine W.region ?_
  refine RL.q (Yld.move rfl) rfl ?_
  refine RL.q (Yld.lenSl Tryz.underlying22 rfl) rfl ?_
  refine RL.q (Yld.move rfl) rfl ?_
  refine RL.q (Yld.lenSl Tryz.underlying22 rfl) rfl ?_
  refine RL.q (Yld.bin rfl rfl BinV.neq) rfl ?_
  refine RL.nil ?_
  refine N.next ?_
  refine W.keep (.cons (k := 0) rfl (.cons (k := 1) rfl (.cons (k := 10) rfl .nil))) (.cons (k := 0) rfl (.cons (k := 1) rfl .nil)) ?_
  first | refine W.condD rfl (fun hc10 => ?_) (fun hc10 => ?_) | (refine W.cond rfl (fun hc10 => ?_) (fun hc10 => ?_) <;> try simp only [Bool.or_eq_true, Bool.and_eq_true, Bool.not_eq_true', Bool.not_eq_false', decide_eq_true_eq, Bool.or_eq_false_iff, Bool.and_eq_false_iff, decide_eq_false_iff_not, beq_iff_eq, beq_eq_false_iff_ne, ne_eq, Decidable.not_not] at hc10)
  ·
    refine W.seq ?_
    refine W.region ?_
    refine RL.q (Yld.assign rfl) rfl ?_
    refine RL.nil ?_
    refine N.next ?_
    refine W.ret ?_
    refine N.then_ret ?_
    exact N.retBy [1] (.cons (.tmp rfl) .nil) rfl rfl rfl rfl ⟨by rw [decide_eq_false (by rintro rfl; exact hc10 rfl)]; rfl, rfl⟩
  ·
    refine W.skip ?_
    refine N.next ?_
    refine W.seq ?_
    refine W.seq ?_
    refine W.region ?_
    refine RL.q (Yld.move rfl) rfl ?_
    refine RL.q (Yld.lenSl Tryz.underlying22 rfl) rfl ?_
    refine RL.q (Yld.move rfl) rfl ?_
    refine RL.nil ?_
    refine N.next ?_
    refine W.block ?_
    refine W.loopK (ι := Nat) (fun j => (j ≤ l.length ∧ ∀ i : Nat, i < j → l[i]? = m[i]?)) (fun j => [(13, .int .i64 (j : Nat))]) (fun j => []) (fun j => l.length - j) (.cons (k := 0) rfl (.cons (k := 1) rfl (.cons (k := 12) rfl .nil))) (.cons (k := 0) rfl (.cons (k := 1) rfl .nil)) 0 ?_ ?_ ?_ ?_
    · exact ⟨Nat.zero_le _, fun _ h => absurd h (Nat.not_lt_zero _)⟩
    · exact (.as rfl (by first | rfl | (simp; done) | (congr 1; simp; done) | (congr 1; omega)) .nil)
    · exact .nil
    rintro j ⟨hj, hI⟩
    refine W.keep (.cons (k := 13) rfl (.cons (k := 0) rfl (.cons (k := 1) rfl (.cons (k := 12) rfl .nil)))) (.cons (k := 0) rfl (.cons (k := 1) rfl .nil)) ?_
    refine W.seq ?_
    refine W.region ?_
    refine RL.q (Yld.bin rfl rfl BinV.lss) rfl ?_
    refine RL.nil ?_
    refine N.next ?_
    refine W.seq ?_
    first | refine W.condD rfl (fun hc14 => ?_) (fun hc14 => ?_) | (refine W.cond rfl (fun hc14 => ?_) (fun hc14 => ?_) <;> try simp only [Bool.or_eq_true, Bool.and_eq_true, Bool.not_eq_true', Bool.not_eq_false', decide_eq_true_eq, Bool.or_eq_false_iff, Bool.and_eq_false_iff, decide_eq_false_iff_not, beq_iff_eq, beq_eq_false_iff_ne, ne_eq, Decidable.not_not] at hc14)
    ·
      obtain ⟨a, ha, hla⟩ := iz_at (show j < l.length by omega)
      obtain ⟨b, hb, hlb⟩ := iz_at (show j < m.length by omega)
      refine W.skip ?_
      refine N.next ?_
      refine W.seq ?_
      refine W.block ?_
      refine W.seq ?_
      refine W.region ?_
      refine RL.q (Yld.move rfl) rfl ?_
      refine RL.q (Yld.assign rfl) rfl ?_
      refine RL.nil ?_
      refine N.next ?_
      refine W.seq ?_
      refine W.draw (.q 0 (.q 1 (.q 2 (.q 3 (.q 4 (.q 5 (.q 6 (.q 7 (.q 8 .done))))))))) (.cons (k := 0) rfl (.cons (k := 1) rfl .nil)) mix (by kernel_rfl) (by kernel_rfl) ?_
      refine DL.q rfl (Yld.move rfl) rfl ?_
      refine DL.q rfl (Yld.move rfl) rfl ?_
      refine DL.q rfl (Yld.indexRow Tryz.underlying22 sz3 rfl rfl hl (by first | rfl | omega | (simp; done) | (simp; omega)) (by omega) (by first | omega | (simp; done) | (simp; omega))) rfl ?_
      refine DL.q rfl (Yld.loadRow1 (cl := 1) Tryz.underlying3 rfl rfl rfl hl hla) rfl ?_
      refine DL.q rfl (Yld.move rfl) rfl ?_
      refine DL.q rfl (Yld.move rfl) rfl ?_
      refine DL.q rfl (Yld.indexRow Tryz.underlying22 sz3 rfl rfl hm (by first | rfl | omega | (simp; done) | (simp; omega)) (by omega) (by first | omega | (simp; done) | (simp; omega))) rfl ?_
      refine DL.q rfl (Yld.loadRow1 (cl := 1) Tryz.underlying3 rfl rfl rfl hm hlb) rfl ?_
      refine DL.q rfl (Yld.bin rfl rfl BinV.neq) rfl ?_
      refine DL.done ?_
      refine N.next ?_
      refine W.keep (.cons (k := 0) rfl (.cons (k := 1) rfl (.cons (k := 12) rfl (.cons (k := 13) rfl (.cons (k := 24) rfl .nil))))) (.cons (k := 0) rfl (.cons (k := 1) rfl .nil)) ?_
      first | refine W.condD rfl (fun hc24 => ?_) (fun hc24 => ?_) | (refine W.cond rfl (fun hc24 => ?_) (fun hc24 => ?_) <;> try simp only [Bool.or_eq_true, Bool.and_eq_true, Bool.not_eq_true', Bool.not_eq_false', decide_eq_true_eq, Bool.or_eq_false_iff, Bool.and_eq_false_iff, decide_eq_false_iff_not, beq_iff_eq, beq_eq_false_iff_ne, ne_eq, Decidable.not_not] at hc24)
      ·
        refine W.seq ?_
        refine W.region ?_
        refine RL.q (Yld.assign rfl) rfl ?_
        refine RL.nil ?_
        refine N.next ?_
        refine W.keep (.cons (k := 4) rfl .nil) (.cons (k := 0) rfl (.cons (k := 1) rfl .nil)) ?_
        refine W.ret ?_
        refine N.block_ret ?_
        refine N.then_ret ?_
        refine N.then_ret ?_
        refine N.block_ret ?_
        refine N.then_ret ?_
        exact N.retBy [1] (.cons (.tmp rfl) .nil) rfl rfl rfl rfl ⟨by rw [decide_eq_false (by rintro rfl; rw [ha] at hb; cases hb; exact hc24 rfl)]; rfl, rfl⟩
      ·
        refine W.skip ?_
        refine N.block_normal ?_
        refine N.next ?_
        refine W.region ?_
        refine RL.q (Yld.bin rfl rfl (by first | exact BinV.add (by omega) (by omega) | exact BinV.addW)) rfl ?_
        refine RL.q (Yld.move rfl) rfl ?_
        refine RL.nil ?_
        exact N.famK (j + 1) ⟨⟨by omega, fun i hi => (Nat.lt_succ_iff_lt_or_eq.1 hi).elim (hI i) (fun e => by subst e; rw [ha, hb]; congr 1; omega)⟩, by omega⟩ (.as rfl (by first | rfl | (simp; done) | (congr 1; simp; done) | (congr 1; omega)) .nil) (.cons rfl (.cons rfl (.cons rfl .nil))) .nil (.cons rfl (.cons rfl .nil))
    ·
      refine W.exit ?_
      refine N.then_exit ?_
      refine N.then_exit ?_
      refine N.block_eq ?_
      refine N.next ?_
      refine W.keep .nil (.cons (k := 0) rfl (.cons (k := 1) rfl .nil)) ?_
      refine W.seq ?_
      refine W.region ?_
      refine RL.q (Yld.assign rfl) rfl ?_
      refine RL.nil ?_
      refine N.next ?_
      refine W.ret ?_
      exact N.retBy [1] (.cons (.tmp rfl) .nil) rfl rfl rfl rfl ⟨by rw [decide_eq_true (eq_of_get (by omega) fun i hi => hI i (by omega))]; rfl, rfl⟩

set_option maxRecDepth 100000 in
set_option maxHeartbeats 400000 in
theorem minusC_ct (b : Nat) (m : List Int) (H2 : PH) (q : Option Addr) (d : Nat) (hm : Sl H2 q d 1 (iz m)) (z : Int) : Ct Tryz.prog 71 [.int .i64 z, .pointer (some ⟨b, 0, none⟩)] [single b (.cells [.slice q m.length d].toArray 22 (0, 0)), H2] (fun v Hs => v = .bool (decide (z ∈ m)) ∧ Hs = [single b (.cells [.slice q m.length d].toArray 22 (0, 0)), H2]) := by
  refine Ct.body Tryz.func71 rfl Tryz.ntmps71 rfl ?_
  intro E F
  refine W.seq ?_
  refine W.region ?_
  refine RL.q (Yld.assign rfl) rfl ?_
  refine RL.nil ?_
  refine N.next ?_
  refine W.seq ?_
  refine W.region ?_
  refine RL.q (Yld.load1 (c := 1) Tryz.underlying22 rfl rfl rfl (by first | exact single_self _ _ | exact pset_self _ _ _ | assumption) rfl) rfl ?_
  refine RL.q (Yld.move rfl) rfl ?_
  refine RL.e (Eff.call ent72 [2] [2] (.cons rfl (.cons rfl .nil)) (contains_ct m _ _ _ hm z) rfl rfl rfl rfl (by rintro _ _ ⟨_, rfl⟩; rfl)) rfl ?_
  rintro _ _ ⟨_, ⟨rfl, rfl⟩, rfl⟩
  refine RL.q (Yld.assign rfl) rfl ?_
  refine RL.nil ?_
  refine N.next ?_
  refine W.keep (.cons (k := 3) rfl .nil) (.cons (k := 0) rfl (.cons (k := 1) rfl (.cons (k := 2) rfl .nil))) ?_
  refine W.ret ?_
  exact N.retBy [1, 2] (.cons (.tmp rfl) .nil) rfl rfl rfl rfl ⟨rfl, rfl⟩

set_option maxRecDepth 100000 in
set_option maxHeartbeats 400000 in
theorem cminus_ct (l : List Int) (H1 : PH) (p : Option Addr) (c : Nat) (hl : Sl H1 p c 1 (iz l)) (m : List Int) (H2 : PH) (q : Option Addr) (d : Nat) (hm : Sl H2 q d 1 (iz m)) (hb : l.length ≤ 1000000) : Ct Tryz.prog 39 [.slice p l.length c, .slice q m.length d] [H1, H2] (fun v Hs => ∃ H' p' c', v = .slice p' (minusL l m).length c' ∧ Own H' p' c' 3 1 (iz (minusL l m)) ∧ Hs = [H1, H2, H']) := by
  refine Ct.body Tryz.func39 rfl Tryz.ntmps39 rfl ?_
  intro E F
  have hmxl := hl.len_le
  simp only [iz_len, maxLen] at hmxl
  have hmxm := hm.len_le
  simp only [iz_len, maxLen] at hmxm
  refine W.seq ?_
  refine W.region ?_
  refine RL.e (Eff.box 103 _ rfl rfl) rfl ?_
  rintro _ _ ⟨b3, rfl, rfl⟩
  refine RL.q (Yld.assign rfl) rfl ?_
  refine RL.nil ?_
  refine N.next ?_
  refine W.seq ?_
  refine W.region ?_
  refine RL.q (Yld.move rfl) rfl ?_
  refine RL.e (Eff.call ent41 [1] [1, 30] (.cons rfl .nil) (cloneI_ct l _ _ _ hl hb) rfl rfl rfl rfl (by rintro _ _ ⟨_, _, _, _, _, rfl⟩; rfl)) rfl ?_
  rintro _ _ ⟨_, ⟨Ha, pa, ca, rfl, hOa, rfl⟩, rfl⟩
  refine RL.q (Yld.makeFunc eval0 (eval1 rfl)) rfl ?_
  refine RL.e (Eff.call ent67 [30, 103, 2] [30, 103, 2] (.cons rfl (.cons rfl .nil)) (deleteFunc2_ct l _ _ _ hOa 71 [.pointer (some ⟨b3, 0, none⟩)] _ _ (fun z => decide (z ∈ m)) ent71 (fun z => minusC_ct b3 m _ _ _ hm z)) rfl rfl rfl rfl (by rintro _ _ ⟨_, _, _, rfl⟩; rfl)) rfl ?_
  rintro _ _ ⟨_, ⟨Hd, rfl, hOd, rfl⟩, rfl⟩
  refine RL.q (Yld.assign rfl) rfl ?_
  refine RL.nil ?_
  refine N.next ?_
  refine W.keep (.cons (k := 4) rfl .nil) (.cons (k := 0) rfl (.cons (k := 1) rfl (.cons (k := 2) rfl (.cons (k := 30) rfl (.cons (k := 103) rfl .nil))))) ?_
  refine W.ret ?_
  exact N.retBy [1, 2, 30] (.cons (.tmp rfl) .nil) rfl rfl rfl rfl ⟨_, _, _, rfl, hOd, rfl⟩

theorem Cfg.ss_in {x : Cf} {H1 : PH} (hx : x.In H1) {j : Nat} {s : Option Addr × Nat × List Int} (h : ([(x.po, x.co, x.o), (x.pn, x.cn, x.n), (x.pl, x.cl, x.l)] : List (Option Addr × Nat × List Int))[j]? = some s) : Sl H1 s.1 s.2.1 1 (iz s.2.2) := by
  obtain ⟨ho, hn, hl⟩ := hx
  match j, h with
  | 0, h => cases h; exact ho
  | 1, h => cases h; exact hn
  | 2, h => cases h; exact hl
theorem Cfg.ss_all {x : Cf} {P : List Int → Prop} (h : ∀ (i : Nat) s, i < 3 → ([(x.po, x.co, x.o), (x.pn, x.cn, x.n), (x.pl, x.cl, x.l)] : List (Option Addr × Nat × List Int))[i]? = some s → P s.2.2) : P x.o ∧ P x.n ∧ P x.l := ⟨h 0 _ (by omega) rfl, h 1 _ (by omega) rfl, h 2 _ (by omega) rfl⟩
theorem Cfg.ss_one {x : Cf} {P : List Int → Prop} {j : Nat} {s : Option Addr × Nat × List Int} (h : ([(x.po, x.co, x.o), (x.pn, x.cn, x.n), (x.pl, x.cl, x.l)] : List (Option Addr × Nat × List Int))[j]? = some s) (ha : P x.o ∧ P x.n ∧ P x.l) : P s.2.2 := by
  match j, h with
  | 0, h => cases h; exact ha.1
  | 1, h => cases h; exact ha.2.1
  | 2, h => cases h; exact ha.2.2

set_option maxRecDepth 100000 in
set_option maxHeartbeats 1600000 in
theorem cvalid_ct (x : Cf) (H1 : PH) (hx : x.In H1) (hbo : x.o.length ≤ 400000) (hbn : x.n.length ≤ 400000) (hbl : x.l.length ≤ 400000) : Ct Tryz.prog 13 [.agg [.slice x.po x.o.length x.co, .slice x.pn x.n.length x.cn, .slice x.pl x.l.length x.cl].toArray] [H1] (fun v Hs => v = .bool (decide x.Ok) ∧ Hs = [H1]) := by
  refine Ct.body Tryz.func13 rfl Tryz.ntmps13 rfl ?_
  intro E F
  obtain ⟨ho, hn, hl⟩ := hx
  have hx : x.In H1 := ⟨ho, hn, hl⟩
  have hmo := ho.len_le
  have hmn := hn.len_le
  have hml := hl.len_le
  simp only [iz_len, maxLen] at hmo hmn hml
  refine W.seq ?_
  refine W.region ?_
  refine RL.e (Eff.box 101 _ rfl rfl) rfl ?_
  rintro _ _ ⟨b1, rfl, rfl⟩
  refine RL.q (Yld.assign rfl) rfl ?_
  refine RL.nil ?_
  refine N.next ?_
  refine W.seq ?_
  refine W.seq ?_
  refine W.region ?_
  refine RL.q (Yld.fieldAddr fo25_0 rfl) rfl ?_
  refine RL.q (Yld.load1 (c := 101) Tryz.underlying22 rfl rfl rfl (by first | exact single_self _ _ | exact pset_self _ _ _ | assumption) rfl) rfl ?_
  refine RL.q (Yld.fieldAddr fo25_1 rfl) rfl ?_
  refine RL.q (Yld.load1 (c := 101) Tryz.underlying22 rfl rfl rfl (by first | exact single_self _ _ | exact pset_self _ _ _ | assumption) rfl) rfl ?_
  refine RL.q (Yld.fieldAddr fo25_2 rfl) rfl ?_
  refine RL.q (Yld.load1 (c := 101) Tryz.underlying22 rfl rfl rfl (by first | exact single_self _ _ | exact pset_self _ _ _ | assumption) rfl) rfl ?_
  refine RL.e (Eff.buildSlice 111 Tryz.underlying63 sz22 zc22 rfl rfl (.cons rfl rfl (.cons rfl rfl (.cons rfl rfl .nil))) rfl) rfl ?_
  rintro _ _ ⟨b11, rfl, rfl⟩
  refine RL.q (Yld.lenSl Tryz.underlying63 rfl) rfl ?_
  refine RL.q (Yld.move rfl) rfl ?_
  refine RL.nil ?_
  refine N.next ?_
  refine W.keep (.cons (k := 1) rfl (.cons (k := 11) rfl (.cons (k := 12) rfl (.cons (k := 13) rfl .nil)))) (.cons (k := 0) rfl (.cons (k := 1) rfl (.cons (k := 101) rfl (.cons (k := 111) rfl .nil)))) ?_
  refine W.block ?_
  refine W.loopK (ι := Nat) (fun j => (j ≤ 3 ∧ ∀ (i : Nat) s, i < j → ([(x.po, x.co, x.o), (x.pn, x.cn, x.n), (x.pl, x.cl, x.l)] : List (Option Addr × Nat × List Int))[i]? = some s → setL s.2.2 = s.2.2)) (fun j => [(13, .int .i64 (j : Nat))]) (fun j => []) (fun j => 3 - j) (.cons (k := 1) rfl (.cons (k := 11) rfl (.cons (k := 12) rfl .nil))) (.cons (k := 0) rfl (.cons (k := 1) rfl (.cons (k := 101) rfl (.cons (k := 111) rfl .nil)))) 0 ?_ ?_ ?_ ?_
  · exact ⟨Nat.zero_le _, fun _ _ h => absurd h (Nat.not_lt_zero _)⟩
  · exact (.as rfl (by first | rfl | (simp; done) | (congr 1; simp; done) | (congr 1; omega)) .nil)
  · exact .nil
  rintro j ⟨hj, hI⟩
  refine W.keep (.cons (k := 13) rfl (.cons (k := 1) rfl (.cons (k := 11) rfl (.cons (k := 12) rfl .nil)))) (.cons (k := 0) rfl (.cons (k := 1) rfl (.cons (k := 101) rfl (.cons (k := 111) rfl .nil)))) ?_
  refine W.seq ?_
  refine W.region ?_
  refine RL.q (Yld.bin rfl rfl BinV.lss) rfl ?_
  refine RL.nil ?_
  refine N.next ?_
  refine W.seq ?_
  first | refine W.condD rfl (fun hc14 => ?_) (fun hc14 => ?_) | (refine W.cond rfl (fun hc14 => ?_) (fun hc14 => ?_) <;> try simp only [Bool.or_eq_true, Bool.and_eq_true, Bool.not_eq_true', Bool.not_eq_false', decide_eq_true_eq, Bool.or_eq_false_iff, Bool.and_eq_false_iff, decide_eq_false_iff_not, beq_iff_eq, beq_eq_false_iff_ne, ne_eq, Decidable.not_not] at hc14)
  ·
    obtain ⟨s, hs⟩ : ∃ s, ([(x.po, x.co, x.o), (x.pn, x.cn, x.n), (x.pl, x.cl, x.l)] : List (Option Addr × Nat × List Int))[j]? = some s := ⟨_, List.getElem?_eq_getElem (show j < 3 by omega)⟩
    have hssl := ss_in hx hs
    have hcl := hssl.len_le
    simp only [iz_len, maxLen] at hcl
    have hls : (([(x.po, x.co, x.o), (x.pn, x.cn, x.n), (x.pl, x.cl, x.l)] : List (Option Addr × Nat × List Int)).map SV)[j]? = some [.slice s.1 s.2.2.length s.2.1] := by rw [List.getElem?_map, hs]; rfl
    have hsb : s.2.2.length ≤ 400000 := ss_one (P := fun l => l.length ≤ 400000) hs ⟨hbo, hbn, hbl⟩
    have hS11 := (show Own (single b11 (.cells [.slice x.po x.o.length x.co, .slice x.pn x.n.length x.cn, .slice x.pl x.l.length x.cl].toArray 22 (0, 0))) (some ⟨b11, 0, none⟩) 3 22 1 (([(x.po, x.co, x.o), (x.pn, x.cn, x.n), (x.pl, x.cl, x.l)] : List (Option Addr × Nat × List Int)).map SV) from (Own.mk (e := 22) (n := 1) (c := 3) [] (by intro r hr; simp only [List.map_cons, List.map_nil, List.mem_cons, List.not_mem_nil, or_false] at hr; rcases hr with rfl | rfl | rfl <;> exact ⟨rfl, by simp [SV, Value.oneCell']⟩) (by simp) (by simp [maxLen]) (by rfl) (by rfl))).sl
    refine W.skip ?_
    refine N.next ?_
    refine W.seq ?_
    refine W.block ?_
    refine W.seq ?_
    refine W.region ?_
    refine RL.q (Yld.indexRow Tryz.underlying63 sz22 rfl rfl (by first | assumption | exact Own.sl (by assumption)) (by first | rfl | omega | (simp; done) | (simp; omega)) (by omega) (by first | omega | (simp; done) | (simp; omega))) rfl ?_
    refine RL.q (by first | exact (by first | exact Yld.loadRow1 (cl := 1) Tryz.underlying22 rfl rfl rfl (by first | assumption | exact Own.sl (by assumption)) (by assumption) | exact Yld.loadRow1 (cl := 101) Tryz.underlying22 rfl rfl rfl (by first | assumption | exact Own.sl (by assumption)) (by assumption) | exact Yld.loadRow1 (cl := 111) Tryz.underlying22 rfl rfl rfl (by first | assumption | exact Own.sl (by assumption)) (by assumption)) | exact (by first | exact Yld.loadRowF (cl := 1) (j := 0) Tryz.underlying22 rfl rfl rfl (by first | assumption | exact Own.sl (by assumption)) (by assumption) rfl | exact Yld.loadRowF (cl := 101) (j := 0) Tryz.underlying22 rfl rfl rfl (by first | assumption | exact Own.sl (by assumption)) (by assumption) rfl | exact Yld.loadRowF (cl := 111) (j := 0) Tryz.underlying22 rfl rfl rfl (by first | assumption | exact Own.sl (by assumption)) (by assumption) rfl)) rfl ?_
    refine RL.q (Yld.assign rfl) rfl ?_
    refine RL.nil ?_
    refine N.next ?_
    refine W.seq ?_
    refine W.region ?_
    refine RL.q (Yld.move rfl) rfl ?_
    refine RL.q (Yld.move rfl) rfl ?_
    refine RL.e (Eff.buildSlice 119 Tryz.underlying63 sz22 zc22 rfl rfl (.cons rfl rfl .nil) rfl) rfl ?_
    rintro _ _ ⟨b19, rfl, rfl⟩
    refine RL.e (Eff.call ent38 [119, 1] [119, 1, 130] (.cons rfl .nil) (cset_ct [(s.1, s.2.1, s.2.2)] _ H1 _ _ (Own.mk (e := 22) (n := 1) (c := 1) [] (by intro r hr; simp only [List.map_cons, List.map_nil, List.mem_cons, List.not_mem_nil, or_false] at hr; rcases hr with rfl <;> exact ⟨rfl, by simp [SV, Value.oneCell']⟩) (by simp) (by simp [maxLen]) (by rfl) (by rfl)).sl (by intro r hr; simp only [List.mem_cons, List.not_mem_nil, or_false] at hr; subst hr; exact hssl) (by rw [cat1]; omega)) rfl rfl rfl rfl (by rintro _ _ ⟨_, _, _, _, _, rfl⟩; rfl)) rfl ?_
    rintro _ _ ⟨_, ⟨Hs1, ps, cs, rfl, hOs, rfl⟩, rfl⟩
    rw [cat1] at hOs ⊢
    refine RL.e (Eff.call ent31 [1, 130] [1, 130] (.cons rfl (.cons rfl .nil)) (equal_ct s.2.2 _ _ _ hssl (setL s.2.2) _ _ _ hOs.sl) rfl rfl rfl rfl (by rintro _ _ ⟨_, rfl⟩; rfl)) rfl ?_
    rintro _ _ ⟨_, ⟨rfl, rfl⟩, rfl⟩
    refine RL.q (by first | exact Yld.notD rfl | exact Yld.not rfl) rfl ?_
    refine RL.nil ?_
    refine N.next ?_
    refine W.keep (.cons (k := 1) rfl (.cons (k := 11) rfl (.cons (k := 12) rfl (.cons (k := 13) rfl (.cons (k := 22) rfl .nil))))) (.cons (k := 0) rfl (.cons (k := 1) rfl (.cons (k := 101) rfl (.cons (k := 111) rfl (.cons (k := 119) rfl (.cons (k := 130) rfl .nil)))))) ?_
    refine W.condD rfl (fun hc22 => ?_) (fun hc22 => ?_)
    ·
      have hne : setL s.2.2 ≠ s.2.2 := fun e => hc22 e.symm
      refine W.seq ?_
      refine W.region ?_
      refine RL.q (Yld.assign rfl) rfl ?_
      refine RL.nil ?_
      refine N.next ?_
      refine W.keep (.cons (k := 2) rfl .nil) (.cons (k := 0) rfl (.cons (k := 1) rfl (.cons (k := 101) rfl (.cons (k := 111) rfl (.cons (k := 119) rfl (.cons (k := 130) rfl .nil)))))) ?_
      refine W.ret ?_
      refine N.block_ret ?_
      refine N.then_ret ?_
      refine N.then_ret ?_
      refine N.block_ret ?_
      refine N.then_ret ?_
      exact N.retBy [1] (.cons (.tmp rfl) .nil) rfl rfl rfl rfl ⟨by show Value.bool false = _; rw [Value.bool.injEq, eq_comm, decide_eq_false_iff_not]; rintro ⟨h1, h2, h3, _⟩; exact hne (ss_one (P := fun l => setL l = l) hs ⟨h1, h2, h3⟩), rfl⟩
    ·
      have heq : setL s.2.2 = s.2.2 := (Decidable.not_not.1 hc22).symm
      refine W.skip ?_
      refine N.block_normal ?_
      refine N.next ?_
      refine W.region ?_
      refine RL.q (Yld.bin rfl rfl (by first | exact BinV.add (by omega) (by omega) | exact BinV.addW)) rfl ?_
      refine RL.q (Yld.move rfl) rfl ?_
      refine RL.nil ?_
      exact N.famK (j + 1) ⟨⟨by omega, fun i s2 hi h2 => (Nat.lt_succ_iff_lt_or_eq.1 hi).elim (fun h => hI i s2 h h2) (fun e => by subst e; rw [hs] at h2; cases h2; exact heq)⟩, by omega⟩ (.as rfl (by first | rfl | (simp; done) | (congr 1; simp; done) | (congr 1; omega)) .nil) (.cons rfl (.cons rfl (.cons rfl .nil))) .nil (.cons rfl (.cons rfl (.cons rfl (.cons rfl .nil))))
  ·
    have hal := ss_all (P := fun l => setL l = l) (fun i s h => hI i s (by omega))
    refine W.exit ?_
    refine N.then_exit ?_
    refine N.then_exit ?_
    refine N.block_eq ?_
    refine N.next ?_
    refine W.keep (.cons (k := 1) rfl .nil) (.cons (k := 0) rfl (.cons (k := 1) rfl (.cons (k := 101) rfl (.cons (k := 111) rfl .nil)))) ?_
    refine W.seq ?_
    refine W.draw (.q 0 (.q 1 (.q 2 (.q 3 (.q 4 (.q 5 (.q 6 (.q 7 (.q 8 (.one 9 (.q 10 (.q 11 (.q 12 (.q 13 (.q 14 (.q 15 (.q 19 (.q 20 (.q 21 (.one 16 (.one 17 (.q 18 (.q 22 (.q 23 (.q 24 .done))))))))))))))))))))))))) (.cons (k := 0) rfl (.cons (k := 101) rfl (.cons (k := 111) rfl .nil))) mix (by kernel_rfl) (by kernel_rfl) ?_
    refine DL.q rfl (Yld.fieldAddr fo25_0 rfl) rfl ?_
    refine DL.q rfl (Yld.load1 (c := 101) Tryz.underlying22 rfl rfl rfl (by first | exact single_self _ _ | exact pset_self _ _ _ | assumption) rfl) rfl ?_
    refine DL.q rfl (Yld.lenSl Tryz.underlying22 rfl) rfl ?_
    refine DL.q rfl (Yld.bin rfl rfl BinV.gtr) rfl ?_
    refine DL.q rfl (Yld.move rfl) rfl ?_
    refine' DL.and (t := 28) (d := 35) 7 rfl (.cons (k := 1) rfl (.cons (k := 24) rfl (.cons (k := 25) rfl (.cons (k := 26) rfl (.cons (k := 27) rfl .nil))))) (.cons (k := 0) rfl (.cons (k := 1) rfl (.cons (k := 101) rfl (.cons (k := 111) rfl .nil)))) ?_ ?_ ?_
    rotate_left 1
    ·
      intro hg28
      refine DL.gq rfl rfl rfl (Yld.fieldAddr fo25_0 rfl) rfl ?_
      refine DL.gq rfl rfl rfl (Yld.load1 (c := 101) Tryz.underlying22 rfl rfl rfl (by first | exact single_self _ _ | exact pset_self _ _ _ | assumption) rfl) rfl ?_
      refine DL.gq rfl rfl rfl (Yld.fieldAddr fo25_1 rfl) rfl ?_
      refine DL.gq rfl rfl rfl (Yld.load1 (c := 101) Tryz.underlying22 rfl rfl rfl (by first | exact single_self _ _ | exact pset_self _ _ _ | assumption) rfl) rfl ?_
      refine DL.gone rfl rfl rfl (Eff.call ent31 [1] [1] (.cons rfl (.cons rfl .nil)) (equalS_ct x.o _ _ _ ho x.n _ _ hn) rfl rfl rfl rfl (by rintro _ _ ⟨_, rfl⟩; rfl)) rfl (by rintro _ _ ⟨_, ⟨rfl, rfl⟩, rfl⟩; repeat (first | exact .nil | refine .cons rfl ?_)) ?_
      rintro _ _ ⟨_, ⟨rfl, rfl⟩, rfl⟩
      refine DL.gq rfl rfl rfl (by first | exact Yld.notD rfl | exact Yld.not rfl) rfl ?_
      refine DL.q rfl (by first | exact Yld.pickT rfl rfl | exact Yld.pickF rfl rfl) rfl ?_
      exact DL.meet (.cons rfl (.cons rfl (.cons rfl (.cons rfl (.cons rfl (.cons rfl .nil)))))) (.cons rfl (.cons rfl (.cons rfl (.cons rfl .nil))))
    ·
      intro hg28
      refine DL.gskip rfl rfl rfl rfl rfl ?_
      refine DL.gskip rfl rfl rfl rfl rfl ?_
      refine DL.gskip rfl rfl rfl rfl rfl ?_
      refine DL.gskip rfl rfl rfl rfl rfl ?_
      refine DL.gskip1 rfl rfl rfl rfl rfl ?_
      refine DL.gskip rfl rfl rfl rfl rfl ?_
      refine DL.q rfl (by first | exact Yld.pickT rfl rfl | exact Yld.pickF rfl rfl) rfl ?_
      exact DL.meet (.cons rfl (.cons rfl (.cons rfl (.cons rfl (.cons rfl (.cons rfl .nil)))))) (.cons rfl (.cons rfl (.cons rfl (.cons rfl .nil))))
    refine DL.q rfl (Yld.move rfl) rfl ?_
    refine' DL.and (t := 36) (d := 47) 11 rfl (.cons (k := 1) rfl (.cons (k := 24) rfl (.cons (k := 25) rfl (.cons (k := 26) rfl (.cons (k := 27) rfl (.cons (k := 35) rfl .nil)))))) (.cons (k := 0) rfl (.cons (k := 1) rfl (.cons (k := 101) rfl (.cons (k := 111) rfl .nil)))) ?_ ?_ ?_
    rotate_left 1
    ·
      intro hg36
      refine DL.gq rfl rfl rfl (Yld.fieldAddr fo25_2 rfl) rfl ?_
      refine DL.gq rfl rfl rfl (Yld.load1 (c := 101) Tryz.underlying22 rfl rfl rfl (by first | exact single_self _ _ | exact pset_self _ _ _ | assumption) rfl) rfl ?_
      refine DL.gq rfl rfl rfl (Yld.loadW (c := 101) Tryz.underlying25 rfl sz25 rfl rfl (by first | exact single_self _ _ | exact pset_self _ _ _ | assumption) rfl) rfl ?_
      refine DL.gq rfl rfl rfl (Yld.fieldAddr fo25_2 rfl) rfl ?_
      refine DL.gq rfl rfl rfl (Yld.load1 (c := 101) Tryz.underlying22 rfl rfl rfl (by first | exact single_self _ _ | exact pset_self _ _ _ | assumption) rfl) rfl ?_
      refine DL.gq rfl rfl rfl (Yld.lenSl Tryz.underlying22 rfl) rfl ?_
      refine DL.gone rfl rfl rfl (Eff.call ent40 [1] [1, 131] (.cons rfl .nil) (cvoters_ct x H1 hx (by simp; omega)) rfl rfl rfl rfl (by rintro _ _ ⟨_, _, _, _, _, rfl⟩; rfl)) rfl (by rintro _ _ ⟨_, ⟨Hv, pv, cv, rfl, hOv, rfl⟩, rfl⟩; repeat (first | exact .nil | refine .cons rfl ?_)) ?_
      rintro _ _ ⟨_, ⟨Hv, pv, cv, rfl, hOv, rfl⟩, rfl⟩
      refine DL.gone rfl rfl rfl (Eff.call ent39 [1, 131] [1, 131, 132] (.cons rfl (.cons rfl .nil)) (cminus_ct x.l _ _ _ hl (setL (x.o ++ x.n)) _ _ _ hOv.sl (by omega)) rfl rfl rfl rfl (by rintro _ _ ⟨_, _, _, _, _, rfl⟩; rfl)) rfl (by rintro _ _ ⟨_, ⟨Hm, pm, cm, rfl, hOm, rfl⟩, rfl⟩; repeat (first | exact .nil | refine .cons rfl ?_)) ?_
      rintro _ _ ⟨_, ⟨Hm, pm, cm, rfl, hOm, rfl⟩, rfl⟩
      refine DL.gq rfl rfl rfl (Yld.lenSl Tryz.underlying22 rfl) rfl ?_
      refine DL.gq rfl rfl rfl (Yld.bin rfl rfl BinV.eql) rfl ?_
      refine DL.q rfl (by first | exact Yld.pickT rfl rfl | exact Yld.pickF rfl rfl) rfl ?_
      exact DL.meet (.cons rfl (.cons rfl (.cons rfl (.cons rfl (.cons rfl (.cons rfl (.cons rfl .nil))))))) (.cons rfl (.cons rfl (.cons rfl (.cons rfl .nil))))
    ·
      intro hg36
      refine DL.gskip rfl rfl rfl rfl rfl ?_
      refine DL.gskip rfl rfl rfl rfl rfl ?_
      refine DL.gskip rfl rfl rfl rfl rfl ?_
      refine DL.gskip rfl rfl rfl rfl rfl ?_
      refine DL.gskip rfl rfl rfl rfl rfl ?_
      refine DL.gskip rfl rfl rfl rfl rfl ?_
      refine DL.gskip1 rfl rfl rfl rfl rfl ?_
      refine DL.gskip1 rfl rfl rfl rfl rfl ?_
      refine DL.gskip rfl rfl rfl rfl rfl ?_
      refine DL.gskip rfl rfl rfl rfl rfl ?_
      refine DL.q rfl (by first | exact Yld.pickT rfl rfl | exact Yld.pickF rfl rfl) rfl ?_
      exact DL.meet (.cons rfl (.cons rfl (.cons rfl (.cons rfl (.cons rfl (.cons rfl (.cons rfl .nil))))))) (.cons rfl (.cons rfl (.cons rfl (.cons rfl .nil))))
    refine DL.q rfl (Yld.assign rfl) rfl ?_
    refine DL.done ?_
    refine N.next ?_
    refine W.keep (.cons (k := 2) rfl .nil) (.cons (k := 0) rfl (.cons (k := 1) rfl (.cons (k := 101) rfl (.cons (k := 111) rfl .nil)))) ?_
    refine W.ret ?_
    exact N.retBy [1] (.cons (.tmp rfl) .nil) rfl rfl rfl rfl ⟨by show Value.bool _ = _; rw [Value.bool.injEq, Bool.eq_iff_iff, decide_eq_true_eq]; simp only [Cf.Ok, Bool.and_eq_true, Bool.not_eq_true', decide_eq_true_eq, decide_eq_false_iff_not]; exact ⟨fun ⟨⟨a, b⟩, c⟩ => ⟨hal.1, hal.2.1, hal.2.2, by omega, b, by omega⟩, fun ⟨_, _, _, a, b, c⟩ => ⟨⟨by omega, b⟩, by omega⟩⟩, rfl⟩

end Go.Proofs.YtdjmdfnhnlijiaaGreatDoor
