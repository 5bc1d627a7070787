/- Several texts in one, in their build order: what the proofs of this seat share. -/
import Derived.Test.YtboapdcmaeojgaaGreatDoorPR1
import Derived.Lib.Fields
set_option linter.unusedVariables false
set_option linter.unusedSimpArgs false
set_option linter.unusedSectionVars false
namespace Go.Proofs.YtboapdcmaeojgaaGreatDoor
open SL Cat
set_option linter.unusedVariables false
set_option linter.unusedSimpArgs false
theorem sz3 : sz Tryz.prog 3 1 := (by kernel_rfl : (Tryz.prog.info? 3).map (·.size) = some 1)
theorem ent76 : Ent Tryz.prog 76 := ⟨_, _, Tryz.func76, by kernel_rfl, rfl⟩
theorem sz9 : sz Tryz.prog 9 1 := (by kernel_rfl : (Tryz.prog.info? 9).map (·.size) = some 1)
theorem ent164 : Ent Tryz.prog 164 := ⟨_, _, Tryz.func164, by kernel_rfl, rfl⟩
set_option maxRecDepth 100000 in
set_option maxHeartbeats 400000 in
theorem index_ct (l : List Int) (H1 : PH) (p : Option Addr) (c : Nat) (hl : Sl H1 p c 1 (iz l)) (a : Int) : Ct Tryz.prog 76 [.slice p l.length c, .int .i64 a] [H1] (fun v Hs => (∃ r : Int, v = .int .i64 r ∧ (0 ≤ r ↔ a ∈ l)) ∧ Hs = [H1]) := by
  refine Ct.body Tryz.func76 rfl Tryz.ntmps76 rfl ?_
  intro E F
  have hmxl := hl.len_le
  simp only [iz_len, maxLen] at hmxl
  refine W.seq (W.region ?_)
  refine RL.q (Yld.assign rfl) rfl (RL.nil (N.next ?_))
  refine W.seq ?_
  refine W.seq (W.region ?_)
  refine RL.q (Yld.move rfl) rfl ?_
  refine RL.q (Yld.lenSl Tryz.underlying55 rfl) rfl ?_
  refine RL.q (Yld.move rfl) rfl (RL.nil (N.next ?_))
  refine W.block ?_
  refine W.loopK (ι := Nat) (fun j => (j ≤ l.length ∧ ∀ (i : Nat) z, i < j → l[i]? = some z → a ≠ z)) (fun j => [(8, .int .i64 (j : Nat))]) (fun j => []) (fun j => l.length - j) (.of [0, 1, 7] rfl) (.of [0, 1] rfl) 0 ?_ ?_ ?_ ?_
  · exact ⟨Nat.zero_le _, fun _ _ h => absurd h (Nat.not_lt_zero _)⟩
  · exact (.as rfl (by first | rfl | (simp; done) | (congr 1; simp; done) | (congr 1; omega)) .nil)
  · exact .nil
  rintro j ⟨hj, hI⟩
  refine W.keep (.of [8, 0, 1, 7] rfl) (.of [0, 1] rfl) ?_
  refine W.seq (W.region ?_)
  refine RL.q (Yld.bin rfl rfl BinV.lss) rfl ?_
  refine RL.nil (N.next ?_)
  refine W.seq ?_
  first | refine W.condD rfl (fun hc9 => ?_) (fun hc9 => ?_) | (refine W.cond rfl (fun hc9 => ?_) (fun hc9 => ?_) <;> try simp only [Bool.or_eq_true, Bool.and_eq_true, Bool.not_eq_true', Bool.not_eq_false', decide_eq_true_eq, Bool.or_eq_false_iff, Bool.and_eq_false_iff, decide_eq_false_iff_not, beq_iff_eq, beq_eq_false_iff_ne, ne_eq, Decidable.not_not] at hc9)
  ·
   obtain ⟨z, hz, hlz⟩ := iz_at (show j < l.length by omega)
   refine W.skip ?_
   refine N.next ?_
   refine W.seq ?_
   refine W.block ?_
   refine W.seq (W.region ?_)
   refine RL.q (Yld.move rfl) rfl (RL.q (Yld.assign rfl) rfl (RL.nil (N.next ?_)))
   refine W.seq (W.region ?_)
   refine RL.q (Yld.move rfl) rfl (RL.q (Yld.move rfl) rfl (RL.q (Yld.move rfl) rfl ?_))
   refine RL.q (Yld.ixr Tryz.underlying55 sz3 rfl rfl) rfl ?_
   refine RL.q (by first | exact (Yld.loadRow1 (cl := 1) Tryz.underlying3 rfl rfl rfl (by first | assumption | exact Own.sl (by assumption)) (by assumption)) | exact (Yld.lrF 1 0 Tryz.underlying3 rfl rfl rfl rfl)) rfl ?_
   refine RL.q (Yld.bin rfl rfl BinV.eql) rfl ?_
   refine RL.nil (N.next ?_)
   refine W.keep (.of [0, 1, 5, 7, 8, 16] rfl) (.of [0, 1] rfl) ?_
   first | refine W.condD rfl (fun hc16 => ?_) (fun hc16 => ?_) | (refine W.cond rfl (fun hc16 => ?_) (fun hc16 => ?_) <;> try simp only [Bool.or_eq_true, Bool.and_eq_true, Bool.not_eq_true', Bool.not_eq_false', decide_eq_true_eq, Bool.or_eq_false_iff, Bool.and_eq_false_iff, decide_eq_false_iff_not, beq_iff_eq, beq_eq_false_iff_ne, ne_eq, Decidable.not_not] at hc16)
   ·
    refine W.seq (W.region ?_)
    refine RL.q (Yld.move rfl) rfl (RL.q (Yld.assign rfl) rfl (RL.nil (N.next ?_)))
    refine W.keep (.of [4] rfl) (.of [0, 1] rfl) ?_
    refine W.ret ?_
    refine N.block_ret ?_
    refine N.then_ret ?_
    refine N.then_ret ?_
    refine N.block_ret ?_
    refine N.then_ret ?_
    exact N.retBy [1] (.cons (.tmp rfl) .nil) rfl rfl rfl rfl ⟨⟨_, rfl, ⟨fun _ => by rw [hc16]; exact List.mem_of_getElem? hz, fun _ => by omega⟩⟩, rfl⟩
   ·
    refine W.skip ?_
    refine N.block_normal ?_
    refine N.next ?_
    refine W.region ?_
    refine RL.q (Yld.bin rfl rfl (by first | exact BinV.add (by omega) (by omega) | exact BinV.addW)) rfl ?_
    refine RL.q (Yld.move rfl) rfl (RL.nil ?_)
    exact N.famK (j + 1) ⟨⟨by omega, fun i y hi hy => (Nat.lt_succ_iff_lt_or_eq.1 hi).elim (fun h => hI i y h hy) (fun e => by subst e; rw [hz] at hy; cases hy; exact hc16)⟩, by omega⟩ (.as rfl (by first | rfl | (simp; done) | (congr 1; simp; done) | (congr 1; omega)) .nil) (.to rfl) .nil (.to rfl)
  ·
   refine W.exit ?_
   refine N.then_exit ?_
   refine N.then_exit ?_
   refine N.block_eq ?_
   refine N.next ?_
   refine W.keep .nil (.of [0, 1] rfl) ?_
   refine W.seq (W.region ?_)
   refine RL.q (Yld.assign rfl) rfl (RL.nil (N.next ?_))
   refine W.ret ?_
   exact N.retBy [1] (.cons (.tmp rfl) .nil) rfl rfl rfl rfl ⟨⟨_, rfl, ⟨fun h => absurd h (by omega), fun h => by obtain ⟨i, hi⟩ := List.getElem?_of_mem h; exact absurd rfl (hI i a (by have := (List.getElem?_eq_some_iff.1 hi).1; omega) hi)⟩⟩, rfl⟩
set_option maxRecDepth 100000 in
set_option maxHeartbeats 400000 in
theorem contains_ct (l : List Int) (H1 : PH) (p : Option Addr) (c : Nat) (hl : Sl H1 p c 1 (iz l)) (a : Int) : Ct Tryz.prog 35 [.slice p l.length c, .int .i64 a] [H1] (fun v Hs => v = .bool (decide (a ∈ l)) ∧ Hs = [H1]) := by
  refine Ct.body Tryz.func35 rfl Tryz.ntmps35 rfl ?_
  intro E F
  refine W.seq (W.region ?_)
  refine RL.q (Yld.assign rfl) rfl (RL.nil (N.next ?_))
  refine W.seq (W.region ?_)
  refine RL.q (Yld.move rfl) rfl (RL.q (Yld.move rfl) rfl ?_)
  refine RL.e (Eff.call ent76 [1] [1] (.cons rfl (.cons rfl .nil)) (index_ct l _ _ _ hl a) rfl rfl rfl rfl (by rintro _ _ ⟨_, rfl⟩; rfl)) rfl ?_
  rintro _ _ ⟨_, ⟨⟨r, rfl, hr⟩, rfl⟩, rfl⟩
  refine RL.q (Yld.bin rfl rfl BinV.geq) rfl ?_
  refine RL.q (Yld.assign rfl) rfl (RL.nil (N.next ?_))
  refine W.keep (.of [4] rfl) (.of [0, 1] rfl) ?_
  refine W.ret ?_
  exact N.retBy [1] (.cons (.tmp rfl) .nil) rfl rfl rfl rfl ⟨by show Value.bool _ = _; congr 1; exact decide_eq_decide.2 hr, rfl⟩
set_option maxRecDepth 100000 in
set_option maxHeartbeats 400000 in
theorem indexT_ct (l : List Ky) (H1 : PH) (p : Option Addr) (c : Nat) (hl : Sl H1 p c 1 (tz l)) (a : Ky) : Ct Tryz.prog 164 [.slice p l.length c, .string a] [H1] (fun v Hs => (∃ r : Int, v = .int .i64 r ∧ (0 ≤ r ↔ a ∈ l)) ∧ Hs = [H1]) := by
  refine Ct.body Tryz.func164 rfl Tryz.ntmps164 rfl ?_
  intro E F
  have hmx := hl.len_le
  simp only [tz_len, maxLen] at hmx
  refine W.seq (W.region ?_)
  refine RL.q (Yld.assign rfl) rfl (RL.nil (N.next ?_))
  refine W.seq ?_
  refine W.seq (W.region ?_)
  refine RL.q (Yld.move rfl) rfl ?_
  refine RL.q (Yld.lenSl Tryz.underlying22 rfl) rfl ?_
  refine RL.q (Yld.move rfl) rfl (RL.nil (N.next ?_))
  refine W.block ?_
  refine W.loopK (ι := Nat) (fun j => (j ≤ l.length ∧ ∀ (i : Nat) z, i < j → l[i]? = some z → a ≠ z)) (fun j => [(8, .int .i64 (j : Nat))]) (fun j => []) (fun j => l.length - j) (.of [0, 1, 7] rfl) (.of [0, 1] rfl) 0 ?_ ?_ ?_ ?_
  · exact ⟨Nat.zero_le _, fun _ _ h => absurd h (Nat.not_lt_zero _)⟩
  · exact (.as rfl (by first | rfl | (simp; done) | (congr 1; simp; done) | (congr 1; omega)) .nil)
  · exact .nil
  rintro j ⟨hj, hI⟩
  refine W.keep (.of [8, 0, 1, 7] rfl) (.of [0, 1] rfl) ?_
  refine W.seq (W.region ?_)
  refine RL.q (Yld.bin rfl rfl BinV.lss) rfl ?_
  refine RL.nil (N.next ?_)
  refine W.seq ?_
  first | refine W.condD rfl (fun hc9 => ?_) (fun hc9 => ?_) | (refine W.cond rfl (fun hc9 => ?_) (fun hc9 => ?_) <;> try simp only [Bool.or_eq_true, Bool.and_eq_true, Bool.not_eq_true', Bool.not_eq_false', decide_eq_true_eq, Bool.or_eq_false_iff, Bool.and_eq_false_iff, decide_eq_false_iff_not, beq_iff_eq, beq_eq_false_iff_ne, ne_eq, Decidable.not_not] at hc9)
  ·
   obtain ⟨z, hz, hlz⟩ := tz_at (show j < l.length by omega)
   refine W.skip ?_
   refine N.next ?_
   refine W.seq ?_
   refine W.block ?_
   refine W.seq (W.region ?_)
   refine RL.q (Yld.move rfl) rfl (RL.q (Yld.assign rfl) rfl (RL.nil (N.next ?_)))
   refine W.seq (W.region ?_)
   refine RL.q (Yld.move rfl) rfl (RL.q (Yld.move rfl) rfl (RL.q (Yld.move rfl) rfl ?_))
   refine RL.q (Yld.ixr Tryz.underlying22 sz9 rfl rfl) rfl ?_
   refine RL.q (by first | exact (Yld.loadRow1 (cl := 1) Tryz.underlying9 rfl rfl rfl (by first | assumption | exact Own.sl (by assumption)) (by assumption)) | exact (Yld.lrF 1 0 Tryz.underlying9 rfl rfl rfl rfl)) rfl ?_
   refine RL.q (Yld.bin rfl rfl BinV.eqlS) rfl ?_
   refine RL.nil (N.next ?_)
   refine W.keep (.of [0, 1, 5, 7, 8, 16] rfl) (.of [0, 1] rfl) ?_
   first | refine W.condD rfl (fun hc16 => ?_) (fun hc16 => ?_) | (refine W.cond rfl (fun hc16 => ?_) (fun hc16 => ?_) <;> try simp only [Bool.or_eq_true, Bool.and_eq_true, Bool.not_eq_true', Bool.not_eq_false', decide_eq_true_eq, Bool.or_eq_false_iff, Bool.and_eq_false_iff, decide_eq_false_iff_not, beq_iff_eq, beq_eq_false_iff_ne, ne_eq, Decidable.not_not] at hc16)
   ·
    refine W.seq (W.region ?_)
    refine RL.q (Yld.move rfl) rfl (RL.q (Yld.assign rfl) rfl (RL.nil (N.next ?_)))
    refine W.keep (.of [4] rfl) (.of [0, 1] rfl) ?_
    refine W.ret ?_
    refine N.block_ret ?_
    refine N.then_ret ?_
    refine N.then_ret ?_
    refine N.block_ret ?_
    refine N.then_ret ?_
    exact N.retBy [1] (.cons (.tmp rfl) .nil) rfl rfl rfl rfl ⟨⟨_, rfl, ⟨fun _ => by rw [hc16]; exact List.mem_of_getElem? hz, fun _ => by omega⟩⟩, rfl⟩
   ·
    refine W.skip ?_
    refine N.block_normal ?_
    refine N.next ?_
    refine W.region ?_
    refine RL.q (Yld.bin rfl rfl (by first | exact BinV.add (by omega) (by omega) | exact BinV.addW)) rfl ?_
    refine RL.q (Yld.move rfl) rfl (RL.nil ?_)
    exact N.famK (j + 1) ⟨⟨by omega, fun i y hi hy => (Nat.lt_succ_iff_lt_or_eq.1 hi).elim (fun h => hI i y h hy) (fun e => by subst e; rw [hz] at hy; cases hy; exact hc16)⟩, by omega⟩ (.as rfl (by first | rfl | (simp; done) | (congr 1; simp; done) | (congr 1; omega)) .nil) (.to rfl) .nil (.to rfl)
  ·
   refine W.exit ?_
   refine N.then_exit ?_
   refine N.then_exit ?_
   refine N.block_eq ?_
   refine N.next ?_
   refine W.keep .nil (.of [0, 1] rfl) ?_
   refine W.seq (W.region ?_)
   refine RL.q (Yld.assign rfl) rfl (RL.nil (N.next ?_))
   refine W.ret ?_
   exact N.retBy [1] (.cons (.tmp rfl) .nil) rfl rfl rfl rfl ⟨⟨_, rfl, ⟨fun h => absurd h (by omega), fun h => by obtain ⟨i, hi⟩ := List.getElem?_of_mem h; exact absurd rfl (hI i a (by have := (List.getElem?_eq_some_iff.1 hi).1; omega) hi)⟩⟩, rfl⟩
set_option maxRecDepth 100000 in
set_option maxHeartbeats 400000 in
theorem containsT_ct (l : List Ky) (H1 : PH) (p : Option Addr) (c : Nat) (hl : Sl H1 p c 1 (tz l)) (a : Ky) : Ct Tryz.prog 121 [.slice p l.length c, .string a] [H1] (fun v Hs => v = .bool (pB (a ∈ l)) ∧ Hs = [H1]) := by
  refine Ct.body Tryz.func121 rfl Tryz.ntmps121 rfl ?_
  intro E F
  refine W.seq (W.region ?_)
  refine RL.q (Yld.assign rfl) rfl (RL.nil (N.next ?_))
  refine W.seq (W.region ?_)
  refine RL.q (Yld.move rfl) rfl (RL.q (Yld.move rfl) rfl ?_)
  refine RL.e (Eff.call ent164 [1] [1] (.cons rfl (.cons rfl .nil)) (indexT_ct l _ _ _ hl a) rfl rfl rfl rfl (by rintro _ _ ⟨_, rfl⟩; rfl)) rfl ?_
  rintro _ _ ⟨_, ⟨⟨r, rfl, hr⟩, rfl⟩, rfl⟩
  refine RL.q (Yld.bin rfl rfl BinV.geq) rfl ?_
  refine RL.q (Yld.assign rfl) rfl (RL.nil (N.next ?_))
  refine W.keep (.of [4] rfl) (.of [0, 1] rfl) ?_
  refine W.ret ?_
  exact N.retBy [1] (.cons (.tmp rfl) .nil) rfl rfl rfl rfl ⟨by show Value.bool _ = _; congr 1; rw [Bool.eq_iff_iff, decide_eq_true_eq, pB_iff]; exact hr, rfl⟩
set_option maxRecDepth 100000 in
set_option maxHeartbeats 400000 in
theorem rhas_ct (l : List Ky) (H1 : PH) (p : Option Addr) (c n : Nat) (hn : n = l.length) (hl : Sl H1 p c 1 (tz l)) (a : Ky) : Ct Tryz.prog 88 [.slice p n c, .string a] [H1] (fun v Hs => v = .bool (pB (a ∈ l)) ∧ Hs = [H1]) := by
  refine Ct.body Tryz.func88 rfl Tryz.ntmps88 rfl ?_
  intro E F
  subst hn
  have hmx := hl.len_le
  simp only [tz_len, maxLen] at hmx
  refine W.seq (W.region ?_)
  refine RL.q (Yld.assign rfl) rfl (RL.nil (N.next ?_))
  refine W.seq ?_
  refine W.seq (W.region ?_)
  refine RL.q (Yld.assign rfl) rfl (RL.nil (N.next ?_))
  refine W.block ?_
  refine W.loopK (ι := Nat) (fun j => (j ≤ l.length ∧ ∀ (i : Nat) z, i < j → l[i]? = some z → z ≠ a)) (fun j => [(5, .int .i64 (j : Nat))]) (fun j => []) (fun j => l.length - j) (.of [0, 1] rfl) (.of [0, 1] rfl) 0 ?_ ?_ ?_ ?_
  · exact ⟨Nat.zero_le _, fun _ _ h => absurd h (Nat.not_lt_zero _)⟩
  · exact (.as rfl (by first | rfl | (simp; done) | (congr 1; simp; done) | (congr 1; omega)) .nil)
  · exact .nil
  rintro j ⟨hj, hI⟩
  refine W.keep (.of [5, 0, 1] rfl) (.of [0, 1] rfl) ?_
  refine W.seq ?_
  refine W.seq (W.region ?_)
  refine RL.q (Yld.move rfl) rfl (RL.q (Yld.move rfl) rfl ?_)
  refine RL.q (Yld.lenSl Tryz.underlying22 rfl) rfl ?_
  refine RL.q (Yld.bin rfl rfl BinV.lss) rfl ?_
  refine RL.nil (N.next ?_)
  first | refine W.condD rfl (fun hc9 => ?_) (fun hc9 => ?_) | (refine W.cond rfl (fun hc9 => ?_) (fun hc9 => ?_) <;> try simp only [Bool.or_eq_true, Bool.and_eq_true, Bool.not_eq_true', Bool.not_eq_false', decide_eq_true_eq, Bool.or_eq_false_iff, Bool.and_eq_false_iff, decide_eq_false_iff_not, beq_iff_eq, beq_eq_false_iff_ne, ne_eq, Decidable.not_not] at hc9)
  ·
   obtain ⟨z, hz, hlz⟩ := tz_at (show j < l.length by omega)
   refine W.skip ?_
   refine N.next ?_
   refine W.keep (.of [0, 1, 5] rfl) (.of [0, 1] rfl) ?_
   refine W.seq ?_
   refine W.block ?_
   refine W.seq (W.region ?_)
   refine RL.q (Yld.move rfl) rfl (RL.q (Yld.move rfl) rfl ?_)
   refine RL.q (Yld.ixr Tryz.underlying22 sz9 rfl rfl) rfl ?_
   refine RL.q (by first | exact (Yld.loadRow1 (cl := 1) Tryz.underlying9 rfl rfl rfl (by first | assumption | exact Own.sl (by assumption)) (by assumption)) | exact (Yld.lrF 1 0 Tryz.underlying9 rfl rfl rfl rfl)) rfl ?_
   refine RL.q (Yld.move rfl) rfl ?_
   refine RL.q (Yld.bin rfl rfl BinV.eqlS) rfl ?_
   refine RL.nil (N.next ?_)
   refine W.keep (.of [0, 1, 5, 17] rfl) (.of [0, 1] rfl) ?_
   first | refine W.condD rfl (fun hc17 => ?_) (fun hc17 => ?_) | (refine W.cond rfl (fun hc17 => ?_) (fun hc17 => ?_) <;> try simp only [Bool.or_eq_true, Bool.and_eq_true, Bool.not_eq_true', Bool.not_eq_false', decide_eq_true_eq, Bool.or_eq_false_iff, Bool.and_eq_false_iff, decide_eq_false_iff_not, beq_iff_eq, beq_eq_false_iff_ne, ne_eq, Decidable.not_not] at hc17)
   ·
    refine W.seq (W.region ?_)
    refine RL.q (Yld.assign rfl) rfl (RL.nil (N.next ?_))
    refine W.keep (.of [4] rfl) (.of [0, 1] rfl) ?_
    refine W.ret ?_
    refine N.block_ret ?_
    refine N.then_ret ?_
    refine N.then_ret ?_
    refine N.block_ret ?_
    refine N.then_ret ?_
    exact N.retBy [1] (.cons (.tmp rfl) .nil) rfl rfl rfl rfl ⟨by show Value.bool _ = _; congr 1; rw [eq_comm, pB_iff, ← hc17]; exact List.mem_of_getElem? hz, rfl⟩
   ·
    refine W.skip ?_
    refine N.block_normal ?_
    refine N.next ?_
    refine W.region ?_
    refine RL.q (Yld.move rfl) rfl ?_
    refine RL.q (Yld.bin rfl rfl (by first | exact BinV.add (by omega) (by omega) | exact BinV.addW)) rfl ?_
    refine RL.q (Yld.assign rfl) rfl (RL.nil ?_)
    exact N.famK (j + 1) ⟨⟨by omega, fun i y hi hy => (Nat.lt_succ_iff_lt_or_eq.1 hi).elim (fun h => hI i y h hy) (fun e => by subst e; rw [hz] at hy; cases hy; exact hc17)⟩, by omega⟩ (.as rfl (by first | rfl | (simp; done) | (congr 1; simp; done) | (congr 1; omega)) .nil) (.to rfl) .nil (.to rfl)
  ·
   refine W.exit ?_
   refine N.then_exit ?_
   refine N.then_exit ?_
   refine N.block_eq ?_
   refine N.next ?_
   refine W.keep .nil (.of [0, 1] rfl) ?_
   refine W.seq (W.region ?_)
   refine RL.q (Yld.assign rfl) rfl (RL.nil (N.next ?_))
   refine W.ret ?_
   exact N.retBy [1] (.cons (.tmp rfl) .nil) rfl rfl rfl rfl ⟨by show Value.bool _ = _; congr 1; rw [eq_comm]; apply pB_not; intro h; obtain ⟨i, hi⟩ := List.getElem?_of_mem h; exact hI i a (by have := (List.getElem?_eq_some_iff.1 hi).1; omega) hi rfl, rfl⟩
set_option maxRecDepth 100000 in
set_option maxHeartbeats 400000 in
theorem equalI_ct (l k : List Int) (H1 : PH) (p q : Option Addr) (c d : Nat) (hl : Sl H1 p c 1 (iz l)) (hk : Sl H1 q d 1 (iz k)) : Ct Tryz.prog 181 [.slice p l.length c, .slice q k.length d] [H1] (fun v Hs => v = .bool (decide (l = k)) ∧ Hs = [H1]) := by
  refine Ct.body Tryz.func181 rfl Tryz.ntmps181 rfl ?_
  intro E F
  have hmxl := hl.len_le
  simp only [iz_len, maxLen] at hmxl
  have hmxk := hk.len_le
  simp only [iz_len, maxLen] at hmxk
  refine W.seq (W.region ?_)
  refine RL.q (Yld.assign rfl) rfl (RL.nil (N.next ?_))
  refine W.seq ?_
  refine W.seq (W.region ?_)
  refine RL.q (Yld.move rfl) rfl ?_
  refine RL.q (Yld.lenSl Tryz.underlying55 rfl) rfl ?_
  refine RL.q (Yld.move rfl) rfl ?_
  refine RL.q (Yld.lenSl Tryz.underlying55 rfl) rfl ?_
  refine RL.q (Yld.bin rfl rfl BinV.neq) rfl ?_
  refine RL.nil (N.next ?_)
  refine W.keep (.of [0, 1, 10] rfl) (.of [0, 1] rfl) ?_
  first | refine W.condD rfl (fun hc10 => ?_) (fun hc10 => ?_) | (refine W.cond rfl (fun hc10 => ?_) (fun hc10 => ?_) <;> try simp only [Bool.or_eq_true, Bool.and_eq_true, Bool.not_eq_true', Bool.not_eq_false', decide_eq_true_eq, Bool.or_eq_false_iff, Bool.and_eq_false_iff, decide_eq_false_iff_not, beq_iff_eq, beq_eq_false_iff_ne, ne_eq, Decidable.not_not] at hc10)
  ·
   refine W.seq (W.region ?_)
   refine RL.q (Yld.assign rfl) rfl (RL.nil (N.next ?_))
   refine W.ret ?_
   refine N.then_ret ?_
   exact N.retBy [1] (.cons (.tmp rfl) .nil) rfl rfl rfl rfl ⟨by show Value.bool _ = _; congr 1; rw [eq_comm, decide_eq_false_iff_not]; intro e; subst e; omega, rfl⟩
  ·
   refine W.skip ?_
   refine N.next ?_
   refine W.seq ?_
   refine W.seq (W.region ?_)
   refine RL.q (Yld.move rfl) rfl ?_
   refine RL.q (Yld.lenSl Tryz.underlying55 rfl) rfl ?_
   refine RL.q (Yld.move rfl) rfl (RL.nil (N.next ?_))
   refine W.block ?_
   refine W.loopK (ι := Nat) (fun j => (j ≤ l.length ∧ ∀ (i : Nat), i < j → l[i]? = k[i]?)) (fun j => [(13, .int .i64 (j : Nat))]) (fun j => []) (fun j => l.length - j) (.of [0, 1, 12] rfl) (.of [0, 1] rfl) 0 ?_ ?_ ?_ ?_
   · exact ⟨Nat.zero_le _, fun _ h => absurd h (Nat.not_lt_zero _)⟩
   · exact (.as rfl (by first | rfl | (simp; done) | (congr 1; simp; done) | (congr 1; omega)) .nil)
   · exact .nil
   rintro j ⟨hj, hI⟩
   refine W.keep (.of [13, 0, 1, 12] rfl) (.of [0, 1] rfl) ?_
   refine W.seq (W.region ?_)
   refine RL.q (Yld.bin rfl rfl BinV.lss) rfl ?_
   refine RL.nil (N.next ?_)
   refine W.seq ?_
   first | refine W.condD rfl (fun hc14 => ?_) (fun hc14 => ?_) | (refine W.cond rfl (fun hc14 => ?_) (fun hc14 => ?_) <;> try simp only [Bool.or_eq_true, Bool.and_eq_true, Bool.not_eq_true', Bool.not_eq_false', decide_eq_true_eq, Bool.or_eq_false_iff, Bool.and_eq_false_iff, decide_eq_false_iff_not, beq_iff_eq, beq_eq_false_iff_ne, ne_eq, Decidable.not_not] at hc14)
   ·
    obtain ⟨z, hz, hlz⟩ := iz_at (show j < l.length by omega)
    obtain ⟨y, hy, hly⟩ := iz_at (show j < k.length by omega)
    refine W.skip ?_
    refine N.next ?_
    refine W.seq ?_
    refine W.block ?_
    refine W.seq (W.region ?_)
    refine RL.q (Yld.move rfl) rfl (RL.q (Yld.assign rfl) rfl (RL.nil (N.next ?_)))
    refine W.seq ?_
    refine W.draw (.q 0 (.q 1 (.q 2 (.q 3 (.q 4 (.q 5 (.q 6 (.q 7 (.q 8 .done))))))))) (.of [0, 1] rfl) mix (by kernel_rfl) (by kernel_rfl) ?_
    refine DL.q rfl (Yld.move rfl) rfl ?_
    refine DL.q rfl (Yld.move rfl) rfl ?_
    refine DL.q rfl (Yld.ixr Tryz.underlying55 sz3 rfl rfl) rfl ?_
    refine DL.q rfl (by first | exact (Yld.loadRow1 (cl := 1) Tryz.underlying3 rfl rfl rfl (by first | assumption | exact Own.sl (by assumption)) (by assumption)) | exact (Yld.lrF 1 0 Tryz.underlying3 rfl rfl rfl rfl)) rfl ?_
    refine DL.q rfl (Yld.move rfl) rfl ?_
    refine DL.q rfl (Yld.move rfl) rfl ?_
    refine DL.q rfl (Yld.ixr Tryz.underlying55 sz3 rfl rfl) rfl ?_
    refine DL.q rfl (by first | exact (Yld.loadRow1 (cl := 1) Tryz.underlying3 rfl rfl rfl (by first | assumption | exact Own.sl (by assumption)) (by assumption)) | exact (Yld.lrF 1 0 Tryz.underlying3 rfl rfl rfl rfl)) rfl ?_
    refine DL.q rfl (Yld.bin rfl rfl BinV.neq) rfl ?_
    refine DL.done ?_
    refine N.next ?_
    refine W.keep (.of [0, 1, 12, 13, 24] rfl) (.of [0, 1] rfl) ?_
    first | refine W.condD rfl (fun hc24 => ?_) (fun hc24 => ?_) | (refine W.cond rfl (fun hc24 => ?_) (fun hc24 => ?_) <;> try simp only [Bool.or_eq_true, Bool.and_eq_true, Bool.not_eq_true', Bool.not_eq_false', decide_eq_true_eq, Bool.or_eq_false_iff, Bool.and_eq_false_iff, decide_eq_false_iff_not, beq_iff_eq, beq_eq_false_iff_ne, ne_eq, Decidable.not_not] at hc24)
    ·
     refine W.seq (W.region ?_)
     refine RL.q (Yld.assign rfl) rfl (RL.nil (N.next ?_))
     refine W.keep (.of [4] rfl) (.of [0, 1] rfl) ?_
     refine W.ret ?_
     refine N.block_ret ?_
     refine N.then_ret ?_
     refine N.then_ret ?_
     refine N.block_ret ?_
     refine N.then_ret ?_
     exact N.retBy [1] (.cons (.tmp rfl) .nil) rfl rfl rfl rfl ⟨by show Value.bool _ = _; congr 1; rw [eq_comm, decide_eq_false_iff_not]; intro e; subst e; rw [hz] at hy; cases hy; omega, rfl⟩
    ·
     refine W.skip ?_
     refine N.block_normal ?_
     refine N.next ?_
     refine W.region ?_
     refine RL.q (Yld.bin rfl rfl (by first | exact BinV.add (by omega) (by omega) | exact BinV.addW)) rfl ?_
     refine RL.q (Yld.move rfl) rfl (RL.nil ?_)
     exact N.famK (j + 1) ⟨⟨by omega, fun i hi => (Nat.lt_succ_iff_lt_or_eq.1 hi).elim (fun h => hI i h) (fun e => by subst e; rw [hz, hy]; congr 1; omega)⟩, by omega⟩ (.as rfl (by first | rfl | (simp; done) | (congr 1; simp; done) | (congr 1; omega)) .nil) (.to rfl) .nil (.to rfl)
   ·
    refine W.exit ?_
    refine N.then_exit ?_
    refine N.then_exit ?_
    refine N.block_eq ?_
    refine N.next ?_
    refine W.keep .nil (.of [0, 1] rfl) ?_
    refine W.seq (W.region ?_)
    refine RL.q (Yld.assign rfl) rfl (RL.nil (N.next ?_))
    refine W.ret ?_
    exact N.retBy [1] (.cons (.tmp rfl) .nil) rfl rfl rfl rfl ⟨by show Value.bool _ = _; congr 1; rw [eq_comm, decide_eq_true_eq]; apply List.ext_getElem?; intro i; by_cases h : i < l.length; exact hI i (by omega); rw [List.getElem?_eq_none (by omega), List.getElem?_eq_none (by omega)], rfl⟩
end Go.Proofs.YtboapdcmaeojgaaGreatDoor
namespace Go.Proofs.YtboapdcmaeojgaaGreatDoor
open SL Cat
set_option linter.unusedVariables false
set_option linter.unusedSimpArgs false
theorem sz64 : sz Tryz.prog 64 7 := (by kernel_rfl : (Tryz.prog.info? 64).map (·.size) = some 7)
theorem ent123 : Ent Tryz.prog 123 := ⟨_, _, Tryz.func123, by kernel_rfl, rfl⟩
theorem sz97 : sz Tryz.prog 97 7 := (by kernel_rfl : (Tryz.prog.info? 97).map (·.size) = some 7)
theorem ent128 : Ent Tryz.prog 128 := ⟨_, _, Tryz.func128, by kernel_rfl, rfl⟩
theorem ent67 : Ent Tryz.prog 67 := ⟨_, _, Tryz.func67, by kernel_rfl, rfl⟩
theorem zc3 : zc Tryz.prog 3 [.int .i64 0] := (by kernel_rfl : ((Tryz.prog.info? 3).bind (·.zero)).map (fun v => v.cells.toList) = some [.int .i64 0])
theorem fo64_2 : fieldOff Tryz.prog 64 2 = some 2 := by kernel_rfl
theorem ent35 : Ent Tryz.prog 35 := ⟨_, _, Tryz.func35, by kernel_rfl, rfl⟩
theorem fo64_6 : fieldOff Tryz.prog 64 6 = some 6 := by kernel_rfl
theorem ent124 : Ent Tryz.prog 124 := ⟨_, _, Tryz.func124, by kernel_rfl, rfl⟩
theorem ent125 : Ent Tryz.prog 125 := ⟨_, _, Tryz.func125, by kernel_rfl, rfl⟩
theorem ent126 : Ent Tryz.prog 126 := ⟨_, _, Tryz.func126, by kernel_rfl, rfl⟩
theorem fo64_1 : fieldOff Tryz.prog 64 1 = some 1 := by kernel_rfl
theorem zv32 : zv Tryz.prog 32 (.nilFunc) := (by kernel_rfl : (Tryz.prog.info? 32).bind (·.zero) = some (.nilFunc))
theorem sz29 : sz Tryz.prog 29 11 := (by kernel_rfl : (Tryz.prog.info? 29).map (·.size) = some 11)
theorem ent127 : Ent Tryz.prog 127 := ⟨_, _, Tryz.func127, by kernel_rfl, rfl⟩
theorem fo64_3 : fieldOff Tryz.prog 64 3 = some 3 := by kernel_rfl
theorem fo64_4 : fieldOff Tryz.prog 64 4 = some 4 := by kernel_rfl
theorem fo64_5 : fieldOff Tryz.prog 64 5 = some 5 := by kernel_rfl
set_option maxRecDepth 100000 in
set_option maxHeartbeats 400000 in
theorem ifIt_ct (l : List It) (H1 : PH) (p : Option Addr) (c n : Nat) (hn : n = l.length) (hS : Sl H1 p c 7 (l.map It.c)) (f : Nat) (cap : List Value) (G1 : PH) (q : It → Bool) (hent : Ent Tryz.prog f) (hf : ∀ x ∈ l, Ct Tryz.prog f (.agg x.c.toArray :: cap) [H1, G1] (fun v Hs => v = .bool (q x) ∧ Hs = [H1, G1])) : Ct Tryz.prog 123 [.slice p n c, .func (.func f) [].toArray cap.toArray] [H1, G1] (fun v Hs => (∃ r : Int, v = .int .i64 r ∧ decide (0 ≤ r) = l.any q) ∧ Hs = [H1, G1]) := by
  refine Ct.body Tryz.func123 rfl Tryz.ntmps123 rfl ?_
  intro E F
  subst hn
  have hmx := hS.len_le
  simp only [List.length_map, maxLen] at hmx
  refine W.seq (W.region ?_)
  refine RL.q (Yld.assign rfl) rfl (RL.nil (N.next ?_))
  refine W.seq ?_
  refine W.seq (W.region ?_)
  refine RL.q (Yld.move rfl) rfl ?_
  refine RL.q (Yld.lenSl Tryz.underlying26 rfl) rfl ?_
  refine RL.q (Yld.move rfl) rfl (RL.nil (N.next ?_))
  refine W.block ?_
  refine W.loopK (ι := Nat) (fun j => (j ≤ l.length ∧ ∀ (i : Nat) x, i < j → l[i]? = some x → q x = false)) (fun j => [(8, .int .i64 (j : Nat))]) (fun j => []) (fun j => l.length - j) (.of [0, 1, 7] rfl) (.of [0, 1, 2] rfl) 0 ?_ ?_ ?_ ?_
  · exact ⟨Nat.zero_le _, fun _ _ h => absurd h (Nat.not_lt_zero _)⟩
  · exact (.as rfl (by first | rfl | (simp; done) | (congr 1; simp; done) | (congr 1; omega)) .nil)
  · exact .nil
  rintro j ⟨hj, hI⟩
  refine W.keep (.of [8, 0, 1, 7] rfl) (.of [0, 1, 2] rfl) ?_
  refine W.seq (W.region ?_)
  refine RL.q (Yld.bin rfl rfl BinV.lss) rfl ?_
  refine RL.nil (N.next ?_)
  refine W.seq ?_
  first | refine W.condD rfl (fun hc9 => ?_) (fun hc9 => ?_) | (refine W.cond rfl (fun hc9 => ?_) (fun hc9 => ?_) <;> try simp only [Bool.or_eq_true, Bool.and_eq_true, Bool.not_eq_true', Bool.not_eq_false', decide_eq_true_eq, Bool.or_eq_false_iff, Bool.and_eq_false_iff, decide_eq_false_iff_not, beq_iff_eq, beq_eq_false_iff_ne, ne_eq, Decidable.not_not] at hc9)
  ·
   obtain ⟨x, hx⟩ : ∃ x, l[j]? = some x := ⟨_, List.getElem?_eq_getElem (show j < l.length by first | omega | (simp only [List.length_map] at *; omega))⟩
   have hlx : (l.map It.c)[j]? = some x.c := by simp [hx]
   refine W.skip ?_
   refine N.next ?_
   refine W.seq ?_
   refine W.block ?_
   refine W.seq (W.region ?_)
   refine RL.q (Yld.move rfl) rfl (RL.q (Yld.assign rfl) rfl (RL.nil (N.next ?_)))
   refine W.seq (W.region ?_)
   refine RL.q (Yld.move rfl) rfl (RL.q (Yld.move rfl) rfl (RL.q (Yld.move rfl) rfl ?_))
   refine RL.q (Yld.ixr Tryz.underlying26 sz64 rfl rfl) rfl ?_
   refine RL.q (by first | exact Yld.lrA 1 Tryz.underlying64 sz64 rfl rfl rfl | exact Yld.lrA 2 Tryz.underlying64 sz64 rfl rfl rfl) rfl ?_
   refine RL.e (Eff.callV hent [1, 2] [1, 2] rfl (.cons rfl .nil) (hf x (List.mem_of_getElem? hx)) rfl rfl rfl rfl (by rintro _ _ ⟨_, rfl⟩; rfl)) rfl ?_
   rintro _ _ ⟨_, ⟨rfl, rfl⟩, rfl⟩
   refine RL.nil (N.next ?_)
   refine W.keep (.of [0, 1, 5, 7, 8, 16] rfl) (.of [0, 1, 2] rfl) ?_
   refine W.cond rfl (fun hc16 => ?_) (fun hc16 => ?_)
   ·
    refine W.seq (W.region ?_)
    refine RL.q (Yld.move rfl) rfl (RL.q (Yld.assign rfl) rfl (RL.nil (N.next ?_)))
    refine W.keep (.of [4] rfl) (.of [0, 1, 2] rfl) ?_
    refine W.ret ?_
    refine N.block_ret ?_
    refine N.then_ret ?_
    refine N.then_ret ?_
    refine N.block_ret ?_
    refine N.then_ret ?_
    exact N.retBy [1, 2] (.cons (.tmp rfl) .nil) rfl rfl rfl rfl ⟨⟨_, rfl, by rw [decide_eq_true (by omega), eq_comm, List.any_eq_true]; exact ⟨x, List.mem_of_getElem? hx, hc16⟩⟩, rfl⟩
   ·
    refine W.skip ?_
    refine N.block_normal ?_
    refine N.next ?_
    refine W.region ?_
    refine RL.q (Yld.bin rfl rfl (by first | exact BinV.add (by omega) (by omega) | exact BinV.addW)) rfl ?_
    refine RL.q (Yld.move rfl) rfl (RL.nil ?_)
    exact N.famK (j + 1) ⟨⟨by omega, fun i y hi hy => (Nat.lt_succ_iff_lt_or_eq.1 hi).elim (fun h => hI i y h hy) (fun e => by subst e; rw [hx] at hy; cases hy; simpa using hc16)⟩, by omega⟩ (.as rfl (by first | rfl | (simp; done) | (congr 1; simp; done) | (congr 1; omega)) .nil) (.to rfl) .nil (.to rfl)
  ·
   refine W.exit ?_
   refine N.then_exit ?_
   refine N.then_exit ?_
   refine N.block_eq ?_
   refine N.next ?_
   refine W.keep .nil (.of [0, 1, 2] rfl) ?_
   refine W.seq (W.region ?_)
   refine RL.q (Yld.assign rfl) rfl (RL.nil (N.next ?_))
   refine W.ret ?_
   exact N.retBy [1, 2] (.cons (.tmp rfl) .nil) rfl rfl rfl rfl ⟨⟨_, rfl, by rw [decide_eq_false (by omega), eq_comm, List.any_eq_false]; intro x hx; obtain ⟨i, hi⟩ := List.getElem?_of_mem hx; rw [hI i x (by have := (List.getElem?_eq_some_iff.1 hi).1; omega) hi]; decide⟩, rfl⟩
set_option maxRecDepth 100000 in
set_option maxHeartbeats 400000 in
theorem cfIt_ct (l : List It) (H1 : PH) (p : Option Addr) (c n : Nat) (hn : n = l.length) (hS : Sl H1 p c 7 (l.map It.c)) (f : Nat) (cap : List Value) (G1 : PH) (q : It → Bool) (hent : Ent Tryz.prog f) (hf : ∀ x ∈ l, Ct Tryz.prog f (.agg x.c.toArray :: cap) [H1, G1] (fun v Hs => v = .bool (q x) ∧ Hs = [H1, G1])) : Ct Tryz.prog 70 [.slice p n c, .func (.func f) [].toArray cap.toArray] [H1, G1] (fun v Hs => v = .bool (l.any q) ∧ Hs = [H1, G1]) := by
  refine Ct.body Tryz.func70 rfl Tryz.ntmps70 rfl ?_
  intro E F
  refine W.seq (W.region ?_)
  refine RL.q (Yld.assign rfl) rfl (RL.nil (N.next ?_))
  refine W.seq (W.region ?_)
  refine RL.q (Yld.move rfl) rfl (RL.q (Yld.move rfl) rfl ?_)
  refine RL.e (Eff.call ent123 [1, 2] [1, 2] (.cons rfl (.cons rfl .nil)) (ifIt_ct l H1 p c n hn hS f cap G1 q hent hf) rfl rfl rfl rfl (by rintro _ _ ⟨_, rfl⟩; rfl)) rfl ?_
  rintro _ _ ⟨_, ⟨⟨r, rfl, hr⟩, rfl⟩, rfl⟩
  refine RL.q (Yld.bin rfl rfl BinV.geq) rfl ?_
  refine RL.q (Yld.assign rfl) rfl (RL.nil (N.next ?_))
  refine W.keep (.of [4] rfl) (.of [0, 1, 2] rfl) ?_
  refine W.ret ?_
  exact N.retBy [1, 2] (.cons (.tmp rfl) .nil) rfl rfl rfl rfl ⟨by show Value.bool _ = _; congr 1, rfl⟩
set_option maxRecDepth 100000 in
set_option maxHeartbeats 400000 in
theorem ifRl_ct (l : List Rl) (H1 : PH) (p : Option Addr) (c n : Nat) (hn : n = l.length) (hS : Sl H1 p c 7 (l.map Rl.c)) (f : Nat) (cap : List Value) (G1 : PH) (q : Rl → Bool) (hent : Ent Tryz.prog f) (hf : ∀ x ∈ l, Ct Tryz.prog f (.agg x.c.toArray :: cap) [H1, G1] (fun v Hs => v = .bool (q x) ∧ Hs = [H1, G1])) : Ct Tryz.prog 128 [.slice p n c, .func (.func f) [].toArray cap.toArray] [H1, G1] (fun v Hs => (∃ r : Int, v = .int .i64 r ∧ decide (0 ≤ r) = l.any q) ∧ Hs = [H1, G1]) := by
  refine Ct.body Tryz.func128 rfl Tryz.ntmps128 rfl ?_
  intro E F
  subst hn
  have hmx := hS.len_le
  simp only [List.length_map, maxLen] at hmx
  refine W.seq (W.region ?_)
  refine RL.q (Yld.assign rfl) rfl (RL.nil (N.next ?_))
  refine W.seq ?_
  refine W.seq (W.region ?_)
  refine RL.q (Yld.move rfl) rfl ?_
  refine RL.q (Yld.lenSl Tryz.underlying27 rfl) rfl ?_
  refine RL.q (Yld.move rfl) rfl (RL.nil (N.next ?_))
  refine W.block ?_
  refine W.loopK (ι := Nat) (fun j => (j ≤ l.length ∧ ∀ (i : Nat) x, i < j → l[i]? = some x → q x = false)) (fun j => [(8, .int .i64 (j : Nat))]) (fun j => []) (fun j => l.length - j) (.of [0, 1, 7] rfl) (.of [0, 1, 2] rfl) 0 ?_ ?_ ?_ ?_
  · exact ⟨Nat.zero_le _, fun _ _ h => absurd h (Nat.not_lt_zero _)⟩
  · exact (.as rfl (by first | rfl | (simp; done) | (congr 1; simp; done) | (congr 1; omega)) .nil)
  · exact .nil
  rintro j ⟨hj, hI⟩
  refine W.keep (.of [8, 0, 1, 7] rfl) (.of [0, 1, 2] rfl) ?_
  refine W.seq (W.region ?_)
  refine RL.q (Yld.bin rfl rfl BinV.lss) rfl ?_
  refine RL.nil (N.next ?_)
  refine W.seq ?_
  first | refine W.condD rfl (fun hc9 => ?_) (fun hc9 => ?_) | (refine W.cond rfl (fun hc9 => ?_) (fun hc9 => ?_) <;> try simp only [Bool.or_eq_true, Bool.and_eq_true, Bool.not_eq_true', Bool.not_eq_false', decide_eq_true_eq, Bool.or_eq_false_iff, Bool.and_eq_false_iff, decide_eq_false_iff_not, beq_iff_eq, beq_eq_false_iff_ne, ne_eq, Decidable.not_not] at hc9)
  ·
   obtain ⟨x, hx⟩ : ∃ x, l[j]? = some x := ⟨_, List.getElem?_eq_getElem (show j < l.length by first | omega | (simp only [List.length_map] at *; omega))⟩
   have hlx : (l.map Rl.c)[j]? = some x.c := by simp [hx]
   refine W.skip ?_
   refine N.next ?_
   refine W.seq ?_
   refine W.block ?_
   refine W.seq (W.region ?_)
   refine RL.q (Yld.move rfl) rfl (RL.q (Yld.assign rfl) rfl (RL.nil (N.next ?_)))
   refine W.seq (W.region ?_)
   refine RL.q (Yld.move rfl) rfl (RL.q (Yld.move rfl) rfl (RL.q (Yld.move rfl) rfl ?_))
   refine RL.q (Yld.ixr Tryz.underlying27 sz97 rfl rfl) rfl ?_
   refine RL.q (by first | exact Yld.lrA 1 Tryz.underlying97 sz97 rfl rfl rfl | exact Yld.lrA 2 Tryz.underlying97 sz97 rfl rfl rfl) rfl ?_
   refine RL.e (Eff.callV hent [1, 2] [1, 2] rfl (.cons rfl .nil) (hf x (List.mem_of_getElem? hx)) rfl rfl rfl rfl (by rintro _ _ ⟨_, rfl⟩; rfl)) rfl ?_
   rintro _ _ ⟨_, ⟨rfl, rfl⟩, rfl⟩
   refine RL.nil (N.next ?_)
   refine W.keep (.of [0, 1, 5, 7, 8, 16] rfl) (.of [0, 1, 2] rfl) ?_
   refine W.cond rfl (fun hc16 => ?_) (fun hc16 => ?_)
   ·
    refine W.seq (W.region ?_)
    refine RL.q (Yld.move rfl) rfl (RL.q (Yld.assign rfl) rfl (RL.nil (N.next ?_)))
    refine W.keep (.of [4] rfl) (.of [0, 1, 2] rfl) ?_
    refine W.ret ?_
    refine N.block_ret ?_
    refine N.then_ret ?_
    refine N.then_ret ?_
    refine N.block_ret ?_
    refine N.then_ret ?_
    exact N.retBy [1, 2] (.cons (.tmp rfl) .nil) rfl rfl rfl rfl ⟨⟨_, rfl, by rw [decide_eq_true (by omega), eq_comm, List.any_eq_true]; exact ⟨x, List.mem_of_getElem? hx, hc16⟩⟩, rfl⟩
   ·
    refine W.skip ?_
    refine N.block_normal ?_
    refine N.next ?_
    refine W.region ?_
    refine RL.q (Yld.bin rfl rfl (by first | exact BinV.add (by omega) (by omega) | exact BinV.addW)) rfl ?_
    refine RL.q (Yld.move rfl) rfl (RL.nil ?_)
    exact N.famK (j + 1) ⟨⟨by omega, fun i y hi hy => (Nat.lt_succ_iff_lt_or_eq.1 hi).elim (fun h => hI i y h hy) (fun e => by subst e; rw [hx] at hy; cases hy; simpa using hc16)⟩, by omega⟩ (.as rfl (by first | rfl | (simp; done) | (congr 1; simp; done) | (congr 1; omega)) .nil) (.to rfl) .nil (.to rfl)
  ·
   refine W.exit ?_
   refine N.then_exit ?_
   refine N.then_exit ?_
   refine N.block_eq ?_
   refine N.next ?_
   refine W.keep .nil (.of [0, 1, 2] rfl) ?_
   refine W.seq (W.region ?_)
   refine RL.q (Yld.assign rfl) rfl (RL.nil (N.next ?_))
   refine W.ret ?_
   exact N.retBy [1, 2] (.cons (.tmp rfl) .nil) rfl rfl rfl rfl ⟨⟨_, rfl, by rw [decide_eq_false (by omega), eq_comm, List.any_eq_false]; intro x hx; obtain ⟨i, hi⟩ := List.getElem?_of_mem hx; rw [hI i x (by have := (List.getElem?_eq_some_iff.1 hi).1; omega) hi]; decide⟩, rfl⟩
set_option maxRecDepth 100000 in
set_option maxHeartbeats 400000 in
theorem cfRl_ct (l : List Rl) (H1 : PH) (p : Option Addr) (c n : Nat) (hn : n = l.length) (hS : Sl H1 p c 7 (l.map Rl.c)) (f : Nat) (cap : List Value) (G1 : PH) (q : Rl → Bool) (hent : Ent Tryz.prog f) (hf : ∀ x ∈ l, Ct Tryz.prog f (.agg x.c.toArray :: cap) [H1, G1] (fun v Hs => v = .bool (q x) ∧ Hs = [H1, G1])) : Ct Tryz.prog 73 [.slice p n c, .func (.func f) [].toArray cap.toArray] [H1, G1] (fun v Hs => v = .bool (l.any q) ∧ Hs = [H1, G1]) := by
  refine Ct.body Tryz.func73 rfl Tryz.ntmps73 rfl ?_
  intro E F
  refine W.seq (W.region ?_)
  refine RL.q (Yld.assign rfl) rfl (RL.nil (N.next ?_))
  refine W.seq (W.region ?_)
  refine RL.q (Yld.move rfl) rfl (RL.q (Yld.move rfl) rfl ?_)
  refine RL.e (Eff.call ent128 [1, 2] [1, 2] (.cons rfl (.cons rfl .nil)) (ifRl_ct l H1 p c n hn hS f cap G1 q hent hf) rfl rfl rfl rfl (by rintro _ _ ⟨_, rfl⟩; rfl)) rfl ?_
  rintro _ _ ⟨_, ⟨⟨r, rfl, hr⟩, rfl⟩, rfl⟩
  refine RL.q (Yld.bin rfl rfl BinV.geq) rfl ?_
  refine RL.q (Yld.assign rfl) rfl (RL.nil (N.next ?_))
  refine W.keep (.of [4] rfl) (.of [0, 1, 2] rfl) ?_
  refine W.ret ?_
  exact N.retBy [1, 2] (.cons (.tmp rfl) .nil) rfl rfl rfl rfl ⟨by show Value.bool _ = _; congr 1, rfl⟩
set_option maxRecDepth 100000 in
set_option maxHeartbeats 800000 in
theorem machines_ct (m : Md) (H1 : PH) (hM : m.In H1) (l : List Int) (p : Option Addr) (c : Nat) (hl : Sl H1 p c 1 (iz l)) : Ct Tryz.prog 127 [.agg [.slice m.psi m.si.length m.csi, .slice m.pfe m.fe.length m.cfe, .slice m.prk m.rk.length m.crk, .slice m.pmc m.mc.length m.cmc, .slice m.pln m.ln.length m.cln, .slice m.pis m.is.length m.cis, .int .i64 m.da, .int .i64 m.sl, .int .i64 m.re, .int .i64 m.fa, .slice m.prl m.rl.length m.crl].toArray, .slice p l.length c] [H1] (fun v Hs => v = .bool (pB (MsV m.mc.length l)) ∧ Hs = [H1]) := by
  refine Ct.body Tryz.func127 rfl Tryz.ntmps127 rfl ?_
  intro E F
  have hmxl := hl.len_le
  simp only [iz_len, maxLen] at hmxl
  refine W.seq (W.region ?_)
  refine RL.e (Eff.box 102 _ rfl rfl) rfl ?_
  rintro _ _ ⟨b2, rfl, rfl⟩
  refine RL.q (Yld.assign rfl) rfl (RL.nil (N.next ?_))
  refine W.seq ?_
  refine W.seq (W.region ?_)
  refine RL.q (Yld.move rfl) rfl ?_
  refine RL.q (Yld.lenSl Tryz.underlying55 rfl) rfl ?_
  refine RL.q (Yld.move rfl) rfl (RL.nil (N.next ?_))
  refine W.block ?_
  refine W.loopK (ι := Nat) (fun j => (j ≤ l.length ∧ MsUp m.mc.length l j)) (fun j => [(9, .int .i64 (j : Nat))]) (fun j => []) (fun j => l.length - j) (.of [1, 2, 7, 8] rfl) (.of [0, 1, 102] rfl) 0 ?_ ?_ ?_ ?_
  · exact ⟨Nat.zero_le _, fun _ _ h => absurd h (Nat.not_lt_zero _)⟩
  · exact (.as rfl (by first | rfl | (simp; done) | (congr 1; simp; done) | (congr 1; omega)) .nil)
  · exact .nil
  rintro j ⟨hj, hI⟩
  refine W.keep (.of [9, 1, 2, 7, 8] rfl) (.of [0, 1, 102] rfl) ?_
  refine W.seq (W.region ?_)
  refine RL.q (Yld.bin rfl rfl BinV.lss) rfl ?_
  refine RL.nil (N.next ?_)
  refine W.seq ?_
  first | refine W.condD rfl (fun hc10 => ?_) (fun hc10 => ?_) | (refine W.cond rfl (fun hc10 => ?_) (fun hc10 => ?_) <;> try simp only [Bool.or_eq_true, Bool.and_eq_true, Bool.not_eq_true', Bool.not_eq_false', decide_eq_true_eq, Bool.or_eq_false_iff, Bool.and_eq_false_iff, decide_eq_false_iff_not, beq_iff_eq, beq_eq_false_iff_ne, ne_eq, Decidable.not_not] at hc10)
  ·
   obtain ⟨z, hz, hlz⟩ := iz_at (show j < l.length by omega)
   obtain ⟨y, hy⟩ : ∃ y, l[((j : Int) - 1).toNat]? = some y := ⟨_, List.getElem?_eq_getElem (by omega)⟩
   have hly : (iz l)[((j : Int) - 1).toNat]? = some [.int .i64 y] := iz_get hy
   have hyy : 0 < j → l[j - 1]? = some y := fun h => by rw [← hy]; congr 1; omega
   refine W.skip ?_
   refine N.next ?_
   refine W.seq ?_
   refine W.block ?_
   refine W.seq (W.region ?_)
   refine RL.q (Yld.move rfl) rfl ?_
   refine RL.q (Yld.ixr Tryz.underlying55 sz3 rfl rfl) rfl ?_
   refine RL.q (by first | exact (by first | exact Yld.loadRow1 (cl := 1) Tryz.underlying3 rfl rfl rfl (by first | assumption | exact Own.sl (by assumption)) (by assumption) | exact Yld.loadRow1 (cl := 102) Tryz.underlying3 rfl rfl rfl (by first | assumption | exact Own.sl (by assumption)) (by assumption)) | exact (by first | exact Yld.lrF 1 0 Tryz.underlying3 rfl rfl rfl rfl | exact Yld.lrF 102 0 Tryz.underlying3 rfl rfl rfl rfl)) rfl ?_
   refine RL.q (Yld.assign rfl) rfl (RL.q (Yld.assign rfl) rfl (RL.nil (N.next ?_)))
   refine W.keep (.of [1, 2, 5, 6, 7, 8, 9] rfl) (.of [0, 1, 102] rfl) ?_
   refine W.seq (W.region ?_)
   refine RL.q (Yld.move rfl) rfl ?_
   refine RL.q (Yld.fieldAddr fo29_3 rfl) rfl ?_
   refine RL.q (Yld.ld 102 Tryz.underlying24 rfl rfl rfl rfl) rfl ?_
   refine RL.q (Yld.lenSl Tryz.underlying24 rfl) rfl ?_
   refine RL.e (Eff.call ent67 [] [] (.cons rfl (.cons rfl (.cons rfl .nil))) (within_ct z 1 m.mc.length) rfl rfl rfl rfl (by rintro _ _ ⟨_, rfl⟩; rfl)) rfl ?_
   rintro _ _ ⟨_, ⟨rfl, rfl⟩, rfl⟩
   refine RL.q Yld.nt rfl (RL.q (Yld.move rfl) rfl ?_)
   refine' RL.or (t := 20) (d := 32) 12 rfl (.of [1, 2, 5, 6, 7, 8, 9, 14, 15, 16, 17, 18, 19] rfl) (.of [0, 1, 102] rfl) ?_ ?_ ?_
   rotate_left 1
   ·
    intro hg20
    refine RL.gq rfl rfl (Yld.move rfl) rfl ?_
    refine RL.gq rfl rfl (Yld.bin rfl rfl BinV.gtr) rfl ?_
    refine RL.gq rfl rfl (Yld.move rfl) rfl ?_
    refine' RL.and (t := 23) (d := 31) 8 rfl (.of [1, 2, 5, 6, 7, 8, 9, 14, 15, 16, 17, 18, 19, 20, 21, 22] rfl) (.of [0, 1, 102] rfl) ?_ ?_ ?_
    rotate_left 1
    ·
     intro hg23
     have hg23 := of_decide_eq_true hg23
     refine RL.gq rfl rfl (Yld.move rfl) rfl ?_
     refine RL.gq rfl rfl (Yld.move rfl) rfl ?_
     refine RL.gq rfl rfl (Yld.bin rfl rfl (by first | exact BinV.sub (by omega) (by omega) | exact BinV.subW)) rfl ?_
     refine RL.gq rfl rfl (Yld.ixr Tryz.underlying55 sz3 rfl rfl) rfl ?_
     refine RL.gq rfl rfl (by first | exact (by first | exact Yld.loadRow1 (cl := 1) Tryz.underlying3 rfl rfl rfl (by first | assumption | exact Own.sl (by assumption)) (by assumption) | exact Yld.loadRow1 (cl := 102) Tryz.underlying3 rfl rfl rfl (by first | assumption | exact Own.sl (by assumption)) (by assumption)) | exact (by first | exact Yld.lrF 1 0 Tryz.underlying3 rfl rfl rfl rfl | exact Yld.lrF 102 0 Tryz.underlying3 rfl rfl rfl rfl)) rfl ?_
     refine RL.gq rfl rfl (Yld.move rfl) rfl ?_
     refine RL.gq rfl rfl (Yld.bin rfl rfl BinV.geq) rfl ?_
     refine RL.gq rfl rfl Yld.pk rfl ?_
     exact RL.nil (N.meet (.to rfl) (.to rfl))
    ·
     intro hg23
     refine RL.gskip rfl rfl rfl rfl ?_
     refine RL.gskip rfl rfl rfl rfl ?_
     refine RL.gskip rfl rfl rfl rfl ?_
     refine RL.gskip rfl rfl rfl rfl ?_
     refine RL.gskip rfl rfl rfl rfl ?_
     refine RL.gskip rfl rfl rfl rfl ?_
     refine RL.gskip rfl rfl rfl rfl ?_
     refine RL.gq rfl rfl Yld.pk rfl ?_
     exact RL.nil (N.meet (.to rfl) (.to rfl))
    refine RL.q Yld.pk rfl ?_
    exact RL.nil (N.meet (.to rfl) (.to rfl))
   ·
    intro hg20
    refine RL.gskip rfl rfl rfl rfl ?_
    refine RL.gskip rfl rfl rfl rfl ?_
    refine RL.gskip rfl rfl rfl rfl ?_
    refine RL.gskipU rfl rfl rfl ?_
    refine RL.gskipU rfl rfl rfl ?_
    refine RL.gskipU rfl rfl rfl ?_
    refine RL.gskipU rfl rfl rfl ?_
    refine RL.gskipU rfl rfl rfl ?_
    refine RL.gskipU rfl rfl rfl ?_
    refine RL.gskipU rfl rfl rfl ?_
    refine RL.gskip rfl rfl rfl rfl ?_
    refine RL.q Yld.pk rfl ?_
    exact RL.nil (N.meet (.to rfl) (.to rfl))
   refine RL.nil (N.next ?_)
   refine W.keep (.of [1, 2, 7, 8, 9, 32] rfl) (.of [0, 1, 102] rfl) ?_
   refine W.cond rfl (fun hc32 => ?_) (fun hc32 => ?_)
   ·
    have hnv : ¬ MsV m.mc.length l := fun h => by
      obtain ⟨h1, h2⟩ := h.2 j z (by omega) hz
      simp only [Bool.or_eq_true, Bool.and_eq_true, decide_eq_true_eq] at hc32
      rcases hc32 with h3 | ⟨h3, h4⟩
      · exact h3 h1
      · have := h2 (by omega) y (hyy (by omega)); omega
    refine W.seq (W.region ?_)
    refine RL.q (Yld.assign rfl) rfl (RL.nil (N.next ?_))
    refine W.keep (.of [4] rfl) (.of [0, 1, 102] rfl) ?_
    refine W.ret ?_
    refine N.block_ret ?_
    refine N.then_ret ?_
    refine N.then_ret ?_
    refine N.block_ret ?_
    refine N.then_ret ?_
    exact N.retBy [1] (.cons (.tmp rfl) .nil) rfl rfl rfl rfl ⟨by rw [pB_not hnv]; rfl, rfl⟩
   ·
    simp only [Bool.or_eq_false_iff, Bool.and_eq_false_iff, decide_eq_false_iff_not, Classical.not_not] at hc32
    have hst : MsUp m.mc.length l (j + 1) := hI.step hz hc32.1 fun h0 w hw => by
      rw [hyy h0] at hw; cases hw
      have := hc32.2; omega
    refine W.skip ?_
    refine N.block_normal ?_
    refine N.next ?_
    refine W.region ?_
    refine RL.q (Yld.bin rfl rfl (by first | exact BinV.add (by omega) (by omega) | exact BinV.addW)) rfl ?_
    refine RL.q (Yld.move rfl) rfl (RL.nil ?_)
    exact N.famK (j + 1) ⟨⟨by omega, hst⟩, by omega⟩ (.as rfl (by first | rfl | (simp; done) | (congr 1; simp; done) | (congr 1; omega)) .nil) (.to rfl) .nil (.to rfl)
  ·
   refine W.exit ?_
   refine N.then_exit ?_
   refine N.then_exit ?_
   refine N.block_eq ?_
   refine N.next ?_
   refine W.keep (.of [1] rfl) (.of [0, 1, 102] rfl) ?_
   refine W.seq (W.region ?_)
   refine RL.q (Yld.move rfl) rfl ?_
   refine RL.q (Yld.lenSl Tryz.underlying55 rfl) rfl ?_
   refine RL.q (Yld.bin rfl rfl BinV.gtr) rfl ?_
   refine RL.q (Yld.assign rfl) rfl (RL.nil (N.next ?_))
   refine W.keep (.of [4] rfl) (.of [0, 1, 102] rfl) ?_
   refine W.ret ?_
   exact N.retBy [1] (.cons (.tmp rfl) .nil) rfl rfl rfl rfl ⟨by show Value.bool _ = Value.bool _; congr 1; rw [Bool.eq_iff_iff]; rw [pB_iff, decide_eq_true_eq]; exact ⟨fun h => ⟨by omega, by rw [← show j = l.length by omega]; exact hI⟩, fun h => by have := h.1; omega⟩, rfl⟩
set_option maxRecDepth 100000 in
set_option maxHeartbeats 400000 in
theorem itC1_ct (b : Nat) (x : It) : Ct Tryz.prog 124 [.pointer (some ⟨b, 0, none⟩)] [single b (.cells [.string x.nm, .int .i64 x.kd, .int .i64 x.cnt, .int .i64 x.ld, .int .i64 x.sz, .int .i64 x.sh, .slice x.po x.on.length x.co].toArray 64 (0, 0))] (fun v Hs => v = .bool (decide (x.cnt ∈ [(1 : Int), 3, 5]) && decide (x.cnt = x.on.length)) ∧ Hs = [single b (.cells [.string x.nm, .int .i64 x.kd, .int .i64 x.cnt, .int .i64 x.ld, .int .i64 x.sz, .int .i64 x.sh, .slice x.po x.on.length x.co].toArray 64 (0, 0))]) := by
  refine Ct.body Tryz.func124 rfl Tryz.ntmps124 rfl ?_
  intro E F
  refine W.seq (W.region ?_)
  refine RL.q (Yld.assign rfl) rfl (RL.nil (N.next ?_))
  refine W.seq (W.region ?_)
  refine RL.e (Eff.buildSlice 102 Tryz.underlying55 sz3 zc3 rfl rfl (.cons rfl rfl (.cons rfl rfl (.cons rfl rfl .nil))) rfl) rfl ?_
  rintro _ _ ⟨b2, rfl, rfl⟩
  refine RL.q (Yld.fieldAddr fo64_2 rfl) rfl ?_
  refine RL.q (Yld.ld 1 Tryz.underlying3 rfl rfl rfl rfl) rfl ?_
  refine RL.e (Eff.call ent35 [102] [102] (.cons rfl (.cons rfl .nil)) (contains_ct [1, 3, 5] _ _ _ (Own.mk (e := 3) (n := 1) (c := 3) [] (by simp [iz, Value.oneCell']) (by simp) (by simp [maxLen]) (by rfl) (by rfl)).sl x.cnt) rfl rfl rfl rfl (by rintro _ _ ⟨_, rfl⟩; rfl)) rfl ?_
  rintro _ _ ⟨_, ⟨rfl, rfl⟩, rfl⟩
  refine RL.q (Yld.move rfl) rfl ?_
  refine' RL.and (t := 6) (d := 13) 7 rfl (.of [0, 1, 2, 3, 4, 5] rfl) (.of [0, 1, 102] rfl) ?_ ?_ ?_
  rotate_left 1
  ·
   intro hg6
   refine RL.gq rfl rfl (Yld.fieldAddr fo64_2 rfl) rfl ?_
   refine RL.gq rfl rfl (Yld.ld 1 Tryz.underlying3 rfl rfl rfl rfl) rfl ?_
   refine RL.gq rfl rfl (Yld.fieldAddr fo64_6 rfl) rfl ?_
   refine RL.gq rfl rfl (Yld.ld 1 Tryz.underlying55 rfl rfl rfl rfl) rfl ?_
   refine RL.gq rfl rfl (Yld.lenSl Tryz.underlying55 rfl) rfl ?_
   refine RL.gq rfl rfl (Yld.bin rfl rfl BinV.eql) rfl ?_
   refine RL.q Yld.pk rfl ?_
   exact RL.nil (N.meet (.to rfl) (.to rfl))
  ·
   intro hg6
   refine RL.gskip rfl rfl rfl rfl ?_
   refine RL.gskip rfl rfl rfl rfl ?_
   refine RL.gskip rfl rfl rfl rfl ?_
   refine RL.gskip rfl rfl rfl rfl ?_
   refine RL.gskip rfl rfl rfl rfl ?_
   refine RL.gskip rfl rfl rfl rfl ?_
   refine RL.q Yld.pk rfl ?_
   exact RL.nil (N.meet (.to rfl) (.to rfl))
  refine RL.q (Yld.assign rfl) rfl (RL.nil (N.next ?_))
  refine W.keep (.of [1] rfl) (.of [0, 1, 102] rfl) ?_
  refine W.ret ?_
  exact N.retBy [1] (.cons (.tmp rfl) .nil) rfl rfl rfl rfl ⟨rfl, rfl⟩
set_option maxRecDepth 100000 in
set_option maxHeartbeats 400000 in
theorem itC2_ct (b : Nat) (x : It) : Ct Tryz.prog 125 [.pointer (some ⟨b, 0, none⟩)] [single b (.cells [.string x.nm, .int .i64 x.kd, .int .i64 x.cnt, .int .i64 x.ld, .int .i64 x.sz, .int .i64 x.sh, .slice x.po x.on.length x.co].toArray 64 (0, 0))] (fun v Hs => v = .bool (decide (InR x.cnt 1 8)) ∧ Hs = [single b (.cells [.string x.nm, .int .i64 x.kd, .int .i64 x.cnt, .int .i64 x.ld, .int .i64 x.sz, .int .i64 x.sh, .slice x.po x.on.length x.co].toArray 64 (0, 0))]) := by
  refine Ct.body Tryz.func125 rfl Tryz.ntmps125 rfl ?_
  intro E F
  refine W.seq (W.region ?_)
  refine RL.q (Yld.assign rfl) rfl (RL.nil (N.next ?_))
  refine W.seq (W.region ?_)
  refine RL.q (Yld.fieldAddr fo64_2 rfl) rfl ?_
  refine RL.q (Yld.ld 1 Tryz.underlying3 rfl rfl rfl rfl) rfl ?_
  refine RL.e (Eff.call ent67 [] [] (.cons rfl (.cons rfl (.cons rfl .nil))) (within_ct x.cnt 1 8) rfl rfl rfl rfl (by rintro _ _ ⟨_, rfl⟩; rfl)) rfl ?_
  rintro _ _ ⟨_, ⟨rfl, rfl⟩, rfl⟩
  refine RL.q (Yld.assign rfl) rfl (RL.nil (N.next ?_))
  refine W.keep (.of [1] rfl) (.of [0, 1] rfl) ?_
  refine W.ret ?_
  exact N.retBy [1] (.cons (.tmp rfl) .nil) rfl rfl rfl rfl ⟨rfl, rfl⟩
set_option maxRecDepth 100000 in
set_option maxHeartbeats 400000 in
theorem itC3_ct (b : Nat) (x : It) : Ct Tryz.prog 126 [.pointer (some ⟨b, 0, none⟩)] [single b (.cells [.string x.nm, .int .i64 x.kd, .int .i64 x.cnt, .int .i64 x.ld, .int .i64 x.sz, .int .i64 x.sh, .slice x.po x.on.length x.co].toArray 64 (0, 0))] (fun v Hs => v = .bool (decide (x.cnt = 1) && decide ((x.on.length : Int) = 1)) ∧ Hs = [single b (.cells [.string x.nm, .int .i64 x.kd, .int .i64 x.cnt, .int .i64 x.ld, .int .i64 x.sz, .int .i64 x.sh, .slice x.po x.on.length x.co].toArray 64 (0, 0))]) := by
  refine Ct.body Tryz.func126 rfl Tryz.ntmps126 rfl ?_
  intro E F
  refine W.seq (W.region ?_)
  refine RL.q (Yld.assign rfl) rfl (RL.nil (N.next ?_))
  refine W.seq (W.region ?_)
  refine RL.q (Yld.fieldAddr fo64_2 rfl) rfl ?_
  refine RL.q (Yld.ld 1 Tryz.underlying3 rfl rfl rfl rfl) rfl ?_
  refine RL.q (Yld.bin rfl rfl BinV.eql) rfl ?_
  refine RL.q (Yld.move rfl) rfl ?_
  refine' RL.and (t := 5) (d := 10) 5 rfl (.of [0, 1, 2, 3, 4] rfl) (.of [0, 1] rfl) ?_ ?_ ?_
  rotate_left 1
  ·
   intro hg5
   refine RL.gq rfl rfl (Yld.fieldAddr fo64_6 rfl) rfl ?_
   refine RL.gq rfl rfl (Yld.ld 1 Tryz.underlying55 rfl rfl rfl rfl) rfl ?_
   refine RL.gq rfl rfl (Yld.lenSl Tryz.underlying55 rfl) rfl ?_
   refine RL.gq rfl rfl (Yld.bin rfl rfl BinV.eql) rfl ?_
   refine RL.q Yld.pk rfl ?_
   exact RL.nil (N.meet (.to rfl) (.to rfl))
  ·
   intro hg5
   refine RL.gskip rfl rfl rfl rfl ?_
   refine RL.gskip rfl rfl rfl rfl ?_
   refine RL.gskip rfl rfl rfl rfl ?_
   refine RL.gskip rfl rfl rfl rfl ?_
   refine RL.q Yld.pk rfl ?_
   exact RL.nil (N.meet (.to rfl) (.to rfl))
  refine RL.q (Yld.assign rfl) rfl (RL.nil (N.next ?_))
  refine W.keep (.of [1] rfl) (.of [0, 1] rfl) ?_
  refine W.ret ?_
  exact N.retBy [1] (.cons (.tmp rfl) .nil) rfl rfl rfl rfl ⟨rfl, rfl⟩
set_option maxRecDepth 100000 in
set_option maxHeartbeats 1600000 in
theorem validItem0_ct (m : Md) (H1 : PH) (hM : m.In H1) (x : It) (hon : Sl H1 x.po x.co 1 (iz x.on)) (hk : x.kd = 0) : Ct Tryz.prog 72 [.agg [.slice m.psi m.si.length m.csi, .slice m.pfe m.fe.length m.cfe, .slice m.prk m.rk.length m.crk, .slice m.pmc m.mc.length m.cmc, .slice m.pln m.ln.length m.cln, .slice m.pis m.is.length m.cis, .int .i64 m.da, .int .i64 m.sl, .int .i64 m.re, .int .i64 m.fa, .slice m.prl m.rl.length m.crl].toArray, .agg [.string x.nm, .int .i64 x.kd, .int .i64 x.cnt, .int .i64 x.ld, .int .i64 x.sz, .int .i64 x.sh, .slice x.po x.on.length x.co].toArray] [H1] (fun v Hs => v = .bool (itB m x) ∧ Hs = [H1]) := by
  refine Ct.body Tryz.func72 rfl Tryz.ntmps72 rfl ?_
  intro E F
  have hcv : countV x = (decide (x.cnt ∈ [(1 : Int), 3, 5]) && decide (x.cnt = x.on.length)) := by unfold countV; rw [if_pos hk]
  have hM0 : MapP (fun a : Int => Value.int .i64 a) #[] 0 [] := MapP.empty _
  refine W.seq (W.region ?_)
  refine RL.e (Eff.box 102 _ rfl rfl) rfl ?_
  rintro _ _ ⟨b2, rfl, rfl⟩
  refine RL.e (Eff.box 103 _ rfl rfl) rfl ?_
  rintro _ _ ⟨b3, rfl, rfl⟩
  refine RL.q (Yld.assign rfl) rfl (RL.nil (N.next ?_))
  refine W.seq (W.region ?_)
  refine RL.e (Eff.makeMap 107) rfl ?_
  rintro _ _ ⟨b7, rfl, rfl⟩
  refine RL.q (Yld.makeFunc eval0 (eval1 rfl)) rfl ?_
  refine RL.e0 (Eff.insert (c := 107) Tryz.underlying172 (keyInt Tryz.underlying3) rfl rfl rfl rfl (by assumption)) ?_
  rintro _ _ ⟨es1, ck1, hM1, rfl⟩
  refine RL.q (Yld.makeFunc eval0 (eval1 rfl)) rfl ?_
  refine RL.e0 (Eff.insert (c := 107) Tryz.underlying172 (keyInt Tryz.underlying3) rfl rfl rfl rfl (by assumption)) ?_
  rintro _ _ ⟨es2, ck2, hM2, rfl⟩
  refine RL.q (Yld.makeFunc eval0 (eval1 rfl)) rfl ?_
  refine RL.e0 (Eff.insert (c := 107) Tryz.underlying172 (keyInt Tryz.underlying3) rfl rfl rfl rfl (by assumption)) ?_
  rintro _ _ ⟨es3, ck3, hM3, rfl⟩
  refine RL.q (Yld.move rfl) rfl (RL.q (Yld.assign rfl) rfl (RL.nil (N.next ?_)))
  refine W.keep (.of [2, 3, 5] rfl) (.of [0, 1, 102, 103, 107] rfl) ?_
  refine W.seq (W.region ?_)
  refine RL.q (Yld.move rfl) rfl ?_
  refine RL.q (Yld.fieldAddr fo64_1 rfl) rfl ?_
  refine RL.q (Yld.ld 103 Tryz.underlying3 rfl rfl rfl rfl) rfl ?_
  refine RL.q (Yld.eq (v' := .func (.func 124) [].toArray [Value.pointer (some ⟨b3, 0, none⟩)].toArray) (Yld.lookup (c := 107) Tryz.underlying172 (keyInt Tryz.underlying3) zv32 rfl rfl rfl (by assumption)) (by rw [mget_mset, mget_mset, mget_mset]; simp [hk]; try rfl)) rfl ?_
  refine RL.q (Yld.assign rfl) rfl (RL.nil (N.next ?_))
  refine W.keep (.of [2, 3, 6] rfl) (.of [0, 1, 102, 103, 107] rfl) ?_
  refine W.seq (W.region ?_)
  refine RL.q (Yld.move rfl) rfl ?_
  refine RL.q (by first | exact Yld.bin rfl rfl (BinV.neqFN Tryz.underlying32) | exact Yld.bin rfl rfl (BinV.neqNN Tryz.underlying32)) rfl ?_
  refine RL.q (Yld.move rfl) rfl ?_
  first | refine RL.as (t := 18) rfl (boolT (by first | assumption | omega | (simp; done))) ?_ | refine RL.as (t := 18) (v := .bool true) rfl rfl ?_
  refine RL.gq rfl rfl (Yld.move rfl) rfl ?_
  refine RL.ge rfl rfl (Eff.callV ent124 [103] [103] rfl .nil (itC1_ct b3 x) rfl rfl rfl rfl (by rintro _ _ ⟨_, rfl⟩; rfl)) rfl ?_
  rintro _ _ ⟨_, ⟨rfl, rfl⟩, rfl⟩
  refine RL.q Yld.pk rfl (RL.q (Yld.move rfl) rfl ?_)
  refine' RL.and (t := 22) (d := 27) 5 rfl (.of [2, 3, 6, 16, 17, 18, 19, 20, 21] rfl) (.of [0, 1, 102, 103, 107] rfl) ?_ ?_ ?_
  rotate_left 1
  ·
   intro hg22
   refine RL.gq rfl rfl (Yld.ldW 102 Tryz.underlying29 sz29 rfl rfl rfl rfl) rfl ?_
   refine RL.gq rfl rfl (Yld.fieldAddr fo64_6 rfl) rfl ?_
   refine RL.gq rfl rfl (Yld.ld 103 Tryz.underlying55 rfl rfl rfl rfl) rfl ?_
   refine RL.ge rfl rfl (Eff.call ent127 [1] [1] (.cons rfl (.cons rfl .nil)) (machines_ct m H1 hM x.on _ _ hon) rfl rfl rfl rfl (by rintro _ _ ⟨_, rfl⟩; rfl)) rfl ?_
   rintro _ _ ⟨_, ⟨rfl, rfl⟩, rfl⟩
   refine RL.q Yld.pk rfl ?_
   exact RL.nil (N.meet (.to rfl) (.to rfl))
  ·
   intro hg22
   refine RL.gskip rfl rfl rfl rfl ?_
   refine RL.gskip rfl rfl rfl rfl ?_
   refine RL.gskip rfl rfl rfl rfl ?_
   refine RL.gskip rfl rfl rfl rfl ?_
   refine RL.q Yld.pk rfl ?_
   exact RL.nil (N.meet (.to rfl) (.to rfl))
  refine RL.q (Yld.move rfl) rfl ?_
  refine' RL.and (t := 28) (d := 32) 4 rfl (.of [2, 3, 6, 16, 17, 18, 19, 20, 21, 27] rfl) (.of [0, 1, 102, 103, 107] rfl) ?_ ?_ ?_
  rotate_left 1
  ·
   intro hg28
   refine RL.gq rfl rfl (Yld.fieldAddr fo64_3 rfl) rfl ?_
   refine RL.gq rfl rfl (Yld.ld 103 Tryz.underlying3 rfl rfl rfl rfl) rfl ?_
   refine RL.ge rfl rfl (Eff.call ent67 [] [] (.cons rfl (.cons rfl (.cons rfl .nil))) (within_ct x.ld 0 1048576) rfl rfl rfl rfl (by rintro _ _ ⟨_, rfl⟩; rfl)) rfl ?_
   rintro _ _ ⟨_, ⟨rfl, rfl⟩, rfl⟩
   refine RL.q Yld.pk rfl ?_
   exact RL.nil (N.meet (.to rfl) (.to rfl))
  ·
   intro hg28
   refine RL.gskip rfl rfl rfl rfl ?_
   refine RL.gskip rfl rfl rfl rfl ?_
   refine RL.gskip rfl rfl rfl rfl ?_
   refine RL.q Yld.pk rfl ?_
   exact RL.nil (N.meet (.to rfl) (.to rfl))
  refine RL.q (Yld.move rfl) rfl ?_
  refine' RL.and (t := 33) (d := 37) 4 rfl (.of [2, 3, 6, 16, 17, 18, 19, 20, 21, 27, 32] rfl) (.of [0, 1, 102, 103, 107] rfl) ?_ ?_ ?_
  rotate_left 1
  ·
   intro hg33
   refine RL.gq rfl rfl (Yld.fieldAddr fo64_4 rfl) rfl ?_
   refine RL.gq rfl rfl (Yld.ld 103 Tryz.underlying3 rfl rfl rfl rfl) rfl ?_
   refine RL.ge rfl rfl (Eff.call ent67 [] [] (.cons rfl (.cons rfl (.cons rfl .nil))) (within_ct x.sz 0 1048576) rfl rfl rfl rfl (by rintro _ _ ⟨_, rfl⟩; rfl)) rfl ?_
   rintro _ _ ⟨_, ⟨rfl, rfl⟩, rfl⟩
   refine RL.q Yld.pk rfl ?_
   exact RL.nil (N.meet (.to rfl) (.to rfl))
  ·
   intro hg33
   refine RL.gskip rfl rfl rfl rfl ?_
   refine RL.gskip rfl rfl rfl rfl ?_
   refine RL.gskip rfl rfl rfl rfl ?_
   refine RL.q Yld.pk rfl ?_
   exact RL.nil (N.meet (.to rfl) (.to rfl))
  refine RL.q (Yld.move rfl) rfl ?_
  refine' RL.and (t := 38) (d := 42) 4 rfl (.of [2, 3, 6, 16, 17, 18, 19, 20, 21, 27, 32, 37] rfl) (.of [0, 1, 102, 103, 107] rfl) ?_ ?_ ?_
  rotate_left 1
  ·
   intro hg38
   refine RL.gq rfl rfl (Yld.fieldAddr fo64_5 rfl) rfl ?_
   refine RL.gq rfl rfl (Yld.ld 103 Tryz.underlying3 rfl rfl rfl rfl) rfl ?_
   refine RL.ge rfl rfl (Eff.call ent67 [] [] (.cons rfl (.cons rfl (.cons rfl .nil))) (within_ct x.sh 1 1048576) rfl rfl rfl rfl (by rintro _ _ ⟨_, rfl⟩; rfl)) rfl ?_
   rintro _ _ ⟨_, ⟨rfl, rfl⟩, rfl⟩
   refine RL.q Yld.pk rfl ?_
   exact RL.nil (N.meet (.to rfl) (.to rfl))
  ·
   intro hg38
   refine RL.gskip rfl rfl rfl rfl ?_
   refine RL.gskip rfl rfl rfl rfl ?_
   refine RL.gskip rfl rfl rfl rfl ?_
   refine RL.q Yld.pk rfl ?_
   exact RL.nil (N.meet (.to rfl) (.to rfl))
  refine RL.q (Yld.assign rfl) rfl (RL.nil (N.next ?_))
  refine W.keep (.of [4] rfl) (.of [0, 1, 102, 103, 107] rfl) ?_
  refine W.ret ?_
  exact N.retBy [1] (.cons (.tmp rfl) .nil) rfl rfl rfl rfl ⟨by unfold itB; rw [hcv]; rfl, rfl⟩
set_option maxRecDepth 100000 in
set_option maxHeartbeats 1600000 in
theorem validItem1_ct (m : Md) (H1 : PH) (hM : m.In H1) (x : It) (hon : Sl H1 x.po x.co 1 (iz x.on)) (hk : x.kd = 1) : Ct Tryz.prog 72 [.agg [.slice m.psi m.si.length m.csi, .slice m.pfe m.fe.length m.cfe, .slice m.prk m.rk.length m.crk, .slice m.pmc m.mc.length m.cmc, .slice m.pln m.ln.length m.cln, .slice m.pis m.is.length m.cis, .int .i64 m.da, .int .i64 m.sl, .int .i64 m.re, .int .i64 m.fa, .slice m.prl m.rl.length m.crl].toArray, .agg [.string x.nm, .int .i64 x.kd, .int .i64 x.cnt, .int .i64 x.ld, .int .i64 x.sz, .int .i64 x.sh, .slice x.po x.on.length x.co].toArray] [H1] (fun v Hs => v = .bool (itB m x) ∧ Hs = [H1]) := by
  refine Ct.body Tryz.func72 rfl Tryz.ntmps72 rfl ?_
  intro E F
  have hcv : countV x = (decide (InR x.cnt 1 8)) := by unfold countV; rw [if_neg (by omega), if_pos hk]
  have hM0 : MapP (fun a : Int => Value.int .i64 a) #[] 0 [] := MapP.empty _
  refine W.seq (W.region ?_)
  refine RL.e (Eff.box 102 _ rfl rfl) rfl ?_
  rintro _ _ ⟨b2, rfl, rfl⟩
  refine RL.e (Eff.box 103 _ rfl rfl) rfl ?_
  rintro _ _ ⟨b3, rfl, rfl⟩
  refine RL.q (Yld.assign rfl) rfl (RL.nil (N.next ?_))
  refine W.seq (W.region ?_)
  refine RL.e (Eff.makeMap 107) rfl ?_
  rintro _ _ ⟨b7, rfl, rfl⟩
  refine RL.q (Yld.makeFunc eval0 (eval1 rfl)) rfl ?_
  refine RL.e0 (Eff.insert (c := 107) Tryz.underlying172 (keyInt Tryz.underlying3) rfl rfl rfl rfl (by assumption)) ?_
  rintro _ _ ⟨es1, ck1, hM1, rfl⟩
  refine RL.q (Yld.makeFunc eval0 (eval1 rfl)) rfl ?_
  refine RL.e0 (Eff.insert (c := 107) Tryz.underlying172 (keyInt Tryz.underlying3) rfl rfl rfl rfl (by assumption)) ?_
  rintro _ _ ⟨es2, ck2, hM2, rfl⟩
  refine RL.q (Yld.makeFunc eval0 (eval1 rfl)) rfl ?_
  refine RL.e0 (Eff.insert (c := 107) Tryz.underlying172 (keyInt Tryz.underlying3) rfl rfl rfl rfl (by assumption)) ?_
  rintro _ _ ⟨es3, ck3, hM3, rfl⟩
  refine RL.q (Yld.move rfl) rfl (RL.q (Yld.assign rfl) rfl (RL.nil (N.next ?_)))
  refine W.keep (.of [2, 3, 5] rfl) (.of [0, 1, 102, 103, 107] rfl) ?_
  refine W.seq (W.region ?_)
  refine RL.q (Yld.move rfl) rfl ?_
  refine RL.q (Yld.fieldAddr fo64_1 rfl) rfl ?_
  refine RL.q (Yld.ld 103 Tryz.underlying3 rfl rfl rfl rfl) rfl ?_
  refine RL.q (Yld.eq (v' := .func (.func 125) [].toArray [Value.pointer (some ⟨b3, 0, none⟩)].toArray) (Yld.lookup (c := 107) Tryz.underlying172 (keyInt Tryz.underlying3) zv32 rfl rfl rfl (by assumption)) (by rw [mget_mset, mget_mset, mget_mset]; simp [hk]; try rfl)) rfl ?_
  refine RL.q (Yld.assign rfl) rfl (RL.nil (N.next ?_))
  refine W.keep (.of [2, 3, 6] rfl) (.of [0, 1, 102, 103, 107] rfl) ?_
  refine W.seq (W.region ?_)
  refine RL.q (Yld.move rfl) rfl ?_
  refine RL.q (by first | exact Yld.bin rfl rfl (BinV.neqFN Tryz.underlying32) | exact Yld.bin rfl rfl (BinV.neqNN Tryz.underlying32)) rfl ?_
  refine RL.q (Yld.move rfl) rfl ?_
  first | refine RL.as (t := 18) rfl (boolT (by first | assumption | omega | (simp; done))) ?_ | refine RL.as (t := 18) (v := .bool true) rfl rfl ?_
  refine RL.gq rfl rfl (Yld.move rfl) rfl ?_
  refine RL.ge rfl rfl (Eff.callV ent125 [103] [103] rfl .nil (itC2_ct b3 x) rfl rfl rfl rfl (by rintro _ _ ⟨_, rfl⟩; rfl)) rfl ?_
  rintro _ _ ⟨_, ⟨rfl, rfl⟩, rfl⟩
  refine RL.q Yld.pk rfl (RL.q (Yld.move rfl) rfl ?_)
  refine' RL.and (t := 22) (d := 27) 5 rfl (.of [2, 3, 6, 16, 17, 18, 19, 20, 21] rfl) (.of [0, 1, 102, 103, 107] rfl) ?_ ?_ ?_
  rotate_left 1
  ·
   intro hg22
   refine RL.gq rfl rfl (Yld.ldW 102 Tryz.underlying29 sz29 rfl rfl rfl rfl) rfl ?_
   refine RL.gq rfl rfl (Yld.fieldAddr fo64_6 rfl) rfl ?_
   refine RL.gq rfl rfl (Yld.ld 103 Tryz.underlying55 rfl rfl rfl rfl) rfl ?_
   refine RL.ge rfl rfl (Eff.call ent127 [1] [1] (.cons rfl (.cons rfl .nil)) (machines_ct m H1 hM x.on _ _ hon) rfl rfl rfl rfl (by rintro _ _ ⟨_, rfl⟩; rfl)) rfl ?_
   rintro _ _ ⟨_, ⟨rfl, rfl⟩, rfl⟩
   refine RL.q Yld.pk rfl ?_
   exact RL.nil (N.meet (.to rfl) (.to rfl))
  ·
   intro hg22
   refine RL.gskip rfl rfl rfl rfl ?_
   refine RL.gskip rfl rfl rfl rfl ?_
   refine RL.gskip rfl rfl rfl rfl ?_
   refine RL.gskip rfl rfl rfl rfl ?_
   refine RL.q Yld.pk rfl ?_
   exact RL.nil (N.meet (.to rfl) (.to rfl))
  refine RL.q (Yld.move rfl) rfl ?_
  refine' RL.and (t := 28) (d := 32) 4 rfl (.of [2, 3, 6, 16, 17, 18, 19, 20, 21, 27] rfl) (.of [0, 1, 102, 103, 107] rfl) ?_ ?_ ?_
  rotate_left 1
  ·
   intro hg28
   refine RL.gq rfl rfl (Yld.fieldAddr fo64_3 rfl) rfl ?_
   refine RL.gq rfl rfl (Yld.ld 103 Tryz.underlying3 rfl rfl rfl rfl) rfl ?_
   refine RL.ge rfl rfl (Eff.call ent67 [] [] (.cons rfl (.cons rfl (.cons rfl .nil))) (within_ct x.ld 0 1048576) rfl rfl rfl rfl (by rintro _ _ ⟨_, rfl⟩; rfl)) rfl ?_
   rintro _ _ ⟨_, ⟨rfl, rfl⟩, rfl⟩
   refine RL.q Yld.pk rfl ?_
   exact RL.nil (N.meet (.to rfl) (.to rfl))
  ·
   intro hg28
   refine RL.gskip rfl rfl rfl rfl ?_
   refine RL.gskip rfl rfl rfl rfl ?_
   refine RL.gskip rfl rfl rfl rfl ?_
   refine RL.q Yld.pk rfl ?_
   exact RL.nil (N.meet (.to rfl) (.to rfl))
  refine RL.q (Yld.move rfl) rfl ?_
  refine' RL.and (t := 33) (d := 37) 4 rfl (.of [2, 3, 6, 16, 17, 18, 19, 20, 21, 27, 32] rfl) (.of [0, 1, 102, 103, 107] rfl) ?_ ?_ ?_
  rotate_left 1
  ·
   intro hg33
   refine RL.gq rfl rfl (Yld.fieldAddr fo64_4 rfl) rfl ?_
   refine RL.gq rfl rfl (Yld.ld 103 Tryz.underlying3 rfl rfl rfl rfl) rfl ?_
   refine RL.ge rfl rfl (Eff.call ent67 [] [] (.cons rfl (.cons rfl (.cons rfl .nil))) (within_ct x.sz 0 1048576) rfl rfl rfl rfl (by rintro _ _ ⟨_, rfl⟩; rfl)) rfl ?_
   rintro _ _ ⟨_, ⟨rfl, rfl⟩, rfl⟩
   refine RL.q Yld.pk rfl ?_
   exact RL.nil (N.meet (.to rfl) (.to rfl))
  ·
   intro hg33
   refine RL.gskip rfl rfl rfl rfl ?_
   refine RL.gskip rfl rfl rfl rfl ?_
   refine RL.gskip rfl rfl rfl rfl ?_
   refine RL.q Yld.pk rfl ?_
   exact RL.nil (N.meet (.to rfl) (.to rfl))
  refine RL.q (Yld.move rfl) rfl ?_
  refine' RL.and (t := 38) (d := 42) 4 rfl (.of [2, 3, 6, 16, 17, 18, 19, 20, 21, 27, 32, 37] rfl) (.of [0, 1, 102, 103, 107] rfl) ?_ ?_ ?_
  rotate_left 1
  ·
   intro hg38
   refine RL.gq rfl rfl (Yld.fieldAddr fo64_5 rfl) rfl ?_
   refine RL.gq rfl rfl (Yld.ld 103 Tryz.underlying3 rfl rfl rfl rfl) rfl ?_
   refine RL.ge rfl rfl (Eff.call ent67 [] [] (.cons rfl (.cons rfl (.cons rfl .nil))) (within_ct x.sh 1 1048576) rfl rfl rfl rfl (by rintro _ _ ⟨_, rfl⟩; rfl)) rfl ?_
   rintro _ _ ⟨_, ⟨rfl, rfl⟩, rfl⟩
   refine RL.q Yld.pk rfl ?_
   exact RL.nil (N.meet (.to rfl) (.to rfl))
  ·
   intro hg38
   refine RL.gskip rfl rfl rfl rfl ?_
   refine RL.gskip rfl rfl rfl rfl ?_
   refine RL.gskip rfl rfl rfl rfl ?_
   refine RL.q Yld.pk rfl ?_
   exact RL.nil (N.meet (.to rfl) (.to rfl))
  refine RL.q (Yld.assign rfl) rfl (RL.nil (N.next ?_))
  refine W.keep (.of [4] rfl) (.of [0, 1, 102, 103, 107] rfl) ?_
  refine W.ret ?_
  exact N.retBy [1] (.cons (.tmp rfl) .nil) rfl rfl rfl rfl ⟨by unfold itB; rw [hcv]; rfl, rfl⟩
set_option maxRecDepth 100000 in
set_option maxHeartbeats 1600000 in
theorem validItem2_ct (m : Md) (H1 : PH) (hM : m.In H1) (x : It) (hon : Sl H1 x.po x.co 1 (iz x.on)) (hk : x.kd = 2) : Ct Tryz.prog 72 [.agg [.slice m.psi m.si.length m.csi, .slice m.pfe m.fe.length m.cfe, .slice m.prk m.rk.length m.crk, .slice m.pmc m.mc.length m.cmc, .slice m.pln m.ln.length m.cln, .slice m.pis m.is.length m.cis, .int .i64 m.da, .int .i64 m.sl, .int .i64 m.re, .int .i64 m.fa, .slice m.prl m.rl.length m.crl].toArray, .agg [.string x.nm, .int .i64 x.kd, .int .i64 x.cnt, .int .i64 x.ld, .int .i64 x.sz, .int .i64 x.sh, .slice x.po x.on.length x.co].toArray] [H1] (fun v Hs => v = .bool (itB m x) ∧ Hs = [H1]) := by
  refine Ct.body Tryz.func72 rfl Tryz.ntmps72 rfl ?_
  intro E F
  have hcv : countV x = (decide (x.cnt = 1) && decide ((x.on.length : Int) = 1)) := by unfold countV; rw [if_neg (by omega), if_neg (by omega), if_pos hk]
  have hM0 : MapP (fun a : Int => Value.int .i64 a) #[] 0 [] := MapP.empty _
  refine W.seq (W.region ?_)
  refine RL.e (Eff.box 102 _ rfl rfl) rfl ?_
  rintro _ _ ⟨b2, rfl, rfl⟩
  refine RL.e (Eff.box 103 _ rfl rfl) rfl ?_
  rintro _ _ ⟨b3, rfl, rfl⟩
  refine RL.q (Yld.assign rfl) rfl (RL.nil (N.next ?_))
  refine W.seq (W.region ?_)
  refine RL.e (Eff.makeMap 107) rfl ?_
  rintro _ _ ⟨b7, rfl, rfl⟩
  refine RL.q (Yld.makeFunc eval0 (eval1 rfl)) rfl ?_
  refine RL.e0 (Eff.insert (c := 107) Tryz.underlying172 (keyInt Tryz.underlying3) rfl rfl rfl rfl (by assumption)) ?_
  rintro _ _ ⟨es1, ck1, hM1, rfl⟩
  refine RL.q (Yld.makeFunc eval0 (eval1 rfl)) rfl ?_
  refine RL.e0 (Eff.insert (c := 107) Tryz.underlying172 (keyInt Tryz.underlying3) rfl rfl rfl rfl (by assumption)) ?_
  rintro _ _ ⟨es2, ck2, hM2, rfl⟩
  refine RL.q (Yld.makeFunc eval0 (eval1 rfl)) rfl ?_
  refine RL.e0 (Eff.insert (c := 107) Tryz.underlying172 (keyInt Tryz.underlying3) rfl rfl rfl rfl (by assumption)) ?_
  rintro _ _ ⟨es3, ck3, hM3, rfl⟩
  refine RL.q (Yld.move rfl) rfl (RL.q (Yld.assign rfl) rfl (RL.nil (N.next ?_)))
  refine W.keep (.of [2, 3, 5] rfl) (.of [0, 1, 102, 103, 107] rfl) ?_
  refine W.seq (W.region ?_)
  refine RL.q (Yld.move rfl) rfl ?_
  refine RL.q (Yld.fieldAddr fo64_1 rfl) rfl ?_
  refine RL.q (Yld.ld 103 Tryz.underlying3 rfl rfl rfl rfl) rfl ?_
  refine RL.q (Yld.eq (v' := .func (.func 126) [].toArray [Value.pointer (some ⟨b3, 0, none⟩)].toArray) (Yld.lookup (c := 107) Tryz.underlying172 (keyInt Tryz.underlying3) zv32 rfl rfl rfl (by assumption)) (by rw [mget_mset, mget_mset, mget_mset]; simp [hk]; try rfl)) rfl ?_
  refine RL.q (Yld.assign rfl) rfl (RL.nil (N.next ?_))
  refine W.keep (.of [2, 3, 6] rfl) (.of [0, 1, 102, 103, 107] rfl) ?_
  refine W.seq (W.region ?_)
  refine RL.q (Yld.move rfl) rfl ?_
  refine RL.q (by first | exact Yld.bin rfl rfl (BinV.neqFN Tryz.underlying32) | exact Yld.bin rfl rfl (BinV.neqNN Tryz.underlying32)) rfl ?_
  refine RL.q (Yld.move rfl) rfl ?_
  first | refine RL.as (t := 18) rfl (boolT (by first | assumption | omega | (simp; done))) ?_ | refine RL.as (t := 18) (v := .bool true) rfl rfl ?_
  refine RL.gq rfl rfl (Yld.move rfl) rfl ?_
  refine RL.ge rfl rfl (Eff.callV ent126 [103] [103] rfl .nil (itC3_ct b3 x) rfl rfl rfl rfl (by rintro _ _ ⟨_, rfl⟩; rfl)) rfl ?_
  rintro _ _ ⟨_, ⟨rfl, rfl⟩, rfl⟩
  refine RL.q Yld.pk rfl (RL.q (Yld.move rfl) rfl ?_)
  refine' RL.and (t := 22) (d := 27) 5 rfl (.of [2, 3, 6, 16, 17, 18, 19, 20, 21] rfl) (.of [0, 1, 102, 103, 107] rfl) ?_ ?_ ?_
  rotate_left 1
  ·
   intro hg22
   refine RL.gq rfl rfl (Yld.ldW 102 Tryz.underlying29 sz29 rfl rfl rfl rfl) rfl ?_
   refine RL.gq rfl rfl (Yld.fieldAddr fo64_6 rfl) rfl ?_
   refine RL.gq rfl rfl (Yld.ld 103 Tryz.underlying55 rfl rfl rfl rfl) rfl ?_
   refine RL.ge rfl rfl (Eff.call ent127 [1] [1] (.cons rfl (.cons rfl .nil)) (machines_ct m H1 hM x.on _ _ hon) rfl rfl rfl rfl (by rintro _ _ ⟨_, rfl⟩; rfl)) rfl ?_
   rintro _ _ ⟨_, ⟨rfl, rfl⟩, rfl⟩
   refine RL.q Yld.pk rfl ?_
   exact RL.nil (N.meet (.to rfl) (.to rfl))
  ·
   intro hg22
   refine RL.gskip rfl rfl rfl rfl ?_
   refine RL.gskip rfl rfl rfl rfl ?_
   refine RL.gskip rfl rfl rfl rfl ?_
   refine RL.gskip rfl rfl rfl rfl ?_
   refine RL.q Yld.pk rfl ?_
   exact RL.nil (N.meet (.to rfl) (.to rfl))
  refine RL.q (Yld.move rfl) rfl ?_
  refine' RL.and (t := 28) (d := 32) 4 rfl (.of [2, 3, 6, 16, 17, 18, 19, 20, 21, 27] rfl) (.of [0, 1, 102, 103, 107] rfl) ?_ ?_ ?_
  rotate_left 1
  ·
   intro hg28
   refine RL.gq rfl rfl (Yld.fieldAddr fo64_3 rfl) rfl ?_
   refine RL.gq rfl rfl (Yld.ld 103 Tryz.underlying3 rfl rfl rfl rfl) rfl ?_
   refine RL.ge rfl rfl (Eff.call ent67 [] [] (.cons rfl (.cons rfl (.cons rfl .nil))) (within_ct x.ld 0 1048576) rfl rfl rfl rfl (by rintro _ _ ⟨_, rfl⟩; rfl)) rfl ?_
   rintro _ _ ⟨_, ⟨rfl, rfl⟩, rfl⟩
   refine RL.q Yld.pk rfl ?_
   exact RL.nil (N.meet (.to rfl) (.to rfl))
  ·
   intro hg28
   refine RL.gskip rfl rfl rfl rfl ?_
   refine RL.gskip rfl rfl rfl rfl ?_
   refine RL.gskip rfl rfl rfl rfl ?_
   refine RL.q Yld.pk rfl ?_
   exact RL.nil (N.meet (.to rfl) (.to rfl))
  refine RL.q (Yld.move rfl) rfl ?_
  refine' RL.and (t := 33) (d := 37) 4 rfl (.of [2, 3, 6, 16, 17, 18, 19, 20, 21, 27, 32] rfl) (.of [0, 1, 102, 103, 107] rfl) ?_ ?_ ?_
  rotate_left 1
  ·
   intro hg33
   refine RL.gq rfl rfl (Yld.fieldAddr fo64_4 rfl) rfl ?_
   refine RL.gq rfl rfl (Yld.ld 103 Tryz.underlying3 rfl rfl rfl rfl) rfl ?_
   refine RL.ge rfl rfl (Eff.call ent67 [] [] (.cons rfl (.cons rfl (.cons rfl .nil))) (within_ct x.sz 0 1048576) rfl rfl rfl rfl (by rintro _ _ ⟨_, rfl⟩; rfl)) rfl ?_
   rintro _ _ ⟨_, ⟨rfl, rfl⟩, rfl⟩
   refine RL.q Yld.pk rfl ?_
   exact RL.nil (N.meet (.to rfl) (.to rfl))
  ·
   intro hg33
   refine RL.gskip rfl rfl rfl rfl ?_
   refine RL.gskip rfl rfl rfl rfl ?_
   refine RL.gskip rfl rfl rfl rfl ?_
   refine RL.q Yld.pk rfl ?_
   exact RL.nil (N.meet (.to rfl) (.to rfl))
  refine RL.q (Yld.move rfl) rfl ?_
  refine' RL.and (t := 38) (d := 42) 4 rfl (.of [2, 3, 6, 16, 17, 18, 19, 20, 21, 27, 32, 37] rfl) (.of [0, 1, 102, 103, 107] rfl) ?_ ?_ ?_
  rotate_left 1
  ·
   intro hg38
   refine RL.gq rfl rfl (Yld.fieldAddr fo64_5 rfl) rfl ?_
   refine RL.gq rfl rfl (Yld.ld 103 Tryz.underlying3 rfl rfl rfl rfl) rfl ?_
   refine RL.ge rfl rfl (Eff.call ent67 [] [] (.cons rfl (.cons rfl (.cons rfl .nil))) (within_ct x.sh 1 1048576) rfl rfl rfl rfl (by rintro _ _ ⟨_, rfl⟩; rfl)) rfl ?_
   rintro _ _ ⟨_, ⟨rfl, rfl⟩, rfl⟩
   refine RL.q Yld.pk rfl ?_
   exact RL.nil (N.meet (.to rfl) (.to rfl))
  ·
   intro hg38
   refine RL.gskip rfl rfl rfl rfl ?_
   refine RL.gskip rfl rfl rfl rfl ?_
   refine RL.gskip rfl rfl rfl rfl ?_
   refine RL.q Yld.pk rfl ?_
   exact RL.nil (N.meet (.to rfl) (.to rfl))
  refine RL.q (Yld.assign rfl) rfl (RL.nil (N.next ?_))
  refine W.keep (.of [4] rfl) (.of [0, 1, 102, 103, 107] rfl) ?_
  refine W.ret ?_
  exact N.retBy [1] (.cons (.tmp rfl) .nil) rfl rfl rfl rfl ⟨by unfold itB; rw [hcv]; rfl, rfl⟩
set_option maxRecDepth 100000 in
set_option maxHeartbeats 1600000 in
theorem validItem3_ct (m : Md) (H1 : PH) (hM : m.In H1) (x : It) (hon : Sl H1 x.po x.co 1 (iz x.on)) (hk : x.kd ≠ 0 ∧ x.kd ≠ 1 ∧ x.kd ≠ 2) : Ct Tryz.prog 72 [.agg [.slice m.psi m.si.length m.csi, .slice m.pfe m.fe.length m.cfe, .slice m.prk m.rk.length m.crk, .slice m.pmc m.mc.length m.cmc, .slice m.pln m.ln.length m.cln, .slice m.pis m.is.length m.cis, .int .i64 m.da, .int .i64 m.sl, .int .i64 m.re, .int .i64 m.fa, .slice m.prl m.rl.length m.crl].toArray, .agg [.string x.nm, .int .i64 x.kd, .int .i64 x.cnt, .int .i64 x.ld, .int .i64 x.sz, .int .i64 x.sh, .slice x.po x.on.length x.co].toArray] [H1] (fun v Hs => v = .bool (itB m x) ∧ Hs = [H1]) := by
  refine Ct.body Tryz.func72 rfl Tryz.ntmps72 rfl ?_
  intro E F
  have hcv : countV x = (false) := by unfold countV; rw [if_neg hk.1, if_neg hk.2.1, if_neg hk.2.2]
  have hM0 : MapP (fun a : Int => Value.int .i64 a) #[] 0 [] := MapP.empty _
  refine W.seq (W.region ?_)
  refine RL.e (Eff.box 102 _ rfl rfl) rfl ?_
  rintro _ _ ⟨b2, rfl, rfl⟩
  refine RL.e (Eff.box 103 _ rfl rfl) rfl ?_
  rintro _ _ ⟨b3, rfl, rfl⟩
  refine RL.q (Yld.assign rfl) rfl (RL.nil (N.next ?_))
  refine W.seq (W.region ?_)
  refine RL.e (Eff.makeMap 107) rfl ?_
  rintro _ _ ⟨b7, rfl, rfl⟩
  refine RL.q (Yld.makeFunc eval0 (eval1 rfl)) rfl ?_
  refine RL.e0 (Eff.insert (c := 107) Tryz.underlying172 (keyInt Tryz.underlying3) rfl rfl rfl rfl (by assumption)) ?_
  rintro _ _ ⟨es1, ck1, hM1, rfl⟩
  refine RL.q (Yld.makeFunc eval0 (eval1 rfl)) rfl ?_
  refine RL.e0 (Eff.insert (c := 107) Tryz.underlying172 (keyInt Tryz.underlying3) rfl rfl rfl rfl (by assumption)) ?_
  rintro _ _ ⟨es2, ck2, hM2, rfl⟩
  refine RL.q (Yld.makeFunc eval0 (eval1 rfl)) rfl ?_
  refine RL.e0 (Eff.insert (c := 107) Tryz.underlying172 (keyInt Tryz.underlying3) rfl rfl rfl rfl (by assumption)) ?_
  rintro _ _ ⟨es3, ck3, hM3, rfl⟩
  refine RL.q (Yld.move rfl) rfl (RL.q (Yld.assign rfl) rfl (RL.nil (N.next ?_)))
  refine W.keep (.of [2, 3, 5] rfl) (.of [0, 1, 102, 103, 107] rfl) ?_
  refine W.seq (W.region ?_)
  refine RL.q (Yld.move rfl) rfl ?_
  refine RL.q (Yld.fieldAddr fo64_1 rfl) rfl ?_
  refine RL.q (Yld.ld 103 Tryz.underlying3 rfl rfl rfl rfl) rfl ?_
  refine RL.q (Yld.eq (v' := .nilFunc) (Yld.lookup (c := 107) Tryz.underlying172 (keyInt Tryz.underlying3) zv32 rfl rfl rfl (by assumption)) (by rw [mget_mset, mget_mset, mget_mset, if_neg (Ne.symm hk.2.2), if_neg (Ne.symm hk.2.1), if_neg (Ne.symm hk.1)]; rfl)) rfl ?_
  refine RL.q (Yld.assign rfl) rfl (RL.nil (N.next ?_))
  refine W.keep (.of [2, 3, 6] rfl) (.of [0, 1, 102, 103, 107] rfl) ?_
  refine W.seq (W.region ?_)
  refine RL.q (Yld.move rfl) rfl ?_
  refine RL.q (by first | exact Yld.bin rfl rfl (BinV.neqFN Tryz.underlying32) | exact Yld.bin rfl rfl (BinV.neqNN Tryz.underlying32)) rfl ?_
  refine RL.q (Yld.move rfl) rfl ?_
  first | refine RL.as (t := 18) rfl (boolF (by first | assumption | omega | (simp; done))) ?_ | refine RL.as (t := 18) (v := .bool false) rfl rfl ?_
  refine RL.gskip rfl rfl rfl rfl ?_
  refine RL.gskip rfl rfl rfl rfl ?_
  refine RL.q Yld.pk rfl (RL.q (Yld.move rfl) rfl ?_)
  first | refine RL.as (t := 22) rfl (boolF (by first | assumption | omega | (simp; done))) ?_ | refine RL.as (t := 22) (v := .bool false) rfl rfl ?_
  refine RL.gskip rfl rfl rfl rfl ?_
  refine RL.gskip rfl rfl rfl rfl ?_
  refine RL.gskip rfl rfl rfl rfl ?_
  refine RL.gskip rfl rfl rfl rfl ?_
  refine RL.q Yld.pk rfl (RL.q (Yld.move rfl) rfl ?_)
  first | refine RL.as (t := 28) rfl (boolF (by first | assumption | omega | (simp; done))) ?_ | refine RL.as (t := 28) (v := .bool false) rfl rfl ?_
  refine RL.gskip rfl rfl rfl rfl ?_
  refine RL.gskip rfl rfl rfl rfl ?_
  refine RL.gskip rfl rfl rfl rfl ?_
  refine RL.q Yld.pk rfl (RL.q (Yld.move rfl) rfl ?_)
  first | refine RL.as (t := 33) rfl (boolF (by first | assumption | omega | (simp; done))) ?_ | refine RL.as (t := 33) (v := .bool false) rfl rfl ?_
  refine RL.gskip rfl rfl rfl rfl ?_
  refine RL.gskip rfl rfl rfl rfl ?_
  refine RL.gskip rfl rfl rfl rfl ?_
  refine RL.q Yld.pk rfl (RL.q (Yld.move rfl) rfl ?_)
  first | refine RL.as (t := 38) rfl (boolF (by first | assumption | omega | (simp; done))) ?_ | refine RL.as (t := 38) (v := .bool false) rfl rfl ?_
  refine RL.gskip rfl rfl rfl rfl ?_
  refine RL.gskip rfl rfl rfl rfl ?_
  refine RL.gskip rfl rfl rfl rfl ?_
  refine RL.q Yld.pk rfl (RL.q (Yld.assign rfl) rfl (RL.nil (N.next ?_)))
  refine W.keep (.of [4] rfl) (.of [0, 1, 102, 103, 107] rfl) ?_
  refine W.ret ?_
  exact N.retBy [1] (.cons (.tmp rfl) .nil) rfl rfl rfl rfl ⟨by unfold itB; rw [hcv]; rfl, rfl⟩
theorem validItem_ct (m : Md) (H1 : PH) (hM : m.In H1) (x : It) (hon : Sl H1 x.po x.co 1 (iz x.on)) : Ct Tryz.prog 72 [.agg [.slice m.psi m.si.length m.csi, .slice m.pfe m.fe.length m.cfe, .slice m.prk m.rk.length m.crk, .slice m.pmc m.mc.length m.cmc, .slice m.pln m.ln.length m.cln, .slice m.pis m.is.length m.cis, .int .i64 m.da, .int .i64 m.sl, .int .i64 m.re, .int .i64 m.fa, .slice m.prl m.rl.length m.crl].toArray, .agg [.string x.nm, .int .i64 x.kd, .int .i64 x.cnt, .int .i64 x.ld, .int .i64 x.sz, .int .i64 x.sh, .slice x.po x.on.length x.co].toArray] [H1] (fun v Hs => v = .bool (itB m x) ∧ Hs = [H1]) := by
  by_cases h0 : x.kd = 0
  · exact validItem0_ct m H1 hM x hon h0
  by_cases h1 : x.kd = 1
  · exact validItem1_ct m H1 hM x hon h1
  by_cases h2 : x.kd = 2
  · exact validItem2_ct m H1 hM x hon h2
  exact validItem3_ct m H1 hM x hon ⟨h0, h1, h2⟩
end Go.Proofs.YtboapdcmaeojgaaGreatDoor
namespace Go.Proofs.YtboapdcmaeojgaaGreatDoor
open SL Cat
set_option linter.unusedVariables false
set_option linter.unusedSimpArgs false
theorem fo29_5 : fieldOff Tryz.prog 29 5 = some 5 := by kernel_rfl
theorem fo97_1 : fieldOff Tryz.prog 97 1 = some 1 := by kernel_rfl
theorem ent167 : Ent Tryz.prog 167 := ⟨_, _, Tryz.func167, by kernel_rfl, rfl⟩
theorem zc97 : zc Tryz.prog 97 [.int .i64 0, .int .i64 0, .int .i64 0, .int .i64 0, .int .i64 0, .bool false, .slice none 0 0] := (by kernel_rfl : ((Tryz.prog.info? 97).bind (·.zero)).map (fun v => v.cells.toList) = some [.int .i64 0, .int .i64 0, .int .i64 0, .int .i64 0, .int .i64 0, .bool false, .slice none 0 0])
theorem lay97 : layS Tryz.prog 97 = some ([.int .i64 0, .int .i64 0, .int .i64 0, .int .i64 0, .int .i64 0, .bool false, .slice none 0 0], [(0, 1), (1, 1), (2, 1), (3, 1), (4, 1), (5, 1), (6, 1)]) := by kernel_rfl
theorem fo97_3 : fieldOff Tryz.prog 97 3 = some 3 := by kernel_rfl
theorem fo97_5 : fieldOff Tryz.prog 97 5 = some 5 := by kernel_rfl
theorem fo97_4 : fieldOff Tryz.prog 97 4 = some 4 := by kernel_rfl
theorem fo97_6 : fieldOff Tryz.prog 97 6 = some 6 := by kernel_rfl
theorem fo97_2 : fieldOff Tryz.prog 97 2 = some 2 := by kernel_rfl
theorem ent181 : Ent Tryz.prog 181 := ⟨_, _, Tryz.func181, by kernel_rfl, rfl⟩
theorem ent166 : Ent Tryz.prog 166 := ⟨_, _, Tryz.func166, by kernel_rfl, rfl⟩
theorem ent168 : Ent Tryz.prog 168 := ⟨_, _, Tryz.func168, by kernel_rfl, rfl⟩
theorem ent169 : Ent Tryz.prog 169 := ⟨_, _, Tryz.func169, by kernel_rfl, rfl⟩
theorem ent170 : Ent Tryz.prog 170 := ⟨_, _, Tryz.func170, by kernel_rfl, rfl⟩
theorem ent171 : Ent Tryz.prog 171 := ⟨_, _, Tryz.func171, by kernel_rfl, rfl⟩
theorem ent172 : Ent Tryz.prog 172 := ⟨_, _, Tryz.func172, by kernel_rfl, rfl⟩
theorem ent173 : Ent Tryz.prog 173 := ⟨_, _, Tryz.func173, by kernel_rfl, rfl⟩
theorem ent174 : Ent Tryz.prog 174 := ⟨_, _, Tryz.func174, by kernel_rfl, rfl⟩
theorem ent175 : Ent Tryz.prog 175 := ⟨_, _, Tryz.func175, by kernel_rfl, rfl⟩
theorem ent176 : Ent Tryz.prog 176 := ⟨_, _, Tryz.func176, by kernel_rfl, rfl⟩
theorem ent177 : Ent Tryz.prog 177 := ⟨_, _, Tryz.func177, by kernel_rfl, rfl⟩
theorem ent178 : Ent Tryz.prog 178 := ⟨_, _, Tryz.func178, by kernel_rfl, rfl⟩
theorem ent179 : Ent Tryz.prog 179 := ⟨_, _, Tryz.func179, by kernel_rfl, rfl⟩
theorem ent180 : Ent Tryz.prog 180 := ⟨_, _, Tryz.func180, by kernel_rfl, rfl⟩
theorem lay176 : layS Tryz.prog 176 = some ([.nilFunc, .nilFunc], [(0, 1), (1, 1)]) := by kernel_rfl
set_option maxRecDepth 100000 in
set_option maxHeartbeats 400000 in
theorem item_ct (m : Md) (H1 : PH) (hM : m.In H1) (z : Int) : Ct Tryz.prog 167 [.agg [.slice m.psi m.si.length m.csi, .slice m.pfe m.fe.length m.cfe, .slice m.prk m.rk.length m.crk, .slice m.pmc m.mc.length m.cmc, .slice m.pln m.ln.length m.cln, .slice m.pis m.is.length m.cis, .int .i64 m.da, .int .i64 m.sl, .int .i64 m.re, .int .i64 m.fa, .slice m.prl m.rl.length m.crl].toArray, .int .i64 z] [H1] (fun v Hs => v = .bool (decide (InR z 1 m.is.length)) ∧ Hs = [H1]) := by
  refine Ct.body Tryz.func167 rfl Tryz.ntmps167 rfl ?_
  intro E F
  refine W.seq (W.region ?_)
  refine RL.e (Eff.box 102 _ rfl rfl) rfl ?_
  rintro _ _ ⟨b2, rfl, rfl⟩
  refine RL.q (Yld.assign rfl) rfl (RL.nil (N.next ?_))
  refine W.seq (W.region ?_)
  refine RL.q (Yld.move rfl) rfl ?_
  refine RL.q (Yld.fieldAddr fo29_5 rfl) rfl ?_
  refine RL.q (Yld.ld 102 Tryz.underlying26 rfl rfl rfl rfl) rfl ?_
  refine RL.q (Yld.lenSl Tryz.underlying26 rfl) rfl ?_
  refine RL.e (Eff.call ent67 [] [] (.cons rfl (.cons rfl (.cons rfl .nil))) (within_ct z 1 m.is.length) rfl rfl rfl rfl (by rintro _ _ ⟨_, rfl⟩; rfl)) rfl ?_
  rintro _ _ ⟨_, ⟨rfl, rfl⟩, rfl⟩
  refine RL.q (Yld.assign rfl) rfl (RL.nil (N.next ?_))
  refine W.keep (.of [4] rfl) (.of [0, 1, 102] rfl) ?_
  refine W.ret ?_
  exact N.retBy [1] (.cons (.tmp rfl) .nil) rfl rfl rfl rfl ⟨rfl, rfl⟩
set_option maxRecDepth 100000 in
set_option maxHeartbeats 400000 in
theorem rok0_ct (m : Md) (H1 : PH) (hM : m.In H1) (x : Rl) (hms : Sl H1 x.pm x.cm 1 (iz x.ms)) : Ct Tryz.prog 166 [.agg [.slice m.psi m.si.length m.csi, .slice m.pfe m.fe.length m.cfe, .slice m.prk m.rk.length m.crk, .slice m.pmc m.mc.length m.cmc, .slice m.pln m.ln.length m.cln, .slice m.pis m.is.length m.cis, .int .i64 m.da, .int .i64 m.sl, .int .i64 m.re, .int .i64 m.fa, .slice m.prl m.rl.length m.crl].toArray, .agg [.int .i64 x.kd, .int .i64 x.it, .int .i64 x.ot, .int .i64 x.n, .int .i64 x.bq, .bool x.al, .slice x.pm x.ms.length x.cm].toArray] [H1] (fun v Hs => v = .bool (decide (InR x.it 1 m.is.length) && decide (kdOf m x.it = 0)) ∧ Hs = [H1]) := by
  refine Ct.body Tryz.func166 rfl Tryz.ntmps166 rfl ?_
  intro E F
  have hMis := hM.is
  have hmi := hM.is.len_le
  simp only [List.length_map, maxLen] at hmi
  refine W.seq (W.region ?_)
  refine RL.e (Eff.box 102 _ rfl rfl) rfl ?_
  rintro _ _ ⟨b2, rfl, rfl⟩
  refine RL.e (Eff.box 103 _ rfl rfl) rfl ?_
  rintro _ _ ⟨b3, rfl, rfl⟩
  refine RL.q (Yld.assign rfl) rfl (RL.nil (N.next ?_))
  refine W.seq (W.region ?_)
  refine RL.q (Yld.ldW 102 Tryz.underlying29 sz29 rfl rfl rfl rfl) rfl ?_
  refine RL.q (Yld.fieldAddr fo97_1 rfl) rfl ?_
  refine RL.q (Yld.ld 103 Tryz.underlying3 rfl rfl rfl rfl) rfl ?_
  refine RL.e (Eff.call ent167 [1] [1] (.cons rfl (.cons rfl .nil)) (item_ct m H1 hM x.it) rfl rfl rfl rfl (by rintro _ _ ⟨_, rfl⟩; rfl)) rfl ?_
  rintro _ _ ⟨_, ⟨rfl, rfl⟩, rfl⟩
  refine RL.q (Yld.move rfl) rfl ?_
  refine' RL.and (t := 9) (d := 19) 10 rfl (.of [0, 1, 2, 3, 4, 5, 6, 7, 8] rfl) (.of [0, 1, 102, 103] rfl) ?_ ?_ ?_
  rotate_left 1
  ·
   intro hg9
   obtain ⟨hi1, hi2⟩ := of_decide_eq_true hg9
   obtain ⟨y, hy, hky⟩ := kdOf_in ⟨hi1, hi2⟩
   have hly : (m.is.map It.c)[(x.it - 1).toNat]? = some y.c := by rw [List.getElem?_map, hy]; rfl
   refine RL.gq rfl rfl (Yld.fieldAddr fo29_5 rfl) rfl ?_
   refine RL.gq rfl rfl (Yld.ld 102 Tryz.underlying26 rfl rfl rfl rfl) rfl ?_
   refine RL.gq rfl rfl (Yld.fieldAddr fo97_1 rfl) rfl ?_
   refine RL.gq rfl rfl (Yld.ld 103 Tryz.underlying3 rfl rfl rfl rfl) rfl ?_
   refine RL.gq rfl rfl (Yld.bin rfl rfl (by first | exact BinV.sub (by omega) (by omega) | exact BinV.subW)) rfl ?_
   refine RL.gq rfl rfl (Yld.ixr Tryz.underlying26 sz64 rfl rfl) rfl ?_
   refine RL.gq rfl rfl (Yld.fieldAddr fo64_1 rfl) rfl ?_
   refine RL.gq rfl rfl (Yld.eq (v' := .int .i64 (kdOf m x.it)) (by first | exact Yld.lrF 1 1 Tryz.underlying3 rfl rfl rfl rfl | exact Yld.lrF 103 1 Tryz.underlying3 rfl rfl rfl rfl | exact Yld.lrF 102 1 Tryz.underlying3 rfl rfl rfl rfl) (by rw [hky])) rfl ?_
   refine RL.gq rfl rfl (Yld.bin rfl rfl BinV.eql) rfl ?_
   refine RL.q Yld.pk rfl ?_
   exact RL.nil (N.meet (.to rfl) (.to rfl))
  ·
   intro hg9
   refine RL.gskip rfl rfl rfl rfl ?_
   refine RL.gskip rfl rfl rfl rfl ?_
   refine RL.gskip rfl rfl rfl rfl ?_
   refine RL.gskip rfl rfl rfl rfl ?_
   refine RL.gskip rfl rfl rfl rfl ?_
   refine RL.gskip rfl rfl rfl rfl ?_
   refine RL.gskip rfl rfl rfl rfl ?_
   refine RL.gskip rfl rfl rfl rfl ?_
   refine RL.gskip rfl rfl rfl rfl ?_
   refine RL.q Yld.pk rfl ?_
   exact RL.nil (N.meet (.to rfl) (.to rfl))
  refine RL.q (Yld.assign rfl) rfl (RL.nil (N.next ?_))
  refine W.keep (.of [4] rfl) (.of [0, 1, 102, 103] rfl) ?_
  refine W.ret ?_
  exact N.retBy [1] (.cons (.tmp rfl) .nil) rfl rfl rfl rfl ⟨rfl, rfl⟩
set_option maxRecDepth 100000 in
set_option maxHeartbeats 400000 in
theorem ron0_ct (x : Rl) : Ct Tryz.prog 168 [.agg [.int .i64 x.kd, .int .i64 x.it, .int .i64 x.ot, .int .i64 x.n, .int .i64 x.bq, .bool x.al, .slice x.pm x.ms.length x.cm].toArray] [] (fun v Hs => v = .agg (Rl.c ⟨0, x.it, 0, 0, 0, false, none, [], 0⟩).toArray ∧ Hs = []) := by
  refine Ct.body Tryz.func168 rfl Tryz.ntmps168 rfl ?_
  intro E F
  refine W.seq (W.region ?_)
  refine RL.e (Eff.box 101 _ rfl rfl) rfl ?_
  rintro _ _ ⟨b1, rfl, rfl⟩
  refine RL.e (Eff.alloc 102 zc97) rfl ?_
  rintro _ _ ⟨b2, rfl, rfl⟩
  refine RL.nil (N.next ?_)
  refine W.seq (W.region ?_)
  refine RL.q (Yld.fieldAddr fo97_1 rfl) rfl ?_
  refine RL.q (Yld.ld 101 Tryz.underlying3 rfl rfl rfl rfl) rfl ?_
  refine RL.q (Yld.buildP lay97 (.cons rfl rfl .nil) rfl) rfl ?_
  refine RL.e0 (Eff.storeS (c := 102) _ sz97 rfl rfl rfl rfl rfl rfl rfl (by (try simp only [putAt, List.take, List.drop, List.nil_append, List.cons_append, List.append_nil, List.length_cons, List.length_nil, Nat.add_zero, Nat.zero_add, Nat.reduceAdd]); rfl)) ?_
  rintro _ _ rfl
  refine RL.nil (N.next ?_)
  refine W.keep (.of [2] rfl) (.of [0, 101, 102] rfl) ?_
  refine W.ret ?_
  exact N.retBy [] (.cons (by first | exact .cell (c := 102) rfl rfl (fun w hs => run_loadVarA Tryz.underlying97 rfl sz97 rfl (fun j u hj => by rw [Nat.zero_add, PH.sub.cell hs (by first | exact single_self _ _ | exact pset_self _ _ _ | assumption)]; exact hj))) .nil) rfl rfl rfl rfl ⟨rfl, rfl⟩
set_option maxRecDepth 100000 in
set_option maxHeartbeats 400000 in
theorem rok1_ct (m : Md) (H1 : PH) (hM : m.In H1) (x : Rl) (hms : Sl H1 x.pm x.cm 1 (iz x.ms)) : Ct Tryz.prog 169 [.agg [.slice m.psi m.si.length m.csi, .slice m.pfe m.fe.length m.cfe, .slice m.prk m.rk.length m.crk, .slice m.pmc m.mc.length m.cmc, .slice m.pln m.ln.length m.cln, .slice m.pis m.is.length m.cis, .int .i64 m.da, .int .i64 m.sl, .int .i64 m.re, .int .i64 m.fa, .slice m.prl m.rl.length m.crl].toArray, .agg [.int .i64 x.kd, .int .i64 x.it, .int .i64 x.ot, .int .i64 x.n, .int .i64 x.bq, .bool x.al, .slice x.pm x.ms.length x.cm].toArray] [H1] (fun v Hs => v = .bool (decide (InR x.it 1 m.is.length) && decide (InR x.n 0 16)) ∧ Hs = [H1]) := by
  refine Ct.body Tryz.func169 rfl Tryz.ntmps169 rfl ?_
  intro E F
  have hMis := hM.is
  have hmi := hM.is.len_le
  simp only [List.length_map, maxLen] at hmi
  refine W.seq (W.region ?_)
  refine RL.e (Eff.box 102 _ rfl rfl) rfl ?_
  rintro _ _ ⟨b2, rfl, rfl⟩
  refine RL.e (Eff.box 103 _ rfl rfl) rfl ?_
  rintro _ _ ⟨b3, rfl, rfl⟩
  refine RL.q (Yld.assign rfl) rfl (RL.nil (N.next ?_))
  refine W.seq (W.region ?_)
  refine RL.q (Yld.ldW 102 Tryz.underlying29 sz29 rfl rfl rfl rfl) rfl ?_
  refine RL.q (Yld.fieldAddr fo97_1 rfl) rfl ?_
  refine RL.q (Yld.ld 103 Tryz.underlying3 rfl rfl rfl rfl) rfl ?_
  refine RL.e (Eff.call ent167 [1] [1] (.cons rfl (.cons rfl .nil)) (item_ct m H1 hM x.it) rfl rfl rfl rfl (by rintro _ _ ⟨_, rfl⟩; rfl)) rfl ?_
  rintro _ _ ⟨_, ⟨rfl, rfl⟩, rfl⟩
  refine RL.q (Yld.move rfl) rfl ?_
  refine' RL.and (t := 9) (d := 13) 4 rfl (.of [0, 1, 2, 3, 4, 5, 6, 7, 8] rfl) (.of [0, 1, 102, 103] rfl) ?_ ?_ ?_
  rotate_left 1
  ·
   intro hg9
   refine RL.gq rfl rfl (Yld.fieldAddr fo97_3 rfl) rfl ?_
   refine RL.gq rfl rfl (Yld.ld 103 Tryz.underlying3 rfl rfl rfl rfl) rfl ?_
   refine RL.ge rfl rfl (Eff.call ent67 [] [] (.cons rfl (.cons rfl (.cons rfl .nil))) (within_ct x.n 0 16) rfl rfl rfl rfl (by rintro _ _ ⟨_, rfl⟩; rfl)) rfl ?_
   rintro _ _ ⟨_, ⟨rfl, rfl⟩, rfl⟩
   refine RL.q Yld.pk rfl ?_
   exact RL.nil (N.meet (.to rfl) (.to rfl))
  ·
   intro hg9
   refine RL.gskip rfl rfl rfl rfl ?_
   refine RL.gskip rfl rfl rfl rfl ?_
   refine RL.gskip rfl rfl rfl rfl ?_
   refine RL.q Yld.pk rfl ?_
   exact RL.nil (N.meet (.to rfl) (.to rfl))
  refine RL.q (Yld.assign rfl) rfl (RL.nil (N.next ?_))
  refine W.keep (.of [4] rfl) (.of [0, 1, 102, 103] rfl) ?_
  refine W.ret ?_
  exact N.retBy [1] (.cons (.tmp rfl) .nil) rfl rfl rfl rfl ⟨rfl, rfl⟩
set_option maxRecDepth 100000 in
set_option maxHeartbeats 400000 in
theorem ron1_ct (x : Rl) : Ct Tryz.prog 170 [.agg [.int .i64 x.kd, .int .i64 x.it, .int .i64 x.ot, .int .i64 x.n, .int .i64 x.bq, .bool x.al, .slice x.pm x.ms.length x.cm].toArray] [] (fun v Hs => v = .agg (Rl.c ⟨0, x.it, 0, x.n, 0, x.al, none, [], 0⟩).toArray ∧ Hs = []) := by
  refine Ct.body Tryz.func170 rfl Tryz.ntmps170 rfl ?_
  intro E F
  refine W.seq (W.region ?_)
  refine RL.e (Eff.box 101 _ rfl rfl) rfl ?_
  rintro _ _ ⟨b1, rfl, rfl⟩
  refine RL.e (Eff.alloc 102 zc97) rfl ?_
  rintro _ _ ⟨b2, rfl, rfl⟩
  refine RL.nil (N.next ?_)
  refine W.seq (W.region ?_)
  refine RL.q (Yld.fieldAddr fo97_1 rfl) rfl ?_
  refine RL.q (Yld.ld 101 Tryz.underlying3 rfl rfl rfl rfl) rfl ?_
  refine RL.q (Yld.fieldAddr fo97_3 rfl) rfl ?_
  refine RL.q (Yld.ld 101 Tryz.underlying3 rfl rfl rfl rfl) rfl ?_
  refine RL.q (Yld.fieldAddr fo97_5 rfl) rfl ?_
  refine RL.q (Yld.ld 101 Tryz.underlying4 rfl rfl rfl rfl) rfl ?_
  refine RL.q (Yld.buildP lay97 (.cons rfl rfl (.cons rfl rfl (.cons rfl rfl .nil))) rfl) rfl ?_
  refine RL.e0 (Eff.storeS (c := 102) _ sz97 rfl rfl rfl rfl rfl rfl rfl (by (try simp only [putAt, List.take, List.drop, List.nil_append, List.cons_append, List.append_nil, List.length_cons, List.length_nil, Nat.add_zero, Nat.zero_add, Nat.reduceAdd]); rfl)) ?_
  rintro _ _ rfl
  refine RL.nil (N.next ?_)
  refine W.keep (.of [2] rfl) (.of [0, 101, 102] rfl) ?_
  refine W.ret ?_
  exact N.retBy [] (.cons (by first | exact .cell (c := 102) rfl rfl (fun w hs => run_loadVarA Tryz.underlying97 rfl sz97 rfl (fun j u hj => by rw [Nat.zero_add, PH.sub.cell hs (by first | exact single_self _ _ | exact pset_self _ _ _ | assumption)]; exact hj))) .nil) rfl rfl rfl rfl ⟨rfl, rfl⟩
set_option maxRecDepth 100000 in
set_option maxHeartbeats 400000 in
theorem rok2_ct (m : Md) (H1 : PH) (hM : m.In H1) (x : Rl) (hms : Sl H1 x.pm x.cm 1 (iz x.ms)) : Ct Tryz.prog 171 [.agg [.slice m.psi m.si.length m.csi, .slice m.pfe m.fe.length m.cfe, .slice m.prk m.rk.length m.crk, .slice m.pmc m.mc.length m.cmc, .slice m.pln m.ln.length m.cln, .slice m.pis m.is.length m.cis, .int .i64 m.da, .int .i64 m.sl, .int .i64 m.re, .int .i64 m.fa, .slice m.prl m.rl.length m.crl].toArray, .agg [.int .i64 x.kd, .int .i64 x.it, .int .i64 x.ot, .int .i64 x.n, .int .i64 x.bq, .bool x.al, .slice x.pm x.ms.length x.cm].toArray] [H1] (fun v Hs => v = .bool (decide (InR x.it 1 m.is.length) && decide (InR x.n 0 16) && decide (x.bq ∈ [(2 : Int), 3, 4])) ∧ Hs = [H1]) := by
  refine Ct.body Tryz.func171 rfl Tryz.ntmps171 rfl ?_
  intro E F
  have hMis := hM.is
  have hmi := hM.is.len_le
  simp only [List.length_map, maxLen] at hmi
  refine W.seq (W.region ?_)
  refine RL.e (Eff.box 102 _ rfl rfl) rfl ?_
  rintro _ _ ⟨b2, rfl, rfl⟩
  refine RL.e (Eff.box 103 _ rfl rfl) rfl ?_
  rintro _ _ ⟨b3, rfl, rfl⟩
  refine RL.q (Yld.assign rfl) rfl (RL.nil (N.next ?_))
  refine W.seq (W.region ?_)
  refine RL.q (Yld.ldW 102 Tryz.underlying29 sz29 rfl rfl rfl rfl) rfl ?_
  refine RL.q (Yld.fieldAddr fo97_1 rfl) rfl ?_
  refine RL.q (Yld.ld 103 Tryz.underlying3 rfl rfl rfl rfl) rfl ?_
  refine RL.e (Eff.call ent167 [1] [1] (.cons rfl (.cons rfl .nil)) (item_ct m H1 hM x.it) rfl rfl rfl rfl (by rintro _ _ ⟨_, rfl⟩; rfl)) rfl ?_
  rintro _ _ ⟨_, ⟨rfl, rfl⟩, rfl⟩
  refine RL.q (Yld.move rfl) rfl ?_
  refine' RL.and (t := 9) (d := 13) 4 rfl (.of [0, 1, 2, 3, 4, 5, 6, 7, 8] rfl) (.of [0, 1, 102, 103] rfl) ?_ ?_ ?_
  rotate_left 1
  ·
   intro hg9
   refine RL.gq rfl rfl (Yld.fieldAddr fo97_3 rfl) rfl ?_
   refine RL.gq rfl rfl (Yld.ld 103 Tryz.underlying3 rfl rfl rfl rfl) rfl ?_
   refine RL.ge rfl rfl (Eff.call ent67 [] [] (.cons rfl (.cons rfl (.cons rfl .nil))) (within_ct x.n 0 16) rfl rfl rfl rfl (by rintro _ _ ⟨_, rfl⟩; rfl)) rfl ?_
   rintro _ _ ⟨_, ⟨rfl, rfl⟩, rfl⟩
   refine RL.q Yld.pk rfl ?_
   exact RL.nil (N.meet (.to rfl) (.to rfl))
  ·
   intro hg9
   refine RL.gskip rfl rfl rfl rfl ?_
   refine RL.gskip rfl rfl rfl rfl ?_
   refine RL.gskip rfl rfl rfl rfl ?_
   refine RL.q Yld.pk rfl ?_
   exact RL.nil (N.meet (.to rfl) (.to rfl))
  refine RL.q (Yld.move rfl) rfl ?_
  refine' RL.and (t := 14) (d := 19) 5 rfl (.of [0, 1, 2, 3, 4, 5, 6, 7, 8, 13] rfl) (.of [0, 1, 102, 103] rfl) ?_ ?_ ?_
  rotate_left 1
  ·
   intro hg14
   refine RL.ge rfl rfl (Eff.buildSlice 115 Tryz.underlying55 sz3 zc3 rfl rfl (.cons rfl rfl (.cons rfl rfl (.cons rfl rfl .nil))) rfl) rfl ?_
   rintro _ _ ⟨b15, rfl, rfl⟩
   refine RL.gq rfl rfl (Yld.fieldAddr fo97_4 rfl) rfl ?_
   refine RL.gq rfl rfl (Yld.ld 103 Tryz.underlying3 rfl rfl rfl rfl) rfl ?_
   refine RL.ge rfl rfl (Eff.call ent35 [115] [115] (.cons rfl (.cons rfl .nil)) (contains_ct [2, 3, 4] _ _ _ (Own.mk (e := 3) (n := 1) (c := 3) [] (by simp [iz, Value.oneCell']) (by simp) (by simp [maxLen]) (by rfl) (by rfl)).sl x.bq) rfl rfl rfl rfl (by rintro _ _ ⟨_, rfl⟩; rfl)) rfl ?_
   rintro _ _ ⟨_, ⟨rfl, rfl⟩, rfl⟩
   refine RL.q Yld.pk rfl ?_
   exact RL.nil (N.meet (.to rfl) (.to rfl))
  ·
   intro hg14
   refine RL.gskip rfl rfl rfl rfl ?_
   refine RL.gskip rfl rfl rfl rfl ?_
   refine RL.gskip rfl rfl rfl rfl ?_
   refine RL.gskip rfl rfl rfl rfl ?_
   refine RL.q Yld.pk rfl ?_
   exact RL.nil (N.meet (.to rfl) (.to rfl))
  refine RL.q (Yld.assign rfl) rfl (RL.nil (N.next ?_))
  refine W.keep (.of [4] rfl) (.of [0, 1, 102, 103] rfl) ?_
  refine W.ret ?_
  exact N.retBy [1] (.cons (.tmp rfl) .nil) rfl rfl rfl rfl ⟨rfl, rfl⟩
set_option maxRecDepth 100000 in
set_option maxHeartbeats 400000 in
theorem ron2_ct (x : Rl) : Ct Tryz.prog 172 [.agg [.int .i64 x.kd, .int .i64 x.it, .int .i64 x.ot, .int .i64 x.n, .int .i64 x.bq, .bool x.al, .slice x.pm x.ms.length x.cm].toArray] [] (fun v Hs => v = .agg (Rl.c ⟨0, x.it, 0, x.n, x.bq, false, none, [], 0⟩).toArray ∧ Hs = []) := by
  refine Ct.body Tryz.func172 rfl Tryz.ntmps172 rfl ?_
  intro E F
  refine W.seq (W.region ?_)
  refine RL.e (Eff.box 101 _ rfl rfl) rfl ?_
  rintro _ _ ⟨b1, rfl, rfl⟩
  refine RL.e (Eff.alloc 102 zc97) rfl ?_
  rintro _ _ ⟨b2, rfl, rfl⟩
  refine RL.nil (N.next ?_)
  refine W.seq (W.region ?_)
  refine RL.q (Yld.fieldAddr fo97_1 rfl) rfl ?_
  refine RL.q (Yld.ld 101 Tryz.underlying3 rfl rfl rfl rfl) rfl ?_
  refine RL.q (Yld.fieldAddr fo97_3 rfl) rfl ?_
  refine RL.q (Yld.ld 101 Tryz.underlying3 rfl rfl rfl rfl) rfl ?_
  refine RL.q (Yld.fieldAddr fo97_4 rfl) rfl ?_
  refine RL.q (Yld.ld 101 Tryz.underlying3 rfl rfl rfl rfl) rfl ?_
  refine RL.q (Yld.buildP lay97 (.cons rfl rfl (.cons rfl rfl (.cons rfl rfl .nil))) rfl) rfl ?_
  refine RL.e0 (Eff.storeS (c := 102) _ sz97 rfl rfl rfl rfl rfl rfl rfl (by (try simp only [putAt, List.take, List.drop, List.nil_append, List.cons_append, List.append_nil, List.length_cons, List.length_nil, Nat.add_zero, Nat.zero_add, Nat.reduceAdd]); rfl)) ?_
  rintro _ _ rfl
  refine RL.nil (N.next ?_)
  refine W.keep (.of [2] rfl) (.of [0, 101, 102] rfl) ?_
  refine W.ret ?_
  exact N.retBy [] (.cons (by first | exact .cell (c := 102) rfl rfl (fun w hs => run_loadVarA Tryz.underlying97 rfl sz97 rfl (fun j u hj => by rw [Nat.zero_add, PH.sub.cell hs (by first | exact single_self _ _ | exact pset_self _ _ _ | assumption)]; exact hj))) .nil) rfl rfl rfl rfl ⟨rfl, rfl⟩
set_option maxRecDepth 100000 in
set_option maxHeartbeats 400000 in
theorem rok3_ct (m : Md) (H1 : PH) (hM : m.In H1) (x : Rl) (hms : Sl H1 x.pm x.cm 1 (iz x.ms)) : Ct Tryz.prog 173 [.agg [.slice m.psi m.si.length m.csi, .slice m.pfe m.fe.length m.cfe, .slice m.prk m.rk.length m.crk, .slice m.pmc m.mc.length m.cmc, .slice m.pln m.ln.length m.cln, .slice m.pis m.is.length m.cis, .int .i64 m.da, .int .i64 m.sl, .int .i64 m.re, .int .i64 m.fa, .slice m.prl m.rl.length m.crl].toArray, .agg [.int .i64 x.kd, .int .i64 x.it, .int .i64 x.ot, .int .i64 x.n, .int .i64 x.bq, .bool x.al, .slice x.pm x.ms.length x.cm].toArray] [H1] (fun v Hs => v = .bool (decide (InR x.it 1 m.is.length) && pB (MsV m.mc.length x.ms)) ∧ Hs = [H1]) := by
  refine Ct.body Tryz.func173 rfl Tryz.ntmps173 rfl ?_
  intro E F
  have hMis := hM.is
  have hmi := hM.is.len_le
  simp only [List.length_map, maxLen] at hmi
  refine W.seq (W.region ?_)
  refine RL.e (Eff.box 102 _ rfl rfl) rfl ?_
  rintro _ _ ⟨b2, rfl, rfl⟩
  refine RL.e (Eff.box 103 _ rfl rfl) rfl ?_
  rintro _ _ ⟨b3, rfl, rfl⟩
  refine RL.q (Yld.assign rfl) rfl (RL.nil (N.next ?_))
  refine W.seq (W.region ?_)
  refine RL.q (Yld.ldW 102 Tryz.underlying29 sz29 rfl rfl rfl rfl) rfl ?_
  refine RL.q (Yld.fieldAddr fo97_1 rfl) rfl ?_
  refine RL.q (Yld.ld 103 Tryz.underlying3 rfl rfl rfl rfl) rfl ?_
  refine RL.e (Eff.call ent167 [1] [1] (.cons rfl (.cons rfl .nil)) (item_ct m H1 hM x.it) rfl rfl rfl rfl (by rintro _ _ ⟨_, rfl⟩; rfl)) rfl ?_
  rintro _ _ ⟨_, ⟨rfl, rfl⟩, rfl⟩
  refine RL.q (Yld.move rfl) rfl ?_
  refine' RL.and (t := 9) (d := 14) 5 rfl (.of [0, 1, 2, 3, 4, 5, 6, 7, 8] rfl) (.of [0, 1, 102, 103] rfl) ?_ ?_ ?_
  rotate_left 1
  ·
   intro hg9
   refine RL.gq rfl rfl (Yld.ldW 102 Tryz.underlying29 sz29 rfl rfl rfl rfl) rfl ?_
   refine RL.gq rfl rfl (Yld.fieldAddr fo97_6 rfl) rfl ?_
   refine RL.gq rfl rfl (Yld.ld 103 Tryz.underlying55 rfl rfl rfl rfl) rfl ?_
   refine RL.ge rfl rfl (Eff.call ent127 [1] [1] (.cons rfl (.cons rfl .nil)) (machines_ct m H1 hM x.ms _ _ hms) rfl rfl rfl rfl (by rintro _ _ ⟨_, rfl⟩; rfl)) rfl ?_
   rintro _ _ ⟨_, ⟨rfl, rfl⟩, rfl⟩
   refine RL.q Yld.pk rfl ?_
   exact RL.nil (N.meet (.to rfl) (.to rfl))
  ·
   intro hg9
   refine RL.gskip rfl rfl rfl rfl ?_
   refine RL.gskip rfl rfl rfl rfl ?_
   refine RL.gskip rfl rfl rfl rfl ?_
   refine RL.gskip rfl rfl rfl rfl ?_
   refine RL.q Yld.pk rfl ?_
   exact RL.nil (N.meet (.to rfl) (.to rfl))
  refine RL.q (Yld.assign rfl) rfl (RL.nil (N.next ?_))
  refine W.keep (.of [4] rfl) (.of [0, 1, 102, 103] rfl) ?_
  refine W.ret ?_
  exact N.retBy [1] (.cons (.tmp rfl) .nil) rfl rfl rfl rfl ⟨rfl, rfl⟩
set_option maxRecDepth 100000 in
set_option maxHeartbeats 400000 in
theorem ron3_ct (x : Rl) : Ct Tryz.prog 174 [.agg [.int .i64 x.kd, .int .i64 x.it, .int .i64 x.ot, .int .i64 x.n, .int .i64 x.bq, .bool x.al, .slice x.pm x.ms.length x.cm].toArray] [] (fun v Hs => v = .agg (Rl.c ⟨0, x.it, 0, 0, 0, false, x.pm, x.ms, x.cm⟩).toArray ∧ Hs = []) := by
  refine Ct.body Tryz.func174 rfl Tryz.ntmps174 rfl ?_
  intro E F
  refine W.seq (W.region ?_)
  refine RL.e (Eff.box 101 _ rfl rfl) rfl ?_
  rintro _ _ ⟨b1, rfl, rfl⟩
  refine RL.e (Eff.alloc 102 zc97) rfl ?_
  rintro _ _ ⟨b2, rfl, rfl⟩
  refine RL.nil (N.next ?_)
  refine W.seq (W.region ?_)
  refine RL.q (Yld.fieldAddr fo97_1 rfl) rfl ?_
  refine RL.q (Yld.ld 101 Tryz.underlying3 rfl rfl rfl rfl) rfl ?_
  refine RL.q (Yld.fieldAddr fo97_6 rfl) rfl ?_
  refine RL.q (Yld.ld 101 Tryz.underlying55 rfl rfl rfl rfl) rfl ?_
  refine RL.q (Yld.buildP lay97 (.cons rfl rfl (.cons rfl rfl .nil)) rfl) rfl ?_
  refine RL.e0 (Eff.storeS (c := 102) _ sz97 rfl rfl rfl rfl rfl rfl rfl (by (try simp only [putAt, List.take, List.drop, List.nil_append, List.cons_append, List.append_nil, List.length_cons, List.length_nil, Nat.add_zero, Nat.zero_add, Nat.reduceAdd]); rfl)) ?_
  rintro _ _ rfl
  refine RL.nil (N.next ?_)
  refine W.keep (.of [2] rfl) (.of [0, 101, 102] rfl) ?_
  refine W.ret ?_
  exact N.retBy [] (.cons (by first | exact .cell (c := 102) rfl rfl (fun w hs => run_loadVarA Tryz.underlying97 rfl sz97 rfl (fun j u hj => by rw [Nat.zero_add, PH.sub.cell hs (by first | exact single_self _ _ | exact pset_self _ _ _ | assumption)]; exact hj))) .nil) rfl rfl rfl rfl ⟨rfl, rfl⟩
set_option maxRecDepth 100000 in
set_option maxHeartbeats 400000 in
theorem rok4_ct (m : Md) (H1 : PH) (hM : m.In H1) (x : Rl) (hms : Sl H1 x.pm x.cm 1 (iz x.ms)) : Ct Tryz.prog 175 [.agg [.slice m.psi m.si.length m.csi, .slice m.pfe m.fe.length m.cfe, .slice m.prk m.rk.length m.crk, .slice m.pmc m.mc.length m.cmc, .slice m.pln m.ln.length m.cln, .slice m.pis m.is.length m.cis, .int .i64 m.da, .int .i64 m.sl, .int .i64 m.re, .int .i64 m.fa, .slice m.prl m.rl.length m.crl].toArray, .agg [.int .i64 x.kd, .int .i64 x.it, .int .i64 x.ot, .int .i64 x.n, .int .i64 x.bq, .bool x.al, .slice x.pm x.ms.length x.cm].toArray] [H1] (fun v Hs => v = .bool (decide (InR x.it 1 m.is.length) && decide (InR x.ot 1 m.is.length) && decide (x.it ≠ x.ot)) ∧ Hs = [H1]) := by
  refine Ct.body Tryz.func175 rfl Tryz.ntmps175 rfl ?_
  intro E F
  have hMis := hM.is
  have hmi := hM.is.len_le
  simp only [List.length_map, maxLen] at hmi
  refine W.seq (W.region ?_)
  refine RL.e (Eff.box 102 _ rfl rfl) rfl ?_
  rintro _ _ ⟨b2, rfl, rfl⟩
  refine RL.e (Eff.box 103 _ rfl rfl) rfl ?_
  rintro _ _ ⟨b3, rfl, rfl⟩
  refine RL.q (Yld.assign rfl) rfl (RL.nil (N.next ?_))
  refine W.seq (W.region ?_)
  refine RL.q (Yld.ldW 102 Tryz.underlying29 sz29 rfl rfl rfl rfl) rfl ?_
  refine RL.q (Yld.fieldAddr fo97_1 rfl) rfl ?_
  refine RL.q (Yld.ld 103 Tryz.underlying3 rfl rfl rfl rfl) rfl ?_
  refine RL.e (Eff.call ent167 [1] [1] (.cons rfl (.cons rfl .nil)) (item_ct m H1 hM x.it) rfl rfl rfl rfl (by rintro _ _ ⟨_, rfl⟩; rfl)) rfl ?_
  rintro _ _ ⟨_, ⟨rfl, rfl⟩, rfl⟩
  refine RL.q (Yld.move rfl) rfl ?_
  refine' RL.and (t := 9) (d := 14) 5 rfl (.of [0, 1, 2, 3, 4, 5, 6, 7, 8] rfl) (.of [0, 1, 102, 103] rfl) ?_ ?_ ?_
  rotate_left 1
  ·
   intro hg9
   refine RL.gq rfl rfl (Yld.ldW 102 Tryz.underlying29 sz29 rfl rfl rfl rfl) rfl ?_
   refine RL.gq rfl rfl (Yld.fieldAddr fo97_2 rfl) rfl ?_
   refine RL.gq rfl rfl (Yld.ld 103 Tryz.underlying3 rfl rfl rfl rfl) rfl ?_
   refine RL.ge rfl rfl (Eff.call ent167 [1] [1] (.cons rfl (.cons rfl .nil)) (item_ct m H1 hM x.ot) rfl rfl rfl rfl (by rintro _ _ ⟨_, rfl⟩; rfl)) rfl ?_
   rintro _ _ ⟨_, ⟨rfl, rfl⟩, rfl⟩
   refine RL.q Yld.pk rfl ?_
   exact RL.nil (N.meet (.to rfl) (.to rfl))
  ·
   intro hg9
   refine RL.gskip rfl rfl rfl rfl ?_
   refine RL.gskip rfl rfl rfl rfl ?_
   refine RL.gskip rfl rfl rfl rfl ?_
   refine RL.gskip rfl rfl rfl rfl ?_
   refine RL.q Yld.pk rfl ?_
   exact RL.nil (N.meet (.to rfl) (.to rfl))
  refine RL.q (Yld.move rfl) rfl ?_
  refine' RL.and (t := 15) (d := 21) 6 rfl (.of [0, 1, 2, 3, 4, 5, 6, 7, 8, 14] rfl) (.of [0, 1, 102, 103] rfl) ?_ ?_ ?_
  rotate_left 1
  ·
   intro hg15
   refine RL.gq rfl rfl (Yld.fieldAddr fo97_1 rfl) rfl ?_
   refine RL.gq rfl rfl (Yld.ld 103 Tryz.underlying3 rfl rfl rfl rfl) rfl ?_
   refine RL.gq rfl rfl (Yld.fieldAddr fo97_2 rfl) rfl ?_
   refine RL.gq rfl rfl (Yld.ld 103 Tryz.underlying3 rfl rfl rfl rfl) rfl ?_
   refine RL.gq rfl rfl (Yld.bin rfl rfl BinV.neq) rfl ?_
   refine RL.q Yld.pk rfl ?_
   exact RL.nil (N.meet (.to rfl) (.to rfl))
  ·
   intro hg15
   refine RL.gskip rfl rfl rfl rfl ?_
   refine RL.gskip rfl rfl rfl rfl ?_
   refine RL.gskip rfl rfl rfl rfl ?_
   refine RL.gskip rfl rfl rfl rfl ?_
   refine RL.gskip rfl rfl rfl rfl ?_
   refine RL.q Yld.pk rfl ?_
   exact RL.nil (N.meet (.to rfl) (.to rfl))
  refine RL.q (Yld.assign rfl) rfl (RL.nil (N.next ?_))
  refine W.keep (.of [4] rfl) (.of [0, 1, 102, 103] rfl) ?_
  refine W.ret ?_
  exact N.retBy [1] (.cons (.tmp rfl) .nil) rfl rfl rfl rfl ⟨rfl, rfl⟩
set_option maxRecDepth 100000 in
set_option maxHeartbeats 400000 in
theorem ron4_ct (x : Rl) : Ct Tryz.prog 176 [.agg [.int .i64 x.kd, .int .i64 x.it, .int .i64 x.ot, .int .i64 x.n, .int .i64 x.bq, .bool x.al, .slice x.pm x.ms.length x.cm].toArray] [] (fun v Hs => v = .agg (Rl.c ⟨0, x.it, x.ot, 0, 0, false, none, [], 0⟩).toArray ∧ Hs = []) := by
  refine Ct.body Tryz.func176 rfl Tryz.ntmps176 rfl ?_
  intro E F
  refine W.seq (W.region ?_)
  refine RL.e (Eff.box 101 _ rfl rfl) rfl ?_
  rintro _ _ ⟨b1, rfl, rfl⟩
  refine RL.e (Eff.alloc 102 zc97) rfl ?_
  rintro _ _ ⟨b2, rfl, rfl⟩
  refine RL.nil (N.next ?_)
  refine W.seq (W.region ?_)
  refine RL.q (Yld.fieldAddr fo97_1 rfl) rfl ?_
  refine RL.q (Yld.ld 101 Tryz.underlying3 rfl rfl rfl rfl) rfl ?_
  refine RL.q (Yld.fieldAddr fo97_2 rfl) rfl ?_
  refine RL.q (Yld.ld 101 Tryz.underlying3 rfl rfl rfl rfl) rfl ?_
  refine RL.q (Yld.buildP lay97 (.cons rfl rfl (.cons rfl rfl .nil)) rfl) rfl ?_
  refine RL.e0 (Eff.storeS (c := 102) _ sz97 rfl rfl rfl rfl rfl rfl rfl (by (try simp only [putAt, List.take, List.drop, List.nil_append, List.cons_append, List.append_nil, List.length_cons, List.length_nil, Nat.add_zero, Nat.zero_add, Nat.reduceAdd]); rfl)) ?_
  rintro _ _ rfl
  refine RL.nil (N.next ?_)
  refine W.keep (.of [2] rfl) (.of [0, 101, 102] rfl) ?_
  refine W.ret ?_
  exact N.retBy [] (.cons (by first | exact .cell (c := 102) rfl rfl (fun w hs => run_loadVarA Tryz.underlying97 rfl sz97 rfl (fun j u hj => by rw [Nat.zero_add, PH.sub.cell hs (by first | exact single_self _ _ | exact pset_self _ _ _ | assumption)]; exact hj))) .nil) rfl rfl rfl rfl ⟨rfl, rfl⟩
set_option maxRecDepth 100000 in
set_option maxHeartbeats 400000 in
theorem rok5_ct (m : Md) (H1 : PH) (hM : m.In H1) (x : Rl) (hms : Sl H1 x.pm x.cm 1 (iz x.ms)) : Ct Tryz.prog 177 [.agg [.slice m.psi m.si.length m.csi, .slice m.pfe m.fe.length m.cfe, .slice m.prk m.rk.length m.crk, .slice m.pmc m.mc.length m.cmc, .slice m.pln m.ln.length m.cln, .slice m.pis m.is.length m.cis, .int .i64 m.da, .int .i64 m.sl, .int .i64 m.re, .int .i64 m.fa, .slice m.prl m.rl.length m.crl].toArray, .agg [.int .i64 x.kd, .int .i64 x.it, .int .i64 x.ot, .int .i64 x.n, .int .i64 x.bq, .bool x.al, .slice x.pm x.ms.length x.cm].toArray] [H1] (fun v Hs => v = .bool (decide (InR x.n 0 200)) ∧ Hs = [H1]) := by
  refine Ct.body Tryz.func177 rfl Tryz.ntmps177 rfl ?_
  intro E F
  have hMis := hM.is
  have hmi := hM.is.len_le
  simp only [List.length_map, maxLen] at hmi
  refine W.seq (W.region ?_)
  refine RL.e (Eff.box 102 _ rfl rfl) rfl ?_
  rintro _ _ ⟨b2, rfl, rfl⟩
  refine RL.e (Eff.box 103 _ rfl rfl) rfl ?_
  rintro _ _ ⟨b3, rfl, rfl⟩
  refine RL.q (Yld.assign rfl) rfl (RL.nil (N.next ?_))
  refine W.keep (.of [3] rfl) (.of [0, 1, 102, 103] rfl) ?_
  refine W.seq (W.region ?_)
  refine RL.q (Yld.fieldAddr fo97_3 rfl) rfl ?_
  refine RL.q (Yld.ld 103 Tryz.underlying3 rfl rfl rfl rfl) rfl ?_
  refine RL.e (Eff.call ent67 [] [] (.cons rfl (.cons rfl (.cons rfl .nil))) (within_ct x.n 0 200) rfl rfl rfl rfl (by rintro _ _ ⟨_, rfl⟩; rfl)) rfl ?_
  rintro _ _ ⟨_, ⟨rfl, rfl⟩, rfl⟩
  refine RL.q (Yld.assign rfl) rfl (RL.nil (N.next ?_))
  refine W.keep (.of [4] rfl) (.of [0, 1, 102, 103] rfl) ?_
  refine W.ret ?_
  exact N.retBy [1] (.cons (.tmp rfl) .nil) rfl rfl rfl rfl ⟨rfl, rfl⟩
set_option maxRecDepth 100000 in
set_option maxHeartbeats 400000 in
theorem ron5_ct (x : Rl) : Ct Tryz.prog 178 [.agg [.int .i64 x.kd, .int .i64 x.it, .int .i64 x.ot, .int .i64 x.n, .int .i64 x.bq, .bool x.al, .slice x.pm x.ms.length x.cm].toArray] [] (fun v Hs => v = .agg (Rl.c ⟨0, 0, 0, x.n, 0, false, none, [], 0⟩).toArray ∧ Hs = []) := by
  refine Ct.body Tryz.func178 rfl Tryz.ntmps178 rfl ?_
  intro E F
  refine W.seq (W.region ?_)
  refine RL.e (Eff.box 101 _ rfl rfl) rfl ?_
  rintro _ _ ⟨b1, rfl, rfl⟩
  refine RL.e (Eff.alloc 102 zc97) rfl ?_
  rintro _ _ ⟨b2, rfl, rfl⟩
  refine RL.nil (N.next ?_)
  refine W.seq (W.region ?_)
  refine RL.q (Yld.fieldAddr fo97_3 rfl) rfl ?_
  refine RL.q (Yld.ld 101 Tryz.underlying3 rfl rfl rfl rfl) rfl ?_
  refine RL.q (Yld.buildP lay97 (.cons rfl rfl .nil) rfl) rfl ?_
  refine RL.e0 (Eff.storeS (c := 102) _ sz97 rfl rfl rfl rfl rfl rfl rfl (by (try simp only [putAt, List.take, List.drop, List.nil_append, List.cons_append, List.append_nil, List.length_cons, List.length_nil, Nat.add_zero, Nat.zero_add, Nat.reduceAdd]); rfl)) ?_
  rintro _ _ rfl
  refine RL.nil (N.next ?_)
  refine W.keep (.of [2] rfl) (.of [0, 101, 102] rfl) ?_
  refine W.ret ?_
  exact N.retBy [] (.cons (by first | exact .cell (c := 102) rfl rfl (fun w hs => run_loadVarA Tryz.underlying97 rfl sz97 rfl (fun j u hj => by rw [Nat.zero_add, PH.sub.cell hs (by first | exact single_self _ _ | exact pset_self _ _ _ | assumption)]; exact hj))) .nil) rfl rfl rfl rfl ⟨rfl, rfl⟩
set_option maxRecDepth 100000 in
set_option maxHeartbeats 400000 in
theorem rok6_ct (m : Md) (H1 : PH) (hM : m.In H1) (x : Rl) (hms : Sl H1 x.pm x.cm 1 (iz x.ms)) : Ct Tryz.prog 179 [.agg [.slice m.psi m.si.length m.csi, .slice m.pfe m.fe.length m.cfe, .slice m.prk m.rk.length m.crk, .slice m.pmc m.mc.length m.cmc, .slice m.pln m.ln.length m.cln, .slice m.pis m.is.length m.cis, .int .i64 m.da, .int .i64 m.sl, .int .i64 m.re, .int .i64 m.fa, .slice m.prl m.rl.length m.crl].toArray, .agg [.int .i64 x.kd, .int .i64 x.it, .int .i64 x.ot, .int .i64 x.n, .int .i64 x.bq, .bool x.al, .slice x.pm x.ms.length x.cm].toArray] [H1] (fun v Hs => v = .bool (decide (InR x.it 1 m.is.length) && decide (InR x.n 0 16)) ∧ Hs = [H1]) := by
  refine Ct.body Tryz.func179 rfl Tryz.ntmps179 rfl ?_
  intro E F
  have hMis := hM.is
  have hmi := hM.is.len_le
  simp only [List.length_map, maxLen] at hmi
  refine W.seq (W.region ?_)
  refine RL.e (Eff.box 102 _ rfl rfl) rfl ?_
  rintro _ _ ⟨b2, rfl, rfl⟩
  refine RL.e (Eff.box 103 _ rfl rfl) rfl ?_
  rintro _ _ ⟨b3, rfl, rfl⟩
  refine RL.q (Yld.assign rfl) rfl (RL.nil (N.next ?_))
  refine W.seq (W.region ?_)
  refine RL.q (Yld.ldW 102 Tryz.underlying29 sz29 rfl rfl rfl rfl) rfl ?_
  refine RL.q (Yld.fieldAddr fo97_1 rfl) rfl ?_
  refine RL.q (Yld.ld 103 Tryz.underlying3 rfl rfl rfl rfl) rfl ?_
  refine RL.e (Eff.call ent167 [1] [1] (.cons rfl (.cons rfl .nil)) (item_ct m H1 hM x.it) rfl rfl rfl rfl (by rintro _ _ ⟨_, rfl⟩; rfl)) rfl ?_
  rintro _ _ ⟨_, ⟨rfl, rfl⟩, rfl⟩
  refine RL.q (Yld.move rfl) rfl ?_
  refine' RL.and (t := 9) (d := 13) 4 rfl (.of [0, 1, 2, 3, 4, 5, 6, 7, 8] rfl) (.of [0, 1, 102, 103] rfl) ?_ ?_ ?_
  rotate_left 1
  ·
   intro hg9
   refine RL.gq rfl rfl (Yld.fieldAddr fo97_3 rfl) rfl ?_
   refine RL.gq rfl rfl (Yld.ld 103 Tryz.underlying3 rfl rfl rfl rfl) rfl ?_
   refine RL.ge rfl rfl (Eff.call ent67 [] [] (.cons rfl (.cons rfl (.cons rfl .nil))) (within_ct x.n 0 16) rfl rfl rfl rfl (by rintro _ _ ⟨_, rfl⟩; rfl)) rfl ?_
   rintro _ _ ⟨_, ⟨rfl, rfl⟩, rfl⟩
   refine RL.q Yld.pk rfl ?_
   exact RL.nil (N.meet (.to rfl) (.to rfl))
  ·
   intro hg9
   refine RL.gskip rfl rfl rfl rfl ?_
   refine RL.gskip rfl rfl rfl rfl ?_
   refine RL.gskip rfl rfl rfl rfl ?_
   refine RL.q Yld.pk rfl ?_
   exact RL.nil (N.meet (.to rfl) (.to rfl))
  refine RL.q (Yld.assign rfl) rfl (RL.nil (N.next ?_))
  refine W.keep (.of [4] rfl) (.of [0, 1, 102, 103] rfl) ?_
  refine W.ret ?_
  exact N.retBy [1] (.cons (.tmp rfl) .nil) rfl rfl rfl rfl ⟨rfl, rfl⟩
set_option maxRecDepth 100000 in
set_option maxHeartbeats 400000 in
theorem ron6_ct (x : Rl) : Ct Tryz.prog 180 [.agg [.int .i64 x.kd, .int .i64 x.it, .int .i64 x.ot, .int .i64 x.n, .int .i64 x.bq, .bool x.al, .slice x.pm x.ms.length x.cm].toArray] [] (fun v Hs => v = .agg (Rl.c ⟨0, x.it, 0, x.n, 0, false, none, [], 0⟩).toArray ∧ Hs = []) := by
  refine Ct.body Tryz.func180 rfl Tryz.ntmps180 rfl ?_
  intro E F
  refine W.seq (W.region ?_)
  refine RL.e (Eff.box 101 _ rfl rfl) rfl ?_
  rintro _ _ ⟨b1, rfl, rfl⟩
  refine RL.e (Eff.alloc 102 zc97) rfl ?_
  rintro _ _ ⟨b2, rfl, rfl⟩
  refine RL.nil (N.next ?_)
  refine W.seq (W.region ?_)
  refine RL.q (Yld.fieldAddr fo97_1 rfl) rfl ?_
  refine RL.q (Yld.ld 101 Tryz.underlying3 rfl rfl rfl rfl) rfl ?_
  refine RL.q (Yld.fieldAddr fo97_3 rfl) rfl ?_
  refine RL.q (Yld.ld 101 Tryz.underlying3 rfl rfl rfl rfl) rfl ?_
  refine RL.q (Yld.buildP lay97 (.cons rfl rfl (.cons rfl rfl .nil)) rfl) rfl ?_
  refine RL.e0 (Eff.storeS (c := 102) _ sz97 rfl rfl rfl rfl rfl rfl rfl (by (try simp only [putAt, List.take, List.drop, List.nil_append, List.cons_append, List.append_nil, List.length_cons, List.length_nil, Nat.add_zero, Nat.zero_add, Nat.reduceAdd]); rfl)) ?_
  rintro _ _ rfl
  refine RL.nil (N.next ?_)
  refine W.keep (.of [2] rfl) (.of [0, 101, 102] rfl) ?_
  refine W.ret ?_
  exact N.retBy [] (.cons (by first | exact .cell (c := 102) rfl rfl (fun w hs => run_loadVarA Tryz.underlying97 rfl sz97 rfl (fun j u hj => by rw [Nat.zero_add, PH.sub.cell hs (by first | exact single_self _ _ | exact pset_self _ _ _ | assumption)]; exact hj))) .nil) rfl rfl rfl rfl ⟨rfl, rfl⟩
set_option maxRecDepth 100000 in
set_option maxHeartbeats 800000 in
theorem sameR_ct (x y : Rl) (H1 : PH) (hx : Sl H1 x.pm x.cm 1 (iz x.ms)) (hy : Sl H1 y.pm y.cm 1 (iz y.ms)) : Ct Tryz.prog 130 [.agg [.int .i64 x.kd, .int .i64 x.it, .int .i64 x.ot, .int .i64 x.n, .int .i64 x.bq, .bool x.al, .slice x.pm x.ms.length x.cm].toArray, .agg [.int .i64 y.kd, .int .i64 y.it, .int .i64 y.ot, .int .i64 y.n, .int .i64 y.bq, .bool y.al, .slice y.pm y.ms.length y.cm].toArray] [H1] (fun v Hs => v = .bool (sameV x y) ∧ Hs = [H1]) := by
  refine Ct.body Tryz.func130 rfl Tryz.ntmps130 rfl ?_
  intro E F
  refine W.seq (W.region ?_)
  refine RL.e (Eff.box 102 _ rfl rfl) rfl ?_
  rintro _ _ ⟨b2, rfl, rfl⟩
  refine RL.e (Eff.box 103 _ rfl rfl) rfl ?_
  rintro _ _ ⟨b3, rfl, rfl⟩
  refine RL.q (Yld.assign rfl) rfl (RL.nil (N.next ?_))
  refine W.seq (W.region ?_)
  refine RL.q (Yld.fieldAddr fo97_1 rfl) rfl ?_
  refine RL.q (Yld.ld 102 Tryz.underlying3 rfl rfl rfl rfl) rfl ?_
  refine RL.q (Yld.fieldAddr fo97_1 rfl) rfl ?_
  refine RL.q (Yld.ld 103 Tryz.underlying3 rfl rfl rfl rfl) rfl ?_
  refine RL.q (Yld.bin rfl rfl BinV.eql) rfl ?_
  refine RL.q (Yld.move rfl) rfl ?_
  refine' RL.and (t := 10) (d := 16) 6 rfl (.of [0, 1, 2, 3, 4, 5, 6, 7, 8, 9] rfl) (.of [0, 1, 102, 103] rfl) ?_ ?_ ?_
  rotate_left 1
  ·
   intro hg10
   refine RL.gq rfl rfl (Yld.fieldAddr fo97_2 rfl) rfl ?_
   refine RL.gq rfl rfl (Yld.ld 102 Tryz.underlying3 rfl rfl rfl rfl) rfl ?_
   refine RL.gq rfl rfl (Yld.fieldAddr fo97_2 rfl) rfl ?_
   refine RL.gq rfl rfl (Yld.ld 103 Tryz.underlying3 rfl rfl rfl rfl) rfl ?_
   refine RL.gq rfl rfl (Yld.bin rfl rfl BinV.eql) rfl ?_
   refine RL.q Yld.pk rfl ?_
   exact RL.nil (N.meet (.to rfl) (.to rfl))
  ·
   intro hg10
   refine RL.gskip rfl rfl rfl rfl ?_
   refine RL.gskip rfl rfl rfl rfl ?_
   refine RL.gskip rfl rfl rfl rfl ?_
   refine RL.gskip rfl rfl rfl rfl ?_
   refine RL.gskip rfl rfl rfl rfl ?_
   refine RL.q Yld.pk rfl ?_
   exact RL.nil (N.meet (.to rfl) (.to rfl))
  refine RL.q (Yld.move rfl) rfl ?_
  refine' RL.and (t := 17) (d := 23) 6 rfl (.of [0, 1, 2, 3, 4, 5, 6, 7, 8, 9, 16] rfl) (.of [0, 1, 102, 103] rfl) ?_ ?_ ?_
  rotate_left 1
  ·
   intro hg17
   refine RL.gq rfl rfl (Yld.fieldAddr fo97_3 rfl) rfl ?_
   refine RL.gq rfl rfl (Yld.ld 102 Tryz.underlying3 rfl rfl rfl rfl) rfl ?_
   refine RL.gq rfl rfl (Yld.fieldAddr fo97_3 rfl) rfl ?_
   refine RL.gq rfl rfl (Yld.ld 103 Tryz.underlying3 rfl rfl rfl rfl) rfl ?_
   refine RL.gq rfl rfl (Yld.bin rfl rfl BinV.eql) rfl ?_
   refine RL.q Yld.pk rfl ?_
   exact RL.nil (N.meet (.to rfl) (.to rfl))
  ·
   intro hg17
   refine RL.gskip rfl rfl rfl rfl ?_
   refine RL.gskip rfl rfl rfl rfl ?_
   refine RL.gskip rfl rfl rfl rfl ?_
   refine RL.gskip rfl rfl rfl rfl ?_
   refine RL.gskip rfl rfl rfl rfl ?_
   refine RL.q Yld.pk rfl ?_
   exact RL.nil (N.meet (.to rfl) (.to rfl))
  refine RL.q (Yld.move rfl) rfl ?_
  refine' RL.and (t := 24) (d := 30) 6 rfl (.of [0, 1, 2, 3, 4, 5, 6, 7, 8, 9, 16, 23] rfl) (.of [0, 1, 102, 103] rfl) ?_ ?_ ?_
  rotate_left 1
  ·
   intro hg24
   refine RL.gq rfl rfl (Yld.fieldAddr fo97_4 rfl) rfl ?_
   refine RL.gq rfl rfl (Yld.ld 102 Tryz.underlying3 rfl rfl rfl rfl) rfl ?_
   refine RL.gq rfl rfl (Yld.fieldAddr fo97_4 rfl) rfl ?_
   refine RL.gq rfl rfl (Yld.ld 103 Tryz.underlying3 rfl rfl rfl rfl) rfl ?_
   refine RL.gq rfl rfl (Yld.bin rfl rfl BinV.eql) rfl ?_
   refine RL.q Yld.pk rfl ?_
   exact RL.nil (N.meet (.to rfl) (.to rfl))
  ·
   intro hg24
   refine RL.gskip rfl rfl rfl rfl ?_
   refine RL.gskip rfl rfl rfl rfl ?_
   refine RL.gskip rfl rfl rfl rfl ?_
   refine RL.gskip rfl rfl rfl rfl ?_
   refine RL.gskip rfl rfl rfl rfl ?_
   refine RL.q Yld.pk rfl ?_
   exact RL.nil (N.meet (.to rfl) (.to rfl))
  refine RL.q (Yld.move rfl) rfl ?_
  refine' RL.and (t := 31) (d := 37) 6 rfl (.of [0, 1, 2, 3, 4, 5, 6, 7, 8, 9, 16, 23, 30] rfl) (.of [0, 1, 102, 103] rfl) ?_ ?_ ?_
  rotate_left 1
  ·
   intro hg31
   refine RL.gq rfl rfl (Yld.fieldAddr fo97_5 rfl) rfl ?_
   refine RL.gq rfl rfl (Yld.ld 102 Tryz.underlying4 rfl rfl rfl rfl) rfl ?_
   refine RL.gq rfl rfl (Yld.fieldAddr fo97_5 rfl) rfl ?_
   refine RL.gq rfl rfl (Yld.ld 103 Tryz.underlying4 rfl rfl rfl rfl) rfl ?_
   refine RL.gq rfl rfl (Yld.bin rfl rfl (BinV.eqlB Tryz.underlying4)) rfl ?_
   refine RL.q Yld.pk rfl ?_
   exact RL.nil (N.meet (.to rfl) (.to rfl))
  ·
   intro hg31
   refine RL.gskip rfl rfl rfl rfl ?_
   refine RL.gskip rfl rfl rfl rfl ?_
   refine RL.gskip rfl rfl rfl rfl ?_
   refine RL.gskip rfl rfl rfl rfl ?_
   refine RL.gskip rfl rfl rfl rfl ?_
   refine RL.q Yld.pk rfl ?_
   exact RL.nil (N.meet (.to rfl) (.to rfl))
  refine RL.q (Yld.move rfl) rfl ?_
  refine' RL.and (t := 38) (d := 44) 6 rfl (.of [0, 1, 2, 3, 4, 5, 6, 7, 8, 9, 16, 23, 30, 37] rfl) (.of [0, 1, 102, 103] rfl) ?_ ?_ ?_
  rotate_left 1
  ·
   intro hg38
   refine RL.gq rfl rfl (Yld.fieldAddr fo97_6 rfl) rfl ?_
   refine RL.gq rfl rfl (Yld.ld 102 Tryz.underlying55 rfl rfl rfl rfl) rfl ?_
   refine RL.gq rfl rfl (Yld.fieldAddr fo97_6 rfl) rfl ?_
   refine RL.gq rfl rfl (Yld.ld 103 Tryz.underlying55 rfl rfl rfl rfl) rfl ?_
   refine RL.ge rfl rfl (Eff.call ent181 [1] [1] (.cons rfl (.cons rfl .nil)) (equalI_ct x.ms y.ms _ _ _ _ _ hx hy) rfl rfl rfl rfl (by rintro _ _ ⟨_, rfl⟩; rfl)) rfl ?_
   rintro _ _ ⟨_, ⟨rfl, rfl⟩, rfl⟩
   refine RL.q Yld.pk rfl ?_
   exact RL.nil (N.meet (.to rfl) (.to rfl))
  ·
   intro hg38
   refine RL.gskip rfl rfl rfl rfl ?_
   refine RL.gskip rfl rfl rfl rfl ?_
   refine RL.gskip rfl rfl rfl rfl ?_
   refine RL.gskip rfl rfl rfl rfl ?_
   refine RL.gskip rfl rfl rfl rfl ?_
   refine RL.q Yld.pk rfl ?_
   exact RL.nil (N.meet (.to rfl) (.to rfl))
  refine RL.q (Yld.assign rfl) rfl (RL.nil (N.next ?_))
  refine W.keep (.of [4] rfl) (.of [0, 1, 102, 103] rfl) ?_
  refine W.ret ?_
  exact N.retBy [1] (.cons (.tmp rfl) .nil) rfl rfl rfl rfl ⟨by first | rfl | (show Value.bool _ = Value.bool _; congr 1; rw [Bool.eq_iff_iff]; unfold sameV; simp), rfl⟩
def Cat.formsM : List (Int × Value) := (mset (mset (mset (mset (mset (mset (mset ([] : List (Int × Value)) 0 (.agg [.func (.func 166) [].toArray [].toArray, .func (.func 168) [].toArray [].toArray].toArray)) 1 (.agg [.func (.func 169) [].toArray [].toArray, .func (.func 170) [].toArray [].toArray].toArray)) 2 (.agg [.func (.func 171) [].toArray [].toArray, .func (.func 172) [].toArray [].toArray].toArray)) 3 (.agg [.func (.func 173) [].toArray [].toArray, .func (.func 174) [].toArray [].toArray].toArray)) 4 (.agg [.func (.func 175) [].toArray [].toArray, .func (.func 176) [].toArray [].toArray].toArray)) 5 (.agg [.func (.func 177) [].toArray [].toArray, .func (.func 178) [].toArray [].toArray].toArray)) 6 (.agg [.func (.func 179) [].toArray [].toArray, .func (.func 180) [].toArray [].toArray].toArray))
theorem sl_nil1 (H : PH) : Sl H none 0 1 (iz []) := (Own.nil 3 1).sl.mono (fun _ _ h => nomatch h)
set_option maxRecDepth 100000 in
set_option maxHeartbeats 1600000 in
theorem forms_ct  : Ct Tryz.prog 129 [] [] (fun v Hs => ∃ b es ck, v = .map (some b) ∧ MapP (fun a : Int => Value.int .i64 a) es ck formsM ∧ Hs = [single b (.map es ck)]) := by
  refine Ct.body Tryz.func129 rfl Tryz.ntmps129 rfl ?_
  intro E F
  have hM0 : MapP (fun a : Int => Value.int .i64 a) #[] 0 [] := MapP.empty _
  refine W.seq (W.region ?_)
  refine RL.q (Yld.assign rfl) rfl (RL.nil (N.next ?_))
  refine W.seq (W.region ?_)
  refine RL.e (Eff.makeMap 101) rfl ?_
  rintro _ _ ⟨b1, rfl, rfl⟩
  refine RL.q (Yld.buildP lay176 (.cons rfl rfl (.cons rfl rfl .nil)) rfl) rfl ?_
  refine RL.e0 (Eff.insert (c := 101) Tryz.underlying178 (keyInt Tryz.underlying3) rfl rfl rfl rfl (by assumption)) ?_
  rintro _ _ ⟨es1, ck1, hM1, rfl⟩
  refine RL.q (Yld.buildP lay176 (.cons rfl rfl (.cons rfl rfl .nil)) rfl) rfl ?_
  refine RL.e0 (Eff.insert (c := 101) Tryz.underlying178 (keyInt Tryz.underlying3) rfl rfl rfl rfl (by assumption)) ?_
  rintro _ _ ⟨es2, ck2, hM2, rfl⟩
  refine RL.q (Yld.buildP lay176 (.cons rfl rfl (.cons rfl rfl .nil)) rfl) rfl ?_
  refine RL.e0 (Eff.insert (c := 101) Tryz.underlying178 (keyInt Tryz.underlying3) rfl rfl rfl rfl (by assumption)) ?_
  rintro _ _ ⟨es3, ck3, hM3, rfl⟩
  refine RL.q (Yld.buildP lay176 (.cons rfl rfl (.cons rfl rfl .nil)) rfl) rfl ?_
  refine RL.e0 (Eff.insert (c := 101) Tryz.underlying178 (keyInt Tryz.underlying3) rfl rfl rfl rfl (by assumption)) ?_
  rintro _ _ ⟨es4, ck4, hM4, rfl⟩
  refine RL.q (Yld.buildP lay176 (.cons rfl rfl (.cons rfl rfl .nil)) rfl) rfl ?_
  refine RL.e0 (Eff.insert (c := 101) Tryz.underlying178 (keyInt Tryz.underlying3) rfl rfl rfl rfl (by assumption)) ?_
  rintro _ _ ⟨es5, ck5, hM5, rfl⟩
  refine RL.q (Yld.buildP lay176 (.cons rfl rfl (.cons rfl rfl .nil)) rfl) rfl ?_
  refine RL.e0 (Eff.insert (c := 101) Tryz.underlying178 (keyInt Tryz.underlying3) rfl rfl rfl rfl (by assumption)) ?_
  rintro _ _ ⟨es6, ck6, hM6, rfl⟩
  refine RL.q (Yld.buildP lay176 (.cons rfl rfl (.cons rfl rfl .nil)) rfl) rfl ?_
  refine RL.e0 (Eff.insert (c := 101) Tryz.underlying178 (keyInt Tryz.underlying3) rfl rfl rfl rfl (by assumption)) ?_
  rintro _ _ ⟨es7, ck7, hM7, rfl⟩
  refine RL.q (Yld.move rfl) rfl (RL.q (Yld.assign rfl) rfl (RL.nil (N.next ?_)))
  refine W.keep (.of [0] rfl) (.of [0, 101] rfl) ?_
  refine W.ret ?_
  exact N.retBy [101] (.cons (.tmp rfl) .nil) rfl rfl rfl rfl ⟨_, _, _, rfl, (by assumption), rfl⟩
end Go.Proofs.YtboapdcmaeojgaaGreatDoor
namespace Go.Proofs.YtboapdcmaeojgaaGreatDoor
open SL Cat
set_option linter.unusedVariables false
set_option linter.unusedSimpArgs false
theorem fo97_0 : fieldOff Tryz.prog 97 0 = some 0 := by kernel_rfl
theorem ent129 : Ent Tryz.prog 129 := ⟨_, _, Tryz.func129, by kernel_rfl, rfl⟩
theorem zv176 : zv Tryz.prog 176 (.agg #[.nilFunc, .nilFunc]) := (by kernel_rfl : (Tryz.prog.info? 176).bind (·.zero) = some (.agg #[.nilFunc, .nilFunc]))
theorem zc176 : zc Tryz.prog 176 [.nilFunc, .nilFunc] := (by kernel_rfl : ((Tryz.prog.info? 176).bind (·.zero)).map (fun v => v.cells.toList) = some [.nilFunc, .nilFunc])
theorem sz176 : sz Tryz.prog 176 2 := (by kernel_rfl : (Tryz.prog.info? 176).map (·.size) = some 2)
theorem fo176_0 : fieldOff Tryz.prog 176 0 = some 0 := by kernel_rfl
theorem fo176_1 : fieldOff Tryz.prog 176 1 = some 1 := by kernel_rfl
theorem ent130 : Ent Tryz.prog 130 := ⟨_, _, Tryz.func130, by kernel_rfl, rfl⟩
set_option maxRecDepth 100000 in
set_option maxHeartbeats 3200000 in
theorem validRuleG_ct (m : Md) (H1 : PH) (hM : m.In H1) (x : Rl) (hms : Sl H1 x.pm x.cm 1 (iz x.ms)) (F1 F2 : Nat) (OK : Bool) (on : Rl) (hent1 : Ent Tryz.prog F1) (hent2 : Ent Tryz.prog F2) (h1 : Ct Tryz.prog F1 [.agg [.slice m.psi m.si.length m.csi, .slice m.pfe m.fe.length m.cfe, .slice m.prk m.rk.length m.crk, .slice m.pmc m.mc.length m.cmc, .slice m.pln m.ln.length m.cln, .slice m.pis m.is.length m.cis, .int .i64 m.da, .int .i64 m.sl, .int .i64 m.re, .int .i64 m.fa, .slice m.prl m.rl.length m.crl].toArray, .agg [.int .i64 x.kd, .int .i64 x.it, .int .i64 x.ot, .int .i64 x.n, .int .i64 x.bq, .bool x.al, .slice x.pm x.ms.length x.cm].toArray] [H1] (fun v Hs => v = .bool OK ∧ Hs = [H1])) (h2 : Ct Tryz.prog F2 [.agg [.int .i64 x.kd, .int .i64 x.it, .int .i64 x.ot, .int .i64 x.n, .int .i64 x.bq, .bool x.al, .slice x.pm x.ms.length x.cm].toArray] [] (fun v Hs => v = .agg on.c.toArray ∧ Hs = [])) (hso : Sl H1 on.pm on.cm 1 (iz on.ms)) (hlk : mget formsM x.kd = some (.agg [.func (.func F1) [].toArray [].toArray, .func (.func F2) [].toArray [].toArray].toArray)) (hrl : rlB m x = (OK && sameV x on)) : Ct Tryz.prog 75 [.agg [.slice m.psi m.si.length m.csi, .slice m.pfe m.fe.length m.cfe, .slice m.prk m.rk.length m.crk, .slice m.pmc m.mc.length m.cmc, .slice m.pln m.ln.length m.cln, .slice m.pis m.is.length m.cis, .int .i64 m.da, .int .i64 m.sl, .int .i64 m.re, .int .i64 m.fa, .slice m.prl m.rl.length m.crl].toArray, .agg [.int .i64 x.kd, .int .i64 x.it, .int .i64 x.ot, .int .i64 x.n, .int .i64 x.bq, .bool x.al, .slice x.pm x.ms.length x.cm].toArray] [H1] (fun v Hs => v = .bool (rlB m x) ∧ Hs = [H1]) := by
  refine Ct.body Tryz.func75 rfl Tryz.ntmps75 rfl ?_
  intro E F
  refine W.seq (W.region ?_)
  refine RL.e (Eff.box 102 _ rfl rfl) rfl ?_
  rintro _ _ ⟨b2, rfl, rfl⟩
  refine RL.e (Eff.box 103 _ rfl rfl) rfl ?_
  rintro _ _ ⟨b3, rfl, rfl⟩
  refine RL.q (Yld.assign rfl) rfl (RL.nil (N.next ?_))
  refine W.seq ?_
  refine W.draw (.q 1 (.q 2 (.two 0 (.two 3 (.q 4 (.q 5 (.q 6 (.one 7 (.one 8 (.q 9 .done)))))) 7 (.one 3 (.q 4 (.q 5 (.q 6 (.one 8 (.q 9 .done))))))) 7 (.one 0 (.one 3 (.q 4 (.q 5 (.q 6 (.one 8 (.q 9 .done)))))))))) (.of [0, 1, 102, 103] rfl) mix (by kernel_rfl) (by kernel_rfl) ?_
  refine DL.q rfl (Yld.fieldAddr fo97_0 rfl) rfl ?_
  refine DL.q rfl (Yld.ld 103 Tryz.underlying3 rfl rfl rfl rfl) rfl ?_
  refine DL.two ?_ ?_
  ·
   refine DL.one rfl (Eff.call ent129 [] [140] .nil forms_ct rfl rfl rfl rfl (by rintro _ _ ⟨_, _, _, _, _, rfl⟩; rfl)) rfl (by rintro _ _ ⟨_, ⟨bm, esm, ckm, rfl, hMf, rfl⟩, rfl⟩; repeat (first | exact .nil | refine .cons rfl ?_)) ?_
   rintro _ _ ⟨_, ⟨bm, esm, ckm, rfl, hMf, rfl⟩, rfl⟩
   refine DL.two ?_ ?_
   ·
    refine DL.one rfl (Yld.eff (Yld.eq (v' := .tuple [.agg [.func (.func F1) [].toArray [].toArray, .func (.func F2) [].toArray [].toArray].toArray, .bool true].toArray) (Yld.lookupOk (c := 140) Tryz.underlying178 (keyInt Tryz.underlying3) zv176 rfl rfl rfl (by assumption)) (by rw [hlk]; rfl))) rfl (by rintro _ _ ⟨rfl, rfl⟩; repeat (first | exact .nil | refine .cons rfl ?_)) ?_
    rintro _ _ ⟨rfl, rfl⟩
    refine DL.q rfl (Yld.move rfl) rfl ?_
    refine DL.q rfl (Yld.extract rfl rfl) rfl ?_
    refine DL.q rfl (Yld.extract rfl rfl) rfl ?_
    refine DL.one rfl (Eff.alloc 105 zc176) rfl (by rintro _ _ ⟨b5, rfl, rfl⟩; repeat (first | exact .nil | refine .cons rfl ?_)) ?_
    rintro _ _ ⟨b5, rfl, rfl⟩
    refine DL.one0 rfl (Eff.storeS (c := 105) _ sz176 rfl rfl rfl rfl rfl rfl rfl (by (try simp only [putAt, List.take, List.drop, List.nil_append, List.cons_append, List.append_nil, List.length_cons, List.length_nil, Nat.add_zero, Nat.zero_add, Nat.reduceAdd]); rfl)) (by rintro _ _ rfl; repeat (first | exact .nil | refine .cons rfl ?_)) ?_
    rintro _ _ rfl
    refine DL.q rfl (Yld.assign rfl) rfl ?_
    refine DL.done ?_
    refine N.next ?_
    refine W.keep (.of [2, 3, 5, 6] rfl) (.of [0, 1, 102, 103, 105, 140] rfl) ?_
    refine W.seq ?_
    refine W.draw (.q 0 (.q 1 (.q 2 (.q 3 (.q 4 (.q 5 (.one 6 (.q 7 (.q 8 (.q 9 (.q 10 (.q 11 (.q 12 (.one 13 (.one 14 (.q 15 (.q 16 .done))))))))))))))))) (.of [0, 102, 103, 105, 140] rfl) mix (by kernel_rfl) (by kernel_rfl) ?_
    refine DL.q rfl (Yld.move rfl) rfl ?_
    refine DL.q rfl (Yld.move rfl) rfl ?_
    first | refine DL.as (t := 15) rfl (boolT (by first | assumption | omega | (simp; done))) ?_ | refine DL.as (t := 15) (v := .bool true) rfl rfl ?_
    refine DL.gq rfl rfl rfl (Yld.fieldAddr fo176_0 rfl) rfl ?_
    refine DL.gq rfl rfl rfl (Yld.ld 105 Tryz.underlying99 rfl rfl rfl rfl) rfl ?_
    refine DL.gq rfl rfl rfl (Yld.ldW 102 Tryz.underlying29 sz29 rfl rfl rfl rfl) rfl ?_
    refine DL.gq rfl rfl rfl (Yld.ldW 103 Tryz.underlying97 sz97 rfl rfl rfl rfl) rfl ?_
    refine DL.gone rfl rfl rfl (Eff.callV hent1 [1] [1] rfl (.cons rfl (.cons rfl .nil)) h1 rfl rfl rfl rfl (by rintro _ _ ⟨_, rfl⟩; rfl)) rfl (by rintro _ _ ⟨_, ⟨rfl, rfl⟩, rfl⟩; repeat (first | exact .nil | refine .cons rfl ?_)) ?_
    rintro _ _ ⟨_, ⟨rfl, rfl⟩, rfl⟩
    refine DL.q rfl Yld.pk rfl ?_
    refine DL.q rfl (Yld.move rfl) rfl ?_
    refine' DL.and (t := 22) (d := 29) 7 rfl (.of [2, 3, 5, 6, 14, 15, 16, 17, 18, 19, 20, 21] rfl) (.of [0, 1, 102, 103, 105, 140] rfl) ?_ ?_ ?_
    rotate_left 1
    ·
     intro hg22
     refine DL.gq rfl rfl rfl (Yld.ldW 103 Tryz.underlying97 sz97 rfl rfl rfl rfl) rfl ?_
     refine DL.gq rfl rfl rfl (Yld.fieldAddr fo176_1 rfl) rfl ?_
     refine DL.gq rfl rfl rfl (Yld.ld 105 Tryz.underlying174 rfl rfl rfl rfl) rfl ?_
     refine DL.gq rfl rfl rfl (Yld.ldW 103 Tryz.underlying97 sz97 rfl rfl rfl rfl) rfl ?_
     refine DL.gone rfl rfl rfl (Eff.callV hent2 [] [] rfl (.cons rfl .nil) h2 rfl rfl rfl rfl (by rintro _ _ ⟨_, rfl⟩; rfl)) rfl (by rintro _ _ ⟨_, ⟨rfl, rfl⟩, rfl⟩; repeat (first | exact .nil | refine .cons rfl ?_)) ?_
     rintro _ _ ⟨_, ⟨rfl, rfl⟩, rfl⟩
     refine DL.gone rfl rfl rfl (Eff.call ent130 [1] [1] (.cons rfl (.cons rfl .nil)) (sameR_ct x on H1 hms hso) rfl rfl rfl rfl (by rintro _ _ ⟨_, rfl⟩; rfl)) rfl (by rintro _ _ ⟨_, ⟨rfl, rfl⟩, rfl⟩; repeat (first | exact .nil | refine .cons rfl ?_)) ?_
     rintro _ _ ⟨_, ⟨rfl, rfl⟩, rfl⟩
     refine DL.q rfl Yld.pk rfl ?_
     exact DL.meet (.to rfl) (.to rfl)
    ·
     intro hg22
     refine DL.gskip rfl rfl rfl rfl rfl ?_
     refine DL.gskip rfl rfl rfl rfl rfl ?_
     refine DL.gskip rfl rfl rfl rfl rfl ?_
     refine DL.gskip rfl rfl rfl rfl rfl ?_
     refine DL.gskip1 rfl rfl rfl rfl rfl ?_
     refine DL.gskip1 rfl rfl rfl rfl rfl ?_
     refine DL.q rfl Yld.pk rfl ?_
     exact DL.meet (.to rfl) (.to rfl)
    refine DL.q rfl (Yld.assign rfl) rfl ?_
    refine DL.done ?_
    refine N.next ?_
    refine W.keep (.of [4] rfl) (.of [0, 1, 102, 103, 105, 140] rfl) ?_
    refine W.ret ?_
    exact N.retBy [1] (.cons (.tmp rfl) .nil) rfl rfl rfl rfl ⟨by rw [hrl]; rfl, rfl⟩
   ·
    refine DL.one rfl (Eff.alloc 105 zc176) rfl (by rintro _ _ ⟨b5, rfl, rfl⟩; repeat (first | exact .nil | refine .cons rfl ?_)) ?_
    rintro _ _ ⟨b5, rfl, rfl⟩
    refine DL.one rfl (Yld.eff (Yld.eq (v' := .tuple [.agg [.func (.func F1) [].toArray [].toArray, .func (.func F2) [].toArray [].toArray].toArray, .bool true].toArray) (Yld.lookupOk (c := 140) Tryz.underlying178 (keyInt Tryz.underlying3) zv176 rfl rfl rfl (by assumption)) (by rw [hlk]; rfl))) rfl (by rintro _ _ ⟨rfl, rfl⟩; repeat (first | exact .nil | refine .cons rfl ?_)) ?_
    rintro _ _ ⟨rfl, rfl⟩
    refine DL.q rfl (Yld.move rfl) rfl ?_
    refine DL.q rfl (Yld.extract rfl rfl) rfl ?_
    refine DL.q rfl (Yld.extract rfl rfl) rfl ?_
    refine DL.one0 rfl (Eff.storeS (c := 105) _ sz176 rfl rfl rfl rfl rfl rfl rfl (by (try simp only [putAt, List.take, List.drop, List.nil_append, List.cons_append, List.append_nil, List.length_cons, List.length_nil, Nat.add_zero, Nat.zero_add, Nat.reduceAdd]); rfl)) (by rintro _ _ rfl; repeat (first | exact .nil | refine .cons rfl ?_)) ?_
    rintro _ _ rfl
    refine DL.q rfl (Yld.assign rfl) rfl ?_
    refine DL.done ?_
    refine N.next ?_
    refine W.keep (.of [2, 3, 5, 6] rfl) (.of [0, 1, 102, 103, 105, 140] rfl) ?_
    refine W.seq ?_
    refine W.draw (.q 0 (.q 1 (.q 2 (.q 3 (.q 4 (.q 5 (.one 6 (.q 7 (.q 8 (.q 9 (.q 10 (.q 11 (.q 12 (.one 13 (.one 14 (.q 15 (.q 16 .done))))))))))))))))) (.of [0, 102, 103, 105, 140] rfl) mix (by kernel_rfl) (by kernel_rfl) ?_
    refine DL.q rfl (Yld.move rfl) rfl ?_
    refine DL.q rfl (Yld.move rfl) rfl ?_
    first | refine DL.as (t := 15) rfl (boolT (by first | assumption | omega | (simp; done))) ?_ | refine DL.as (t := 15) (v := .bool true) rfl rfl ?_
    refine DL.gq rfl rfl rfl (Yld.fieldAddr fo176_0 rfl) rfl ?_
    refine DL.gq rfl rfl rfl (Yld.ld 105 Tryz.underlying99 rfl rfl rfl rfl) rfl ?_
    refine DL.gq rfl rfl rfl (Yld.ldW 102 Tryz.underlying29 sz29 rfl rfl rfl rfl) rfl ?_
    refine DL.gq rfl rfl rfl (Yld.ldW 103 Tryz.underlying97 sz97 rfl rfl rfl rfl) rfl ?_
    refine DL.gone rfl rfl rfl (Eff.callV hent1 [1] [1] rfl (.cons rfl (.cons rfl .nil)) h1 rfl rfl rfl rfl (by rintro _ _ ⟨_, rfl⟩; rfl)) rfl (by rintro _ _ ⟨_, ⟨rfl, rfl⟩, rfl⟩; repeat (first | exact .nil | refine .cons rfl ?_)) ?_
    rintro _ _ ⟨_, ⟨rfl, rfl⟩, rfl⟩
    refine DL.q rfl Yld.pk rfl ?_
    refine DL.q rfl (Yld.move rfl) rfl ?_
    refine' DL.and (t := 22) (d := 29) 7 rfl (.of [2, 3, 5, 6, 14, 15, 16, 17, 18, 19, 20, 21] rfl) (.of [0, 1, 102, 103, 105, 140] rfl) ?_ ?_ ?_
    rotate_left 1
    ·
     intro hg22
     refine DL.gq rfl rfl rfl (Yld.ldW 103 Tryz.underlying97 sz97 rfl rfl rfl rfl) rfl ?_
     refine DL.gq rfl rfl rfl (Yld.fieldAddr fo176_1 rfl) rfl ?_
     refine DL.gq rfl rfl rfl (Yld.ld 105 Tryz.underlying174 rfl rfl rfl rfl) rfl ?_
     refine DL.gq rfl rfl rfl (Yld.ldW 103 Tryz.underlying97 sz97 rfl rfl rfl rfl) rfl ?_
     refine DL.gone rfl rfl rfl (Eff.callV hent2 [] [] rfl (.cons rfl .nil) h2 rfl rfl rfl rfl (by rintro _ _ ⟨_, rfl⟩; rfl)) rfl (by rintro _ _ ⟨_, ⟨rfl, rfl⟩, rfl⟩; repeat (first | exact .nil | refine .cons rfl ?_)) ?_
     rintro _ _ ⟨_, ⟨rfl, rfl⟩, rfl⟩
     refine DL.gone rfl rfl rfl (Eff.call ent130 [1] [1] (.cons rfl (.cons rfl .nil)) (sameR_ct x on H1 hms hso) rfl rfl rfl rfl (by rintro _ _ ⟨_, rfl⟩; rfl)) rfl (by rintro _ _ ⟨_, ⟨rfl, rfl⟩, rfl⟩; repeat (first | exact .nil | refine .cons rfl ?_)) ?_
     rintro _ _ ⟨_, ⟨rfl, rfl⟩, rfl⟩
     refine DL.q rfl Yld.pk rfl ?_
     exact DL.meet (.to rfl) (.to rfl)
    ·
     intro hg22
     refine DL.gskip rfl rfl rfl rfl rfl ?_
     refine DL.gskip rfl rfl rfl rfl rfl ?_
     refine DL.gskip rfl rfl rfl rfl rfl ?_
     refine DL.gskip rfl rfl rfl rfl rfl ?_
     refine DL.gskip1 rfl rfl rfl rfl rfl ?_
     refine DL.gskip1 rfl rfl rfl rfl rfl ?_
     refine DL.q rfl Yld.pk rfl ?_
     exact DL.meet (.to rfl) (.to rfl)
    refine DL.q rfl (Yld.assign rfl) rfl ?_
    refine DL.done ?_
    refine N.next ?_
    refine W.keep (.of [4] rfl) (.of [0, 1, 102, 103, 105, 140] rfl) ?_
    refine W.ret ?_
    exact N.retBy [1] (.cons (.tmp rfl) .nil) rfl rfl rfl rfl ⟨by rw [hrl]; rfl, rfl⟩
  ·
   refine DL.one rfl (Eff.alloc 105 zc176) rfl (by rintro _ _ ⟨b5, rfl, rfl⟩; repeat (first | exact .nil | refine .cons rfl ?_)) ?_
   rintro _ _ ⟨b5, rfl, rfl⟩
   refine DL.one rfl (Eff.call ent129 [] [140] .nil forms_ct rfl rfl rfl rfl (by rintro _ _ ⟨_, _, _, _, _, rfl⟩; rfl)) rfl (by rintro _ _ ⟨_, ⟨bm, esm, ckm, rfl, hMf, rfl⟩, rfl⟩; repeat (first | exact .nil | refine .cons rfl ?_)) ?_
   rintro _ _ ⟨_, ⟨bm, esm, ckm, rfl, hMf, rfl⟩, rfl⟩
   refine DL.one rfl (Yld.eff (Yld.eq (v' := .tuple [.agg [.func (.func F1) [].toArray [].toArray, .func (.func F2) [].toArray [].toArray].toArray, .bool true].toArray) (Yld.lookupOk (c := 140) Tryz.underlying178 (keyInt Tryz.underlying3) zv176 rfl rfl rfl (by assumption)) (by rw [hlk]; rfl))) rfl (by rintro _ _ ⟨rfl, rfl⟩; repeat (first | exact .nil | refine .cons rfl ?_)) ?_
   rintro _ _ ⟨rfl, rfl⟩
   refine DL.q rfl (Yld.move rfl) rfl ?_
   refine DL.q rfl (Yld.extract rfl rfl) rfl ?_
   refine DL.q rfl (Yld.extract rfl rfl) rfl ?_
   refine DL.one0 rfl (Eff.storeS (c := 105) _ sz176 rfl rfl rfl rfl rfl rfl rfl (by (try simp only [putAt, List.take, List.drop, List.nil_append, List.cons_append, List.append_nil, List.length_cons, List.length_nil, Nat.add_zero, Nat.zero_add, Nat.reduceAdd]); rfl)) (by rintro _ _ rfl; repeat (first | exact .nil | refine .cons rfl ?_)) ?_
   rintro _ _ rfl
   refine DL.q rfl (Yld.assign rfl) rfl ?_
   refine DL.done ?_
   refine N.next ?_
   refine W.keep (.of [2, 3, 5, 6] rfl) (.of [0, 1, 102, 103, 105, 140] rfl) ?_
   refine W.seq ?_
   refine W.draw (.q 0 (.q 1 (.q 2 (.q 3 (.q 4 (.q 5 (.one 6 (.q 7 (.q 8 (.q 9 (.q 10 (.q 11 (.q 12 (.one 13 (.one 14 (.q 15 (.q 16 .done))))))))))))))))) (.of [0, 102, 103, 105, 140] rfl) mix (by kernel_rfl) (by kernel_rfl) ?_
   refine DL.q rfl (Yld.move rfl) rfl ?_
   refine DL.q rfl (Yld.move rfl) rfl ?_
   first | refine DL.as (t := 15) rfl (boolT (by first | assumption | omega | (simp; done))) ?_ | refine DL.as (t := 15) (v := .bool true) rfl rfl ?_
   refine DL.gq rfl rfl rfl (Yld.fieldAddr fo176_0 rfl) rfl ?_
   refine DL.gq rfl rfl rfl (Yld.ld 105 Tryz.underlying99 rfl rfl rfl rfl) rfl ?_
   refine DL.gq rfl rfl rfl (Yld.ldW 102 Tryz.underlying29 sz29 rfl rfl rfl rfl) rfl ?_
   refine DL.gq rfl rfl rfl (Yld.ldW 103 Tryz.underlying97 sz97 rfl rfl rfl rfl) rfl ?_
   refine DL.gone rfl rfl rfl (Eff.callV hent1 [1] [1] rfl (.cons rfl (.cons rfl .nil)) h1 rfl rfl rfl rfl (by rintro _ _ ⟨_, rfl⟩; rfl)) rfl (by rintro _ _ ⟨_, ⟨rfl, rfl⟩, rfl⟩; repeat (first | exact .nil | refine .cons rfl ?_)) ?_
   rintro _ _ ⟨_, ⟨rfl, rfl⟩, rfl⟩
   refine DL.q rfl Yld.pk rfl ?_
   refine DL.q rfl (Yld.move rfl) rfl ?_
   refine' DL.and (t := 22) (d := 29) 7 rfl (.of [2, 3, 5, 6, 14, 15, 16, 17, 18, 19, 20, 21] rfl) (.of [0, 1, 102, 103, 105, 140] rfl) ?_ ?_ ?_
   rotate_left 1
   ·
    intro hg22
    refine DL.gq rfl rfl rfl (Yld.ldW 103 Tryz.underlying97 sz97 rfl rfl rfl rfl) rfl ?_
    refine DL.gq rfl rfl rfl (Yld.fieldAddr fo176_1 rfl) rfl ?_
    refine DL.gq rfl rfl rfl (Yld.ld 105 Tryz.underlying174 rfl rfl rfl rfl) rfl ?_
    refine DL.gq rfl rfl rfl (Yld.ldW 103 Tryz.underlying97 sz97 rfl rfl rfl rfl) rfl ?_
    refine DL.gone rfl rfl rfl (Eff.callV hent2 [] [] rfl (.cons rfl .nil) h2 rfl rfl rfl rfl (by rintro _ _ ⟨_, rfl⟩; rfl)) rfl (by rintro _ _ ⟨_, ⟨rfl, rfl⟩, rfl⟩; repeat (first | exact .nil | refine .cons rfl ?_)) ?_
    rintro _ _ ⟨_, ⟨rfl, rfl⟩, rfl⟩
    refine DL.gone rfl rfl rfl (Eff.call ent130 [1] [1] (.cons rfl (.cons rfl .nil)) (sameR_ct x on H1 hms hso) rfl rfl rfl rfl (by rintro _ _ ⟨_, rfl⟩; rfl)) rfl (by rintro _ _ ⟨_, ⟨rfl, rfl⟩, rfl⟩; repeat (first | exact .nil | refine .cons rfl ?_)) ?_
    rintro _ _ ⟨_, ⟨rfl, rfl⟩, rfl⟩
    refine DL.q rfl Yld.pk rfl ?_
    exact DL.meet (.to rfl) (.to rfl)
   ·
    intro hg22
    refine DL.gskip rfl rfl rfl rfl rfl ?_
    refine DL.gskip rfl rfl rfl rfl rfl ?_
    refine DL.gskip rfl rfl rfl rfl rfl ?_
    refine DL.gskip rfl rfl rfl rfl rfl ?_
    refine DL.gskip1 rfl rfl rfl rfl rfl ?_
    refine DL.gskip1 rfl rfl rfl rfl rfl ?_
    refine DL.q rfl Yld.pk rfl ?_
    exact DL.meet (.to rfl) (.to rfl)
   refine DL.q rfl (Yld.assign rfl) rfl ?_
   refine DL.done ?_
   refine N.next ?_
   refine W.keep (.of [4] rfl) (.of [0, 1, 102, 103, 105, 140] rfl) ?_
   refine W.ret ?_
   exact N.retBy [1] (.cons (.tmp rfl) .nil) rfl rfl rfl rfl ⟨by rw [hrl]; rfl, rfl⟩
set_option maxRecDepth 100000 in
set_option maxHeartbeats 3200000 in
theorem validRule7_ct (m : Md) (H1 : PH) (hM : m.In H1) (x : Rl) (hms : Sl H1 x.pm x.cm 1 (iz x.ms)) (hk : ¬ (0 ≤ x.kd ∧ x.kd ≤ 6)) : Ct Tryz.prog 75 [.agg [.slice m.psi m.si.length m.csi, .slice m.pfe m.fe.length m.cfe, .slice m.prk m.rk.length m.crk, .slice m.pmc m.mc.length m.cmc, .slice m.pln m.ln.length m.cln, .slice m.pis m.is.length m.cis, .int .i64 m.da, .int .i64 m.sl, .int .i64 m.re, .int .i64 m.fa, .slice m.prl m.rl.length m.crl].toArray, .agg [.int .i64 x.kd, .int .i64 x.it, .int .i64 x.ot, .int .i64 x.n, .int .i64 x.bq, .bool x.al, .slice x.pm x.ms.length x.cm].toArray] [H1] (fun v Hs => v = .bool (rlB m x) ∧ Hs = [H1]) := by
  refine Ct.body Tryz.func75 rfl Tryz.ntmps75 rfl ?_
  intro E F
  have hrl : rlB m x = false := by unfold rlB; rw [decide_eq_false hk]; rfl
  refine W.seq (W.region ?_)
  refine RL.e (Eff.box 102 _ rfl rfl) rfl ?_
  rintro _ _ ⟨b2, rfl, rfl⟩
  refine RL.e (Eff.box 103 _ rfl rfl) rfl ?_
  rintro _ _ ⟨b3, rfl, rfl⟩
  refine RL.q (Yld.assign rfl) rfl (RL.nil (N.next ?_))
  refine W.seq ?_
  refine W.draw (.q 1 (.q 2 (.two 0 (.two 3 (.q 4 (.q 5 (.q 6 (.one 7 (.one 8 (.q 9 .done)))))) 7 (.one 3 (.q 4 (.q 5 (.q 6 (.one 8 (.q 9 .done))))))) 7 (.one 0 (.one 3 (.q 4 (.q 5 (.q 6 (.one 8 (.q 9 .done)))))))))) (.of [0, 1, 102, 103] rfl) mix (by kernel_rfl) (by kernel_rfl) ?_
  refine DL.q rfl (Yld.fieldAddr fo97_0 rfl) rfl ?_
  refine DL.q rfl (Yld.ld 103 Tryz.underlying3 rfl rfl rfl rfl) rfl ?_
  refine DL.two ?_ ?_
  ·
   refine DL.one rfl (Eff.call ent129 [] [140] .nil forms_ct rfl rfl rfl rfl (by rintro _ _ ⟨_, _, _, _, _, rfl⟩; rfl)) rfl (by rintro _ _ ⟨_, ⟨bm, esm, ckm, rfl, hMf, rfl⟩, rfl⟩; repeat (first | exact .nil | refine .cons rfl ?_)) ?_
   rintro _ _ ⟨_, ⟨bm, esm, ckm, rfl, hMf, rfl⟩, rfl⟩
   refine DL.two ?_ ?_
   ·
    refine DL.one rfl (Yld.eff (Yld.eq (v' := .tuple [.agg [.nilFunc, .nilFunc].toArray, .bool false].toArray) (Yld.lookupOk (c := 140) Tryz.underlying178 (keyInt Tryz.underlying3) zv176 rfl rfl rfl (by assumption)) (by unfold formsM; rw [mget_mset, mget_mset, mget_mset, mget_mset, mget_mset, mget_mset, mget_mset, if_neg (show ¬ (6 : Int) = x.kd by omega), if_neg (show ¬ (5 : Int) = x.kd by omega), if_neg (show ¬ (4 : Int) = x.kd by omega), if_neg (show ¬ (3 : Int) = x.kd by omega), if_neg (show ¬ (2 : Int) = x.kd by omega), if_neg (show ¬ (1 : Int) = x.kd by omega), if_neg (show ¬ (0 : Int) = x.kd by omega)]; rfl))) rfl (by rintro _ _ ⟨rfl, rfl⟩; repeat (first | exact .nil | refine .cons rfl ?_)) ?_
    rintro _ _ ⟨rfl, rfl⟩
    refine DL.q rfl (Yld.move rfl) rfl ?_
    refine DL.q rfl (Yld.extract rfl rfl) rfl ?_
    refine DL.q rfl (Yld.extract rfl rfl) rfl ?_
    refine DL.one rfl (Eff.alloc 105 zc176) rfl (by rintro _ _ ⟨b5, rfl, rfl⟩; repeat (first | exact .nil | refine .cons rfl ?_)) ?_
    rintro _ _ ⟨b5, rfl, rfl⟩
    refine DL.one0 rfl (Eff.storeS (c := 105) _ sz176 rfl rfl rfl rfl rfl rfl rfl (by (try simp only [putAt, List.take, List.drop, List.nil_append, List.cons_append, List.append_nil, List.length_cons, List.length_nil, Nat.add_zero, Nat.zero_add, Nat.reduceAdd]); rfl)) (by rintro _ _ rfl; repeat (first | exact .nil | refine .cons rfl ?_)) ?_
    rintro _ _ rfl
    refine DL.q rfl (Yld.assign rfl) rfl ?_
    refine DL.done ?_
    refine N.next ?_
    refine W.keep (.of [2, 3, 5, 6] rfl) (.of [0, 1, 102, 103, 105, 140] rfl) ?_
    refine W.seq ?_
    refine W.draw (.q 0 (.q 1 (.q 2 (.q 3 (.q 4 (.q 5 (.one 6 (.q 7 (.q 8 (.q 9 (.q 10 (.q 11 (.q 12 (.one 13 (.one 14 (.q 15 (.q 16 .done))))))))))))))))) (.of [0, 102, 103, 105, 140] rfl) mix (by kernel_rfl) (by kernel_rfl) ?_
    refine DL.q rfl (Yld.move rfl) rfl ?_
    refine DL.q rfl (Yld.move rfl) rfl ?_
    first | refine DL.as (t := 15) rfl (boolF (by first | assumption | omega | (simp; done))) ?_ | refine DL.as (t := 15) (v := .bool false) rfl rfl ?_
    refine DL.gskip rfl rfl rfl rfl rfl ?_
    refine DL.gskip rfl rfl rfl rfl rfl ?_
    refine DL.gskip rfl rfl rfl rfl rfl ?_
    refine DL.gskip rfl rfl rfl rfl rfl ?_
    refine DL.gskip1 rfl rfl rfl rfl rfl ?_
    refine DL.q rfl Yld.pk rfl ?_
    refine DL.q rfl (Yld.move rfl) rfl ?_
    first | refine DL.as (t := 22) rfl (boolF (by first | assumption | omega | (simp; done))) ?_ | refine DL.as (t := 22) (v := .bool false) rfl rfl ?_
    refine DL.gskip rfl rfl rfl rfl rfl ?_
    refine DL.gskip rfl rfl rfl rfl rfl ?_
    refine DL.gskip rfl rfl rfl rfl rfl ?_
    refine DL.gskip rfl rfl rfl rfl rfl ?_
    refine DL.gskip1 rfl rfl rfl rfl rfl ?_
    refine DL.gskip1 rfl rfl rfl rfl rfl ?_
    refine DL.q rfl Yld.pk rfl ?_
    refine DL.q rfl (Yld.assign rfl) rfl ?_
    refine DL.done ?_
    refine N.next ?_
    refine W.keep (.of [4] rfl) (.of [0, 1, 102, 103, 105, 140] rfl) ?_
    refine W.ret ?_
    exact N.retBy [1] (.cons (.tmp rfl) .nil) rfl rfl rfl rfl ⟨by rw [hrl]; rfl, rfl⟩
   ·
    refine DL.one rfl (Eff.alloc 105 zc176) rfl (by rintro _ _ ⟨b5, rfl, rfl⟩; repeat (first | exact .nil | refine .cons rfl ?_)) ?_
    rintro _ _ ⟨b5, rfl, rfl⟩
    refine DL.one rfl (Yld.eff (Yld.eq (v' := .tuple [.agg [.nilFunc, .nilFunc].toArray, .bool false].toArray) (Yld.lookupOk (c := 140) Tryz.underlying178 (keyInt Tryz.underlying3) zv176 rfl rfl rfl (by assumption)) (by unfold formsM; rw [mget_mset, mget_mset, mget_mset, mget_mset, mget_mset, mget_mset, mget_mset, if_neg (show ¬ (6 : Int) = x.kd by omega), if_neg (show ¬ (5 : Int) = x.kd by omega), if_neg (show ¬ (4 : Int) = x.kd by omega), if_neg (show ¬ (3 : Int) = x.kd by omega), if_neg (show ¬ (2 : Int) = x.kd by omega), if_neg (show ¬ (1 : Int) = x.kd by omega), if_neg (show ¬ (0 : Int) = x.kd by omega)]; rfl))) rfl (by rintro _ _ ⟨rfl, rfl⟩; repeat (first | exact .nil | refine .cons rfl ?_)) ?_
    rintro _ _ ⟨rfl, rfl⟩
    refine DL.q rfl (Yld.move rfl) rfl ?_
    refine DL.q rfl (Yld.extract rfl rfl) rfl ?_
    refine DL.q rfl (Yld.extract rfl rfl) rfl ?_
    refine DL.one0 rfl (Eff.storeS (c := 105) _ sz176 rfl rfl rfl rfl rfl rfl rfl (by (try simp only [putAt, List.take, List.drop, List.nil_append, List.cons_append, List.append_nil, List.length_cons, List.length_nil, Nat.add_zero, Nat.zero_add, Nat.reduceAdd]); rfl)) (by rintro _ _ rfl; repeat (first | exact .nil | refine .cons rfl ?_)) ?_
    rintro _ _ rfl
    refine DL.q rfl (Yld.assign rfl) rfl ?_
    refine DL.done ?_
    refine N.next ?_
    refine W.keep (.of [2, 3, 5, 6] rfl) (.of [0, 1, 102, 103, 105, 140] rfl) ?_
    refine W.seq ?_
    refine W.draw (.q 0 (.q 1 (.q 2 (.q 3 (.q 4 (.q 5 (.one 6 (.q 7 (.q 8 (.q 9 (.q 10 (.q 11 (.q 12 (.one 13 (.one 14 (.q 15 (.q 16 .done))))))))))))))))) (.of [0, 102, 103, 105, 140] rfl) mix (by kernel_rfl) (by kernel_rfl) ?_
    refine DL.q rfl (Yld.move rfl) rfl ?_
    refine DL.q rfl (Yld.move rfl) rfl ?_
    first | refine DL.as (t := 15) rfl (boolF (by first | assumption | omega | (simp; done))) ?_ | refine DL.as (t := 15) (v := .bool false) rfl rfl ?_
    refine DL.gskip rfl rfl rfl rfl rfl ?_
    refine DL.gskip rfl rfl rfl rfl rfl ?_
    refine DL.gskip rfl rfl rfl rfl rfl ?_
    refine DL.gskip rfl rfl rfl rfl rfl ?_
    refine DL.gskip1 rfl rfl rfl rfl rfl ?_
    refine DL.q rfl Yld.pk rfl ?_
    refine DL.q rfl (Yld.move rfl) rfl ?_
    first | refine DL.as (t := 22) rfl (boolF (by first | assumption | omega | (simp; done))) ?_ | refine DL.as (t := 22) (v := .bool false) rfl rfl ?_
    refine DL.gskip rfl rfl rfl rfl rfl ?_
    refine DL.gskip rfl rfl rfl rfl rfl ?_
    refine DL.gskip rfl rfl rfl rfl rfl ?_
    refine DL.gskip rfl rfl rfl rfl rfl ?_
    refine DL.gskip1 rfl rfl rfl rfl rfl ?_
    refine DL.gskip1 rfl rfl rfl rfl rfl ?_
    refine DL.q rfl Yld.pk rfl ?_
    refine DL.q rfl (Yld.assign rfl) rfl ?_
    refine DL.done ?_
    refine N.next ?_
    refine W.keep (.of [4] rfl) (.of [0, 1, 102, 103, 105, 140] rfl) ?_
    refine W.ret ?_
    exact N.retBy [1] (.cons (.tmp rfl) .nil) rfl rfl rfl rfl ⟨by rw [hrl]; rfl, rfl⟩
  ·
   refine DL.one rfl (Eff.alloc 105 zc176) rfl (by rintro _ _ ⟨b5, rfl, rfl⟩; repeat (first | exact .nil | refine .cons rfl ?_)) ?_
   rintro _ _ ⟨b5, rfl, rfl⟩
   refine DL.one rfl (Eff.call ent129 [] [140] .nil forms_ct rfl rfl rfl rfl (by rintro _ _ ⟨_, _, _, _, _, rfl⟩; rfl)) rfl (by rintro _ _ ⟨_, ⟨bm, esm, ckm, rfl, hMf, rfl⟩, rfl⟩; repeat (first | exact .nil | refine .cons rfl ?_)) ?_
   rintro _ _ ⟨_, ⟨bm, esm, ckm, rfl, hMf, rfl⟩, rfl⟩
   refine DL.one rfl (Yld.eff (Yld.eq (v' := .tuple [.agg [.nilFunc, .nilFunc].toArray, .bool false].toArray) (Yld.lookupOk (c := 140) Tryz.underlying178 (keyInt Tryz.underlying3) zv176 rfl rfl rfl (by assumption)) (by unfold formsM; rw [mget_mset, mget_mset, mget_mset, mget_mset, mget_mset, mget_mset, mget_mset, if_neg (show ¬ (6 : Int) = x.kd by omega), if_neg (show ¬ (5 : Int) = x.kd by omega), if_neg (show ¬ (4 : Int) = x.kd by omega), if_neg (show ¬ (3 : Int) = x.kd by omega), if_neg (show ¬ (2 : Int) = x.kd by omega), if_neg (show ¬ (1 : Int) = x.kd by omega), if_neg (show ¬ (0 : Int) = x.kd by omega)]; rfl))) rfl (by rintro _ _ ⟨rfl, rfl⟩; repeat (first | exact .nil | refine .cons rfl ?_)) ?_
   rintro _ _ ⟨rfl, rfl⟩
   refine DL.q rfl (Yld.move rfl) rfl ?_
   refine DL.q rfl (Yld.extract rfl rfl) rfl ?_
   refine DL.q rfl (Yld.extract rfl rfl) rfl ?_
   refine DL.one0 rfl (Eff.storeS (c := 105) _ sz176 rfl rfl rfl rfl rfl rfl rfl (by (try simp only [putAt, List.take, List.drop, List.nil_append, List.cons_append, List.append_nil, List.length_cons, List.length_nil, Nat.add_zero, Nat.zero_add, Nat.reduceAdd]); rfl)) (by rintro _ _ rfl; repeat (first | exact .nil | refine .cons rfl ?_)) ?_
   rintro _ _ rfl
   refine DL.q rfl (Yld.assign rfl) rfl ?_
   refine DL.done ?_
   refine N.next ?_
   refine W.keep (.of [2, 3, 5, 6] rfl) (.of [0, 1, 102, 103, 105, 140] rfl) ?_
   refine W.seq ?_
   refine W.draw (.q 0 (.q 1 (.q 2 (.q 3 (.q 4 (.q 5 (.one 6 (.q 7 (.q 8 (.q 9 (.q 10 (.q 11 (.q 12 (.one 13 (.one 14 (.q 15 (.q 16 .done))))))))))))))))) (.of [0, 102, 103, 105, 140] rfl) mix (by kernel_rfl) (by kernel_rfl) ?_
   refine DL.q rfl (Yld.move rfl) rfl ?_
   refine DL.q rfl (Yld.move rfl) rfl ?_
   first | refine DL.as (t := 15) rfl (boolF (by first | assumption | omega | (simp; done))) ?_ | refine DL.as (t := 15) (v := .bool false) rfl rfl ?_
   refine DL.gskip rfl rfl rfl rfl rfl ?_
   refine DL.gskip rfl rfl rfl rfl rfl ?_
   refine DL.gskip rfl rfl rfl rfl rfl ?_
   refine DL.gskip rfl rfl rfl rfl rfl ?_
   refine DL.gskip1 rfl rfl rfl rfl rfl ?_
   refine DL.q rfl Yld.pk rfl ?_
   refine DL.q rfl (Yld.move rfl) rfl ?_
   first | refine DL.as (t := 22) rfl (boolF (by first | assumption | omega | (simp; done))) ?_ | refine DL.as (t := 22) (v := .bool false) rfl rfl ?_
   refine DL.gskip rfl rfl rfl rfl rfl ?_
   refine DL.gskip rfl rfl rfl rfl rfl ?_
   refine DL.gskip rfl rfl rfl rfl rfl ?_
   refine DL.gskip rfl rfl rfl rfl rfl ?_
   refine DL.gskip1 rfl rfl rfl rfl rfl ?_
   refine DL.gskip1 rfl rfl rfl rfl rfl ?_
   refine DL.q rfl Yld.pk rfl ?_
   refine DL.q rfl (Yld.assign rfl) rfl ?_
   refine DL.done ?_
   refine N.next ?_
   refine W.keep (.of [4] rfl) (.of [0, 1, 102, 103, 105, 140] rfl) ?_
   refine W.ret ?_
   exact N.retBy [1] (.cons (.tmp rfl) .nil) rfl rfl rfl rfl ⟨by rw [hrl]; rfl, rfl⟩
theorem validRule0_ct (m : Md) (H1 : PH) (hM : m.In H1) (x : Rl) (hms : Sl H1 x.pm x.cm 1 (iz x.ms)) (hk : x.kd = 0) : Ct Tryz.prog 75 [.agg [.slice m.psi m.si.length m.csi, .slice m.pfe m.fe.length m.cfe, .slice m.prk m.rk.length m.crk, .slice m.pmc m.mc.length m.cmc, .slice m.pln m.ln.length m.cln, .slice m.pis m.is.length m.cis, .int .i64 m.da, .int .i64 m.sl, .int .i64 m.re, .int .i64 m.fa, .slice m.prl m.rl.length m.crl].toArray, .agg [.int .i64 x.kd, .int .i64 x.it, .int .i64 x.ot, .int .i64 x.n, .int .i64 x.bq, .bool x.al, .slice x.pm x.ms.length x.cm].toArray] [H1] (fun v Hs => v = .bool (rlB m x) ∧ Hs = [H1]) := by
  have hok : okV m x = (decide (InR x.it 1 m.is.length) && decide (kdOf m x.it = 0)) := by unfold okV; rw [if_pos hk]
  have hon : onlyV x = ⟨0, x.it, 0, 0, 0, false, none, [], 0⟩ := by unfold onlyV; rw [if_pos hk]
  have hrl : rlB m x = (okV m x && sameV x (onlyV x)) := by unfold rlB; rw [decide_eq_true (show 0 ≤ x.kd ∧ x.kd ≤ 6 by omega)]; rfl
  exact validRuleG_ct m H1 hM x hms 166 168 _ ⟨0, x.it, 0, 0, 0, false, none, [], 0⟩ ent166 ent168 (rok0_ct m H1 hM x hms) (ron0_ct x) (sl_nil1 H1) (by unfold formsM; rw [mget_mset, mget_mset, mget_mset, mget_mset, mget_mset, mget_mset, mget_mset]; simp [hk]) (by rw [hrl, hok, hon])
theorem validRule1_ct (m : Md) (H1 : PH) (hM : m.In H1) (x : Rl) (hms : Sl H1 x.pm x.cm 1 (iz x.ms)) (hk : x.kd = 1) : Ct Tryz.prog 75 [.agg [.slice m.psi m.si.length m.csi, .slice m.pfe m.fe.length m.cfe, .slice m.prk m.rk.length m.crk, .slice m.pmc m.mc.length m.cmc, .slice m.pln m.ln.length m.cln, .slice m.pis m.is.length m.cis, .int .i64 m.da, .int .i64 m.sl, .int .i64 m.re, .int .i64 m.fa, .slice m.prl m.rl.length m.crl].toArray, .agg [.int .i64 x.kd, .int .i64 x.it, .int .i64 x.ot, .int .i64 x.n, .int .i64 x.bq, .bool x.al, .slice x.pm x.ms.length x.cm].toArray] [H1] (fun v Hs => v = .bool (rlB m x) ∧ Hs = [H1]) := by
  have hok : okV m x = (decide (InR x.it 1 m.is.length) && decide (InR x.n 0 16)) := by unfold okV; rw [if_neg (show ¬ x.kd = 0 by omega), if_pos hk]
  have hon : onlyV x = ⟨0, x.it, 0, x.n, 0, x.al, none, [], 0⟩ := by unfold onlyV; rw [if_neg (show ¬ x.kd = 0 by omega), if_pos hk]
  have hrl : rlB m x = (okV m x && sameV x (onlyV x)) := by unfold rlB; rw [decide_eq_true (show 0 ≤ x.kd ∧ x.kd ≤ 6 by omega)]; rfl
  exact validRuleG_ct m H1 hM x hms 169 170 _ ⟨0, x.it, 0, x.n, 0, x.al, none, [], 0⟩ ent169 ent170 (rok1_ct m H1 hM x hms) (ron1_ct x) (sl_nil1 H1) (by unfold formsM; rw [mget_mset, mget_mset, mget_mset, mget_mset, mget_mset, mget_mset, mget_mset]; simp [hk]) (by rw [hrl, hok, hon])
theorem validRule2_ct (m : Md) (H1 : PH) (hM : m.In H1) (x : Rl) (hms : Sl H1 x.pm x.cm 1 (iz x.ms)) (hk : x.kd = 2) : Ct Tryz.prog 75 [.agg [.slice m.psi m.si.length m.csi, .slice m.pfe m.fe.length m.cfe, .slice m.prk m.rk.length m.crk, .slice m.pmc m.mc.length m.cmc, .slice m.pln m.ln.length m.cln, .slice m.pis m.is.length m.cis, .int .i64 m.da, .int .i64 m.sl, .int .i64 m.re, .int .i64 m.fa, .slice m.prl m.rl.length m.crl].toArray, .agg [.int .i64 x.kd, .int .i64 x.it, .int .i64 x.ot, .int .i64 x.n, .int .i64 x.bq, .bool x.al, .slice x.pm x.ms.length x.cm].toArray] [H1] (fun v Hs => v = .bool (rlB m x) ∧ Hs = [H1]) := by
  have hok : okV m x = (decide (InR x.it 1 m.is.length) && decide (InR x.n 0 16) && decide (x.bq ∈ [(2 : Int), 3, 4])) := by unfold okV; rw [if_neg (show ¬ x.kd = 0 by omega), if_neg (show ¬ x.kd = 1 by omega), if_pos hk]
  have hon : onlyV x = ⟨0, x.it, 0, x.n, x.bq, false, none, [], 0⟩ := by unfold onlyV; rw [if_neg (show ¬ x.kd = 0 by omega), if_neg (show ¬ x.kd = 1 by omega), if_pos hk]
  have hrl : rlB m x = (okV m x && sameV x (onlyV x)) := by unfold rlB; rw [decide_eq_true (show 0 ≤ x.kd ∧ x.kd ≤ 6 by omega)]; rfl
  exact validRuleG_ct m H1 hM x hms 171 172 _ ⟨0, x.it, 0, x.n, x.bq, false, none, [], 0⟩ ent171 ent172 (rok2_ct m H1 hM x hms) (ron2_ct x) (sl_nil1 H1) (by unfold formsM; rw [mget_mset, mget_mset, mget_mset, mget_mset, mget_mset, mget_mset, mget_mset]; simp [hk]) (by rw [hrl, hok, hon])
theorem validRule3_ct (m : Md) (H1 : PH) (hM : m.In H1) (x : Rl) (hms : Sl H1 x.pm x.cm 1 (iz x.ms)) (hk : x.kd = 3) : Ct Tryz.prog 75 [.agg [.slice m.psi m.si.length m.csi, .slice m.pfe m.fe.length m.cfe, .slice m.prk m.rk.length m.crk, .slice m.pmc m.mc.length m.cmc, .slice m.pln m.ln.length m.cln, .slice m.pis m.is.length m.cis, .int .i64 m.da, .int .i64 m.sl, .int .i64 m.re, .int .i64 m.fa, .slice m.prl m.rl.length m.crl].toArray, .agg [.int .i64 x.kd, .int .i64 x.it, .int .i64 x.ot, .int .i64 x.n, .int .i64 x.bq, .bool x.al, .slice x.pm x.ms.length x.cm].toArray] [H1] (fun v Hs => v = .bool (rlB m x) ∧ Hs = [H1]) := by
  have hok : okV m x = (decide (InR x.it 1 m.is.length) && pB (MsV m.mc.length x.ms)) := by unfold okV; rw [if_neg (show ¬ x.kd = 0 by omega), if_neg (show ¬ x.kd = 1 by omega), if_neg (show ¬ x.kd = 2 by omega), if_pos hk]
  have hon : onlyV x = ⟨0, x.it, 0, 0, 0, false, x.pm, x.ms, x.cm⟩ := by unfold onlyV; rw [if_neg (show ¬ x.kd = 0 by omega), if_neg (show ¬ x.kd = 1 by omega), if_neg (show ¬ x.kd = 2 by omega), if_pos hk]
  have hrl : rlB m x = (okV m x && sameV x (onlyV x)) := by unfold rlB; rw [decide_eq_true (show 0 ≤ x.kd ∧ x.kd ≤ 6 by omega)]; rfl
  exact validRuleG_ct m H1 hM x hms 173 174 _ ⟨0, x.it, 0, 0, 0, false, x.pm, x.ms, x.cm⟩ ent173 ent174 (rok3_ct m H1 hM x hms) (ron3_ct x) hms (by unfold formsM; rw [mget_mset, mget_mset, mget_mset, mget_mset, mget_mset, mget_mset, mget_mset]; simp [hk]) (by rw [hrl, hok, hon])
theorem validRule4_ct (m : Md) (H1 : PH) (hM : m.In H1) (x : Rl) (hms : Sl H1 x.pm x.cm 1 (iz x.ms)) (hk : x.kd = 4) : Ct Tryz.prog 75 [.agg [.slice m.psi m.si.length m.csi, .slice m.pfe m.fe.length m.cfe, .slice m.prk m.rk.length m.crk, .slice m.pmc m.mc.length m.cmc, .slice m.pln m.ln.length m.cln, .slice m.pis m.is.length m.cis, .int .i64 m.da, .int .i64 m.sl, .int .i64 m.re, .int .i64 m.fa, .slice m.prl m.rl.length m.crl].toArray, .agg [.int .i64 x.kd, .int .i64 x.it, .int .i64 x.ot, .int .i64 x.n, .int .i64 x.bq, .bool x.al, .slice x.pm x.ms.length x.cm].toArray] [H1] (fun v Hs => v = .bool (rlB m x) ∧ Hs = [H1]) := by
  have hok : okV m x = (decide (InR x.it 1 m.is.length) && decide (InR x.ot 1 m.is.length) && decide (x.it ≠ x.ot)) := by unfold okV; rw [if_neg (show ¬ x.kd = 0 by omega), if_neg (show ¬ x.kd = 1 by omega), if_neg (show ¬ x.kd = 2 by omega), if_neg (show ¬ x.kd = 3 by omega), if_pos hk]
  have hon : onlyV x = ⟨0, x.it, x.ot, 0, 0, false, none, [], 0⟩ := by unfold onlyV; rw [if_neg (show ¬ x.kd = 0 by omega), if_neg (show ¬ x.kd = 1 by omega), if_neg (show ¬ x.kd = 2 by omega), if_neg (show ¬ x.kd = 3 by omega), if_pos hk]
  have hrl : rlB m x = (okV m x && sameV x (onlyV x)) := by unfold rlB; rw [decide_eq_true (show 0 ≤ x.kd ∧ x.kd ≤ 6 by omega)]; rfl
  exact validRuleG_ct m H1 hM x hms 175 176 _ ⟨0, x.it, x.ot, 0, 0, false, none, [], 0⟩ ent175 ent176 (rok4_ct m H1 hM x hms) (ron4_ct x) (sl_nil1 H1) (by unfold formsM; rw [mget_mset, mget_mset, mget_mset, mget_mset, mget_mset, mget_mset, mget_mset]; simp [hk]) (by rw [hrl, hok, hon])
theorem validRule5_ct (m : Md) (H1 : PH) (hM : m.In H1) (x : Rl) (hms : Sl H1 x.pm x.cm 1 (iz x.ms)) (hk : x.kd = 5) : Ct Tryz.prog 75 [.agg [.slice m.psi m.si.length m.csi, .slice m.pfe m.fe.length m.cfe, .slice m.prk m.rk.length m.crk, .slice m.pmc m.mc.length m.cmc, .slice m.pln m.ln.length m.cln, .slice m.pis m.is.length m.cis, .int .i64 m.da, .int .i64 m.sl, .int .i64 m.re, .int .i64 m.fa, .slice m.prl m.rl.length m.crl].toArray, .agg [.int .i64 x.kd, .int .i64 x.it, .int .i64 x.ot, .int .i64 x.n, .int .i64 x.bq, .bool x.al, .slice x.pm x.ms.length x.cm].toArray] [H1] (fun v Hs => v = .bool (rlB m x) ∧ Hs = [H1]) := by
  have hok : okV m x = (decide (InR x.n 0 200)) := by unfold okV; rw [if_neg (show ¬ x.kd = 0 by omega), if_neg (show ¬ x.kd = 1 by omega), if_neg (show ¬ x.kd = 2 by omega), if_neg (show ¬ x.kd = 3 by omega), if_neg (show ¬ x.kd = 4 by omega), if_pos hk]
  have hon : onlyV x = ⟨0, 0, 0, x.n, 0, false, none, [], 0⟩ := by unfold onlyV; rw [if_neg (show ¬ x.kd = 0 by omega), if_neg (show ¬ x.kd = 1 by omega), if_neg (show ¬ x.kd = 2 by omega), if_neg (show ¬ x.kd = 3 by omega), if_neg (show ¬ x.kd = 4 by omega), if_pos hk]
  have hrl : rlB m x = (okV m x && sameV x (onlyV x)) := by unfold rlB; rw [decide_eq_true (show 0 ≤ x.kd ∧ x.kd ≤ 6 by omega)]; rfl
  exact validRuleG_ct m H1 hM x hms 177 178 _ ⟨0, 0, 0, x.n, 0, false, none, [], 0⟩ ent177 ent178 (rok5_ct m H1 hM x hms) (ron5_ct x) (sl_nil1 H1) (by unfold formsM; rw [mget_mset, mget_mset, mget_mset, mget_mset, mget_mset, mget_mset, mget_mset]; simp [hk]) (by rw [hrl, hok, hon])
theorem validRule6_ct (m : Md) (H1 : PH) (hM : m.In H1) (x : Rl) (hms : Sl H1 x.pm x.cm 1 (iz x.ms)) (hk : x.kd = 6) : Ct Tryz.prog 75 [.agg [.slice m.psi m.si.length m.csi, .slice m.pfe m.fe.length m.cfe, .slice m.prk m.rk.length m.crk, .slice m.pmc m.mc.length m.cmc, .slice m.pln m.ln.length m.cln, .slice m.pis m.is.length m.cis, .int .i64 m.da, .int .i64 m.sl, .int .i64 m.re, .int .i64 m.fa, .slice m.prl m.rl.length m.crl].toArray, .agg [.int .i64 x.kd, .int .i64 x.it, .int .i64 x.ot, .int .i64 x.n, .int .i64 x.bq, .bool x.al, .slice x.pm x.ms.length x.cm].toArray] [H1] (fun v Hs => v = .bool (rlB m x) ∧ Hs = [H1]) := by
  have hok : okV m x = (decide (InR x.it 1 m.is.length) && decide (InR x.n 0 16)) := by unfold okV; rw [if_neg (show ¬ x.kd = 0 by omega), if_neg (show ¬ x.kd = 1 by omega), if_neg (show ¬ x.kd = 2 by omega), if_neg (show ¬ x.kd = 3 by omega), if_neg (show ¬ x.kd = 4 by omega), if_neg (show ¬ x.kd = 5 by omega)]
  have hon : onlyV x = ⟨0, x.it, 0, x.n, 0, false, none, [], 0⟩ := by unfold onlyV; rw [if_neg (show ¬ x.kd = 0 by omega), if_neg (show ¬ x.kd = 1 by omega), if_neg (show ¬ x.kd = 2 by omega), if_neg (show ¬ x.kd = 3 by omega), if_neg (show ¬ x.kd = 4 by omega), if_neg (show ¬ x.kd = 5 by omega)]
  have hrl : rlB m x = (okV m x && sameV x (onlyV x)) := by unfold rlB; rw [decide_eq_true (show 0 ≤ x.kd ∧ x.kd ≤ 6 by omega)]; rfl
  exact validRuleG_ct m H1 hM x hms 179 180 _ ⟨0, x.it, 0, x.n, 0, false, none, [], 0⟩ ent179 ent180 (rok6_ct m H1 hM x hms) (ron6_ct x) (sl_nil1 H1) (by unfold formsM; rw [mget_mset, mget_mset, mget_mset, mget_mset, mget_mset, mget_mset, mget_mset]; simp [hk]) (by rw [hrl, hok, hon])
theorem validRule_ct (m : Md) (H1 : PH) (hM : m.In H1) (x : Rl) (hms : Sl H1 x.pm x.cm 1 (iz x.ms)) : Ct Tryz.prog 75 [.agg [.slice m.psi m.si.length m.csi, .slice m.pfe m.fe.length m.cfe, .slice m.prk m.rk.length m.crk, .slice m.pmc m.mc.length m.cmc, .slice m.pln m.ln.length m.cln, .slice m.pis m.is.length m.cis, .int .i64 m.da, .int .i64 m.sl, .int .i64 m.re, .int .i64 m.fa, .slice m.prl m.rl.length m.crl].toArray, .agg [.int .i64 x.kd, .int .i64 x.it, .int .i64 x.ot, .int .i64 x.n, .int .i64 x.bq, .bool x.al, .slice x.pm x.ms.length x.cm].toArray] [H1] (fun v Hs => v = .bool (rlB m x) ∧ Hs = [H1]) := by
  by_cases h0 : x.kd = 0
  · exact validRule0_ct m H1 hM x hms h0
  by_cases h1 : x.kd = 1
  · exact validRule1_ct m H1 hM x hms h1
  by_cases h2 : x.kd = 2
  · exact validRule2_ct m H1 hM x hms h2
  by_cases h3 : x.kd = 3
  · exact validRule3_ct m H1 hM x hms h3
  by_cases h4 : x.kd = 4
  · exact validRule4_ct m H1 hM x hms h4
  by_cases h5 : x.kd = 5
  · exact validRule5_ct m H1 hM x hms h5
  by_cases h6 : x.kd = 6
  · exact validRule6_ct m H1 hM x hms h6
  exact validRule7_ct m H1 hM x hms (by omega)
end Go.Proofs.YtboapdcmaeojgaaGreatDoor
namespace Go.Proofs.YtboapdcmaeojgaaGreatDoor
open SL Cat
set_option linter.unusedVariables false
set_option linter.unusedSimpArgs false
theorem fo93_0 : fieldOff Tryz.prog 93 0 = some 0 := by kernel_rfl
theorem fo95_0 : fieldOff Tryz.prog 95 0 = some 0 := by kernel_rfl
theorem fo64_0 : fieldOff Tryz.prog 64 0 = some 0 := by kernel_rfl
theorem ent162 : Ent Tryz.prog 162 := ⟨_, _, Tryz.func162, by kernel_rfl, rfl⟩
theorem ent152 : Ent Tryz.prog 152 := ⟨_, _, Tryz.func152, by kernel_rfl, rfl⟩
theorem ent153 : Ent Tryz.prog 153 := ⟨_, _, Tryz.func153, by kernel_rfl, rfl⟩
theorem ent154 : Ent Tryz.prog 154 := ⟨_, _, Tryz.func154, by kernel_rfl, rfl⟩
theorem ent155 : Ent Tryz.prog 155 := ⟨_, _, Tryz.func155, by kernel_rfl, rfl⟩
theorem ent156 : Ent Tryz.prog 156 := ⟨_, _, Tryz.func156, by kernel_rfl, rfl⟩
theorem ent157 : Ent Tryz.prog 157 := ⟨_, _, Tryz.func157, by kernel_rfl, rfl⟩
theorem ent158 : Ent Tryz.prog 158 := ⟨_, _, Tryz.func158, by kernel_rfl, rfl⟩
theorem ent159 : Ent Tryz.prog 159 := ⟨_, _, Tryz.func159, by kernel_rfl, rfl⟩
theorem ent160 : Ent Tryz.prog 160 := ⟨_, _, Tryz.func160, by kernel_rfl, rfl⟩
theorem ent161 : Ent Tryz.prog 161 := ⟨_, _, Tryz.func161, by kernel_rfl, rfl⟩
theorem ent118 : Ent Tryz.prog 118 := ⟨_, _, Tryz.func118, by kernel_rfl, rfl⟩
theorem zc9 : zc Tryz.prog 9 [.string .empty] := (by kernel_rfl : ((Tryz.prog.info? 9).bind (·.zero)).map (fun v => v.cells.toList) = some [.string .empty])
theorem el9 : el Tryz.prog 9 1 16 := .mk (by kernel_rfl)
theorem sz22 : sz Tryz.prog 22 1 := (by kernel_rfl : (Tryz.prog.info? 22).map (·.size) = some 1)
theorem lay203 : layS Tryz.prog 203 = some ([.int .i64 0, .nilFunc, .nilFunc], [(0, 1), (1, 1), (2, 1)]) := by kernel_rfl
theorem sz203 : sz Tryz.prog 203 3 := (by kernel_rfl : (Tryz.prog.info? 203).map (·.size) = some 3)
theorem zc203 : zc Tryz.prog 203 [.int .i64 0, .nilFunc, .nilFunc] := (by kernel_rfl : ((Tryz.prog.info? 203).bind (·.zero)).map (fun v => v.cells.toList) = some [.int .i64 0, .nilFunc, .nilFunc])
theorem fo203_0 : fieldOff Tryz.prog 203 0 = some 0 := by kernel_rfl
theorem fo203_1 : fieldOff Tryz.prog 203 1 = some 1 := by kernel_rfl
theorem fo203_2 : fieldOff Tryz.prog 203 2 = some 2 := by kernel_rfl
theorem zc22 : zc Tryz.prog 22 [.slice none 0 0] := (by kernel_rfl : ((Tryz.prog.info? 22).bind (·.zero)).map (fun v => v.cells.toList) = some [.slice none 0 0])
theorem ent117 : Ent Tryz.prog 117 := ⟨_, _, Tryz.func117, by kernel_rfl, rfl⟩
set_option maxRecDepth 100000 in
set_option maxHeartbeats 400000 in
theorem each1_ct (m : Md) (H1 : PH) (hM : m.In H1) (b : Nat) (i : Nat) (x : Ky) (hx : m.si[i]? = some x) : Ct Tryz.prog 152 [.int .i64 i, .pointer (some ⟨b, 0, none⟩)] [H1, single b (.cells [.slice m.psi m.si.length m.csi, .slice m.pfe m.fe.length m.cfe, .slice m.prk m.rk.length m.crk, .slice m.pmc m.mc.length m.cmc, .slice m.pln m.ln.length m.cln, .slice m.pis m.is.length m.cis, .int .i64 m.da, .int .i64 m.sl, .int .i64 m.re, .int .i64 m.fa, .slice m.prl m.rl.length m.crl].toArray 29 (0, 0))] (fun v Hs => v = .string x ∧ Hs = [H1, single b (.cells [.slice m.psi m.si.length m.csi, .slice m.pfe m.fe.length m.cfe, .slice m.prk m.rk.length m.crk, .slice m.pmc m.mc.length m.cmc, .slice m.pln m.ln.length m.cln, .slice m.pis m.is.length m.cis, .int .i64 m.da, .int .i64 m.sl, .int .i64 m.re, .int .i64 m.fa, .slice m.prl m.rl.length m.crl].toArray 29 (0, 0))]) := by
  refine Ct.body Tryz.func152 rfl Tryz.ntmps152 rfl ?_
  intro E F
  have hSl := hM.si
  have hmx := hSl.len_le
  simp only [tz_len, List.length_map, maxLen] at hmx
  have hl := tz_get hx
  have hlt := (List.getElem?_eq_some_iff.1 hx).1
  refine W.seq (W.region ?_)
  refine RL.q (Yld.assign rfl) rfl (RL.nil (N.next ?_))
  refine W.seq (W.region ?_)
  refine RL.q (Yld.fieldAddr fo29_0 rfl) rfl ?_
  refine RL.q (Yld.ld 2 Tryz.underlying22 rfl rfl rfl rfl) rfl ?_
  refine RL.q (Yld.move rfl) rfl ?_
  refine RL.q (Yld.ixr Tryz.underlying22 sz9 rfl rfl) rfl ?_
  refine RL.q (by first | exact (by first | exact Yld.loadRow1 (cl := 1) Tryz.underlying9 rfl rfl rfl (by first | assumption | exact Own.sl (by assumption)) (by assumption) | exact Yld.loadRow1 (cl := 2) Tryz.underlying9 rfl rfl rfl (by first | assumption | exact Own.sl (by assumption)) (by assumption)) | exact (by first | exact Yld.lrF 1 0 Tryz.underlying9 rfl rfl rfl rfl | exact Yld.lrF 2 0 Tryz.underlying9 rfl rfl rfl rfl)) rfl ?_
  refine RL.q (Yld.assign rfl) rfl (RL.nil (N.next ?_))
  refine W.keep (.of [3] rfl) (.of [0, 1, 2] rfl) ?_
  refine W.ret ?_
  exact N.retBy [1, 2] (.cons (.tmp rfl) .nil) rfl rfl rfl rfl ⟨rfl, rfl⟩
set_option maxRecDepth 100000 in
set_option maxHeartbeats 400000 in
theorem each3_ct (m : Md) (H1 : PH) (hM : m.In H1) (b : Nat) (i : Nat) (x : Ky) (hx : m.fe[i]? = some x) : Ct Tryz.prog 154 [.int .i64 i, .pointer (some ⟨b, 0, none⟩)] [H1, single b (.cells [.slice m.psi m.si.length m.csi, .slice m.pfe m.fe.length m.cfe, .slice m.prk m.rk.length m.crk, .slice m.pmc m.mc.length m.cmc, .slice m.pln m.ln.length m.cln, .slice m.pis m.is.length m.cis, .int .i64 m.da, .int .i64 m.sl, .int .i64 m.re, .int .i64 m.fa, .slice m.prl m.rl.length m.crl].toArray 29 (0, 0))] (fun v Hs => v = .string x ∧ Hs = [H1, single b (.cells [.slice m.psi m.si.length m.csi, .slice m.pfe m.fe.length m.cfe, .slice m.prk m.rk.length m.crk, .slice m.pmc m.mc.length m.cmc, .slice m.pln m.ln.length m.cln, .slice m.pis m.is.length m.cis, .int .i64 m.da, .int .i64 m.sl, .int .i64 m.re, .int .i64 m.fa, .slice m.prl m.rl.length m.crl].toArray 29 (0, 0))]) := by
  refine Ct.body Tryz.func154 rfl Tryz.ntmps154 rfl ?_
  intro E F
  have hSl := hM.fe
  have hmx := hSl.len_le
  simp only [tz_len, List.length_map, maxLen] at hmx
  have hl := tz_get hx
  have hlt := (List.getElem?_eq_some_iff.1 hx).1
  refine W.seq (W.region ?_)
  refine RL.q (Yld.assign rfl) rfl (RL.nil (N.next ?_))
  refine W.seq (W.region ?_)
  refine RL.q (Yld.fieldAddr fo29_1 rfl) rfl ?_
  refine RL.q (Yld.ld 2 Tryz.underlying22 rfl rfl rfl rfl) rfl ?_
  refine RL.q (Yld.move rfl) rfl ?_
  refine RL.q (Yld.ixr Tryz.underlying22 sz9 rfl rfl) rfl ?_
  refine RL.q (by first | exact (by first | exact Yld.loadRow1 (cl := 1) Tryz.underlying9 rfl rfl rfl (by first | assumption | exact Own.sl (by assumption)) (by assumption) | exact Yld.loadRow1 (cl := 2) Tryz.underlying9 rfl rfl rfl (by first | assumption | exact Own.sl (by assumption)) (by assumption)) | exact (by first | exact Yld.lrF 1 0 Tryz.underlying9 rfl rfl rfl rfl | exact Yld.lrF 2 0 Tryz.underlying9 rfl rfl rfl rfl)) rfl ?_
  refine RL.q (Yld.assign rfl) rfl (RL.nil (N.next ?_))
  refine W.keep (.of [3] rfl) (.of [0, 1, 2] rfl) ?_
  refine W.ret ?_
  exact N.retBy [1, 2] (.cons (.tmp rfl) .nil) rfl rfl rfl rfl ⟨rfl, rfl⟩
set_option maxRecDepth 100000 in
set_option maxHeartbeats 400000 in
theorem each5_ct (m : Md) (H1 : PH) (hM : m.In H1) (b : Nat) (i : Nat) (x : Rk) (hx : m.rk[i]? = some x) : Ct Tryz.prog 156 [.int .i64 i, .pointer (some ⟨b, 0, none⟩)] [H1, single b (.cells [.slice m.psi m.si.length m.csi, .slice m.pfe m.fe.length m.cfe, .slice m.prk m.rk.length m.crk, .slice m.pmc m.mc.length m.cmc, .slice m.pln m.ln.length m.cln, .slice m.pis m.is.length m.cis, .int .i64 m.da, .int .i64 m.sl, .int .i64 m.re, .int .i64 m.fa, .slice m.prl m.rl.length m.crl].toArray 29 (0, 0))] (fun v Hs => v = .string x.nm ∧ Hs = [H1, single b (.cells [.slice m.psi m.si.length m.csi, .slice m.pfe m.fe.length m.cfe, .slice m.prk m.rk.length m.crk, .slice m.pmc m.mc.length m.cmc, .slice m.pln m.ln.length m.cln, .slice m.pis m.is.length m.cis, .int .i64 m.da, .int .i64 m.sl, .int .i64 m.re, .int .i64 m.fa, .slice m.prl m.rl.length m.crl].toArray 29 (0, 0))]) := by
  refine Ct.body Tryz.func156 rfl Tryz.ntmps156 rfl ?_
  intro E F
  have hSl := hM.rk
  have hmx := hSl.len_le
  simp only [tz_len, List.length_map, maxLen] at hmx
  have hl : (m.rk.map Rk.c)[i]? = some x.c := by simp [hx]
  have hlt := (List.getElem?_eq_some_iff.1 hx).1
  refine W.seq (W.region ?_)
  refine RL.q (Yld.assign rfl) rfl (RL.nil (N.next ?_))
  refine W.seq (W.region ?_)
  refine RL.q (Yld.fieldAddr fo29_2 rfl) rfl ?_
  refine RL.q (Yld.ld 2 Tryz.underlying23 rfl rfl rfl rfl) rfl ?_
  refine RL.q (Yld.move rfl) rfl ?_
  refine RL.q (Yld.ixr Tryz.underlying23 sz93 rfl rfl) rfl ?_
  refine RL.q (Yld.fieldAddr fo93_0 rfl) rfl ?_
  refine RL.q (by first | exact (by first | exact Yld.loadRow1 (cl := 1) Tryz.underlying9 rfl rfl rfl (by first | assumption | exact Own.sl (by assumption)) (by assumption) | exact Yld.loadRow1 (cl := 2) Tryz.underlying9 rfl rfl rfl (by first | assumption | exact Own.sl (by assumption)) (by assumption)) | exact (by first | exact Yld.lrF 1 0 Tryz.underlying9 rfl rfl rfl rfl | exact Yld.lrF 2 0 Tryz.underlying9 rfl rfl rfl rfl)) rfl ?_
  refine RL.q (Yld.assign rfl) rfl (RL.nil (N.next ?_))
  refine W.keep (.of [3] rfl) (.of [0, 1, 2] rfl) ?_
  refine W.ret ?_
  exact N.retBy [1, 2] (.cons (.tmp rfl) .nil) rfl rfl rfl rfl ⟨rfl, rfl⟩
set_option maxRecDepth 100000 in
set_option maxHeartbeats 400000 in
theorem each7_ct (m : Md) (H1 : PH) (hM : m.In H1) (b : Nat) (i : Nat) (x : Mc) (hx : m.mc[i]? = some x) : Ct Tryz.prog 158 [.int .i64 i, .pointer (some ⟨b, 0, none⟩)] [H1, single b (.cells [.slice m.psi m.si.length m.csi, .slice m.pfe m.fe.length m.cfe, .slice m.prk m.rk.length m.crk, .slice m.pmc m.mc.length m.cmc, .slice m.pln m.ln.length m.cln, .slice m.pis m.is.length m.cis, .int .i64 m.da, .int .i64 m.sl, .int .i64 m.re, .int .i64 m.fa, .slice m.prl m.rl.length m.crl].toArray 29 (0, 0))] (fun v Hs => v = .string x.nm ∧ Hs = [H1, single b (.cells [.slice m.psi m.si.length m.csi, .slice m.pfe m.fe.length m.cfe, .slice m.prk m.rk.length m.crk, .slice m.pmc m.mc.length m.cmc, .slice m.pln m.ln.length m.cln, .slice m.pis m.is.length m.cis, .int .i64 m.da, .int .i64 m.sl, .int .i64 m.re, .int .i64 m.fa, .slice m.prl m.rl.length m.crl].toArray 29 (0, 0))]) := by
  refine Ct.body Tryz.func158 rfl Tryz.ntmps158 rfl ?_
  intro E F
  have hSl := hM.mc
  have hmx := hSl.len_le
  simp only [tz_len, List.length_map, maxLen] at hmx
  have hl : (m.mc.map Mc.c)[i]? = some x.c := by simp [hx]
  have hlt := (List.getElem?_eq_some_iff.1 hx).1
  refine W.seq (W.region ?_)
  refine RL.q (Yld.assign rfl) rfl (RL.nil (N.next ?_))
  refine W.seq (W.region ?_)
  refine RL.q (Yld.fieldAddr fo29_3 rfl) rfl ?_
  refine RL.q (Yld.ld 2 Tryz.underlying24 rfl rfl rfl rfl) rfl ?_
  refine RL.q (Yld.move rfl) rfl ?_
  refine RL.q (Yld.ixr Tryz.underlying24 sz95 rfl rfl) rfl ?_
  refine RL.q (Yld.fieldAddr fo95_0 rfl) rfl ?_
  refine RL.q (by first | exact (by first | exact Yld.loadRow1 (cl := 1) Tryz.underlying9 rfl rfl rfl (by first | assumption | exact Own.sl (by assumption)) (by assumption) | exact Yld.loadRow1 (cl := 2) Tryz.underlying9 rfl rfl rfl (by first | assumption | exact Own.sl (by assumption)) (by assumption)) | exact (by first | exact Yld.lrF 1 0 Tryz.underlying9 rfl rfl rfl rfl | exact Yld.lrF 2 0 Tryz.underlying9 rfl rfl rfl rfl)) rfl ?_
  refine RL.q (Yld.assign rfl) rfl (RL.nil (N.next ?_))
  refine W.keep (.of [3] rfl) (.of [0, 1, 2] rfl) ?_
  refine W.ret ?_
  exact N.retBy [1, 2] (.cons (.tmp rfl) .nil) rfl rfl rfl rfl ⟨rfl, rfl⟩
set_option maxRecDepth 100000 in
set_option maxHeartbeats 400000 in
theorem each9_ct (m : Md) (H1 : PH) (hM : m.In H1) (b : Nat) (i : Nat) (x : It) (hx : m.is[i]? = some x) : Ct Tryz.prog 160 [.int .i64 i, .pointer (some ⟨b, 0, none⟩)] [H1, single b (.cells [.slice m.psi m.si.length m.csi, .slice m.pfe m.fe.length m.cfe, .slice m.prk m.rk.length m.crk, .slice m.pmc m.mc.length m.cmc, .slice m.pln m.ln.length m.cln, .slice m.pis m.is.length m.cis, .int .i64 m.da, .int .i64 m.sl, .int .i64 m.re, .int .i64 m.fa, .slice m.prl m.rl.length m.crl].toArray 29 (0, 0))] (fun v Hs => v = .string x.nm ∧ Hs = [H1, single b (.cells [.slice m.psi m.si.length m.csi, .slice m.pfe m.fe.length m.cfe, .slice m.prk m.rk.length m.crk, .slice m.pmc m.mc.length m.cmc, .slice m.pln m.ln.length m.cln, .slice m.pis m.is.length m.cis, .int .i64 m.da, .int .i64 m.sl, .int .i64 m.re, .int .i64 m.fa, .slice m.prl m.rl.length m.crl].toArray 29 (0, 0))]) := by
  refine Ct.body Tryz.func160 rfl Tryz.ntmps160 rfl ?_
  intro E F
  have hSl := hM.is
  have hmx := hSl.len_le
  simp only [tz_len, List.length_map, maxLen] at hmx
  have hl : (m.is.map It.c)[i]? = some x.c := by simp [hx]
  have hlt := (List.getElem?_eq_some_iff.1 hx).1
  refine W.seq (W.region ?_)
  refine RL.q (Yld.assign rfl) rfl (RL.nil (N.next ?_))
  refine W.seq (W.region ?_)
  refine RL.q (Yld.fieldAddr fo29_5 rfl) rfl ?_
  refine RL.q (Yld.ld 2 Tryz.underlying26 rfl rfl rfl rfl) rfl ?_
  refine RL.q (Yld.move rfl) rfl ?_
  refine RL.q (Yld.ixr Tryz.underlying26 sz64 rfl rfl) rfl ?_
  refine RL.q (Yld.fieldAddr fo64_0 rfl) rfl ?_
  refine RL.q (by first | exact (by first | exact Yld.loadRow1 (cl := 1) Tryz.underlying9 rfl rfl rfl (by first | assumption | exact Own.sl (by assumption)) (by assumption) | exact Yld.loadRow1 (cl := 2) Tryz.underlying9 rfl rfl rfl (by first | assumption | exact Own.sl (by assumption)) (by assumption)) | exact (by first | exact Yld.lrF 1 0 Tryz.underlying9 rfl rfl rfl rfl | exact Yld.lrF 2 0 Tryz.underlying9 rfl rfl rfl rfl)) rfl ?_
  refine RL.q (Yld.assign rfl) rfl (RL.nil (N.next ?_))
  refine W.keep (.of [3] rfl) (.of [0, 1, 2] rfl) ?_
  refine W.ret ?_
  exact N.retBy [1, 2] (.cons (.tmp rfl) .nil) rfl rfl rfl rfl ⟨rfl, rfl⟩
set_option maxRecDepth 100000 in
set_option maxHeartbeats 400000 in
theorem each2_ct (m : Md) (H1 : PH) (b : Nat) (z : Int) : Ct Tryz.prog 153 [.int .i64 z] [H1, single b (.cells [.slice m.psi m.si.length m.csi, .slice m.pfe m.fe.length m.cfe, .slice m.prk m.rk.length m.crk, .slice m.pmc m.mc.length m.cmc, .slice m.pln m.ln.length m.cln, .slice m.pis m.is.length m.cis, .int .i64 m.da, .int .i64 m.sl, .int .i64 m.re, .int .i64 m.fa, .slice m.prl m.rl.length m.crl].toArray 29 (0, 0))] (fun v Hs => (∃ y : Int, v = .int .i64 y) ∧ Hs = [H1, single b (.cells [.slice m.psi m.si.length m.csi, .slice m.pfe m.fe.length m.cfe, .slice m.prk m.rk.length m.crk, .slice m.pmc m.mc.length m.cmc, .slice m.pln m.ln.length m.cln, .slice m.pis m.is.length m.cis, .int .i64 m.da, .int .i64 m.sl, .int .i64 m.re, .int .i64 m.fa, .slice m.prl m.rl.length m.crl].toArray 29 (0, 0))]) := by
  refine Ct.body Tryz.func153 rfl Tryz.ntmps153 rfl ?_
  intro E F
  refine W.seq (W.region ?_)
  refine RL.q (Yld.assign rfl) rfl (RL.nil (N.next ?_))
  refine W.seq (W.region ?_)
  refine RL.q (Yld.assign rfl) rfl (RL.nil (N.next ?_))
  refine W.ret ?_
  exact N.retBy [1, 2] (.cons (.tmp rfl) .nil) rfl rfl rfl rfl ⟨⟨_, rfl⟩, rfl⟩
set_option maxRecDepth 100000 in
set_option maxHeartbeats 400000 in
theorem each4_ct (m : Md) (H1 : PH) (b : Nat) (z : Int) : Ct Tryz.prog 155 [.int .i64 z] [H1, single b (.cells [.slice m.psi m.si.length m.csi, .slice m.pfe m.fe.length m.cfe, .slice m.prk m.rk.length m.crk, .slice m.pmc m.mc.length m.cmc, .slice m.pln m.ln.length m.cln, .slice m.pis m.is.length m.cis, .int .i64 m.da, .int .i64 m.sl, .int .i64 m.re, .int .i64 m.fa, .slice m.prl m.rl.length m.crl].toArray 29 (0, 0))] (fun v Hs => (∃ y : Int, v = .int .i64 y) ∧ Hs = [H1, single b (.cells [.slice m.psi m.si.length m.csi, .slice m.pfe m.fe.length m.cfe, .slice m.prk m.rk.length m.crk, .slice m.pmc m.mc.length m.cmc, .slice m.pln m.ln.length m.cln, .slice m.pis m.is.length m.cis, .int .i64 m.da, .int .i64 m.sl, .int .i64 m.re, .int .i64 m.fa, .slice m.prl m.rl.length m.crl].toArray 29 (0, 0))]) := by
  refine Ct.body Tryz.func155 rfl Tryz.ntmps155 rfl ?_
  intro E F
  refine W.seq (W.region ?_)
  refine RL.q (Yld.assign rfl) rfl (RL.nil (N.next ?_))
  refine W.seq (W.region ?_)
  refine RL.q (Yld.assign rfl) rfl (RL.nil (N.next ?_))
  refine W.ret ?_
  exact N.retBy [1, 2] (.cons (.tmp rfl) .nil) rfl rfl rfl rfl ⟨⟨_, rfl⟩, rfl⟩
set_option maxRecDepth 100000 in
set_option maxHeartbeats 400000 in
theorem each6_ct (m : Md) (H1 : PH) (b : Nat) (z : Int) : Ct Tryz.prog 157 [.int .i64 z] [H1, single b (.cells [.slice m.psi m.si.length m.csi, .slice m.pfe m.fe.length m.cfe, .slice m.prk m.rk.length m.crk, .slice m.pmc m.mc.length m.cmc, .slice m.pln m.ln.length m.cln, .slice m.pis m.is.length m.cis, .int .i64 m.da, .int .i64 m.sl, .int .i64 m.re, .int .i64 m.fa, .slice m.prl m.rl.length m.crl].toArray 29 (0, 0))] (fun v Hs => (∃ y : Int, v = .int .i64 y) ∧ Hs = [H1, single b (.cells [.slice m.psi m.si.length m.csi, .slice m.pfe m.fe.length m.cfe, .slice m.prk m.rk.length m.crk, .slice m.pmc m.mc.length m.cmc, .slice m.pln m.ln.length m.cln, .slice m.pis m.is.length m.cis, .int .i64 m.da, .int .i64 m.sl, .int .i64 m.re, .int .i64 m.fa, .slice m.prl m.rl.length m.crl].toArray 29 (0, 0))]) := by
  refine Ct.body Tryz.func157 rfl Tryz.ntmps157 rfl ?_
  intro E F
  refine W.seq (W.region ?_)
  refine RL.q (Yld.assign rfl) rfl (RL.nil (N.next ?_))
  refine W.seq (W.region ?_)
  refine RL.q (Yld.assign rfl) rfl (RL.nil (N.next ?_))
  refine W.ret ?_
  exact N.retBy [1, 2] (.cons (.tmp rfl) .nil) rfl rfl rfl rfl ⟨⟨_, rfl⟩, rfl⟩
set_option maxRecDepth 100000 in
set_option maxHeartbeats 400000 in
theorem each8_ct (m : Md) (H1 : PH) (b : Nat) (z : Int) : Ct Tryz.prog 159 [.int .i64 z] [H1, single b (.cells [.slice m.psi m.si.length m.csi, .slice m.pfe m.fe.length m.cfe, .slice m.prk m.rk.length m.crk, .slice m.pmc m.mc.length m.cmc, .slice m.pln m.ln.length m.cln, .slice m.pis m.is.length m.cis, .int .i64 m.da, .int .i64 m.sl, .int .i64 m.re, .int .i64 m.fa, .slice m.prl m.rl.length m.crl].toArray 29 (0, 0))] (fun v Hs => (∃ y : Int, v = .int .i64 y) ∧ Hs = [H1, single b (.cells [.slice m.psi m.si.length m.csi, .slice m.pfe m.fe.length m.cfe, .slice m.prk m.rk.length m.crk, .slice m.pmc m.mc.length m.cmc, .slice m.pln m.ln.length m.cln, .slice m.pis m.is.length m.cis, .int .i64 m.da, .int .i64 m.sl, .int .i64 m.re, .int .i64 m.fa, .slice m.prl m.rl.length m.crl].toArray 29 (0, 0))]) := by
  refine Ct.body Tryz.func159 rfl Tryz.ntmps159 rfl ?_
  intro E F
  refine W.seq (W.region ?_)
  refine RL.q (Yld.assign rfl) rfl (RL.nil (N.next ?_))
  refine W.seq (W.region ?_)
  refine RL.q (Yld.assign rfl) rfl (RL.nil (N.next ?_))
  refine W.ret ?_
  exact N.retBy [1, 2] (.cons (.tmp rfl) .nil) rfl rfl rfl rfl ⟨⟨_, rfl⟩, rfl⟩
set_option maxRecDepth 100000 in
set_option maxHeartbeats 400000 in
theorem itemKind_ct (z : Int) : Ct Tryz.prog 162 [.int .i64 z] [] (fun v Hs => (∃ y : Int, v = .int .i64 y) ∧ Hs = []) := by
  refine Ct.body Tryz.func162 rfl Tryz.ntmps162 rfl ?_
  intro E F
  refine W.seq (W.region ?_)
  refine RL.q (Yld.assign rfl) rfl (RL.nil (N.next ?_))
  refine W.seq ?_
  refine W.seq (W.region ?_)
  refine RL.q (Yld.move rfl) rfl (RL.nil (N.next ?_))
  refine W.block ?_
  refine W.seq (W.region ?_)
  refine RL.q (Yld.bin rfl rfl BinV.eql) rfl ?_
  refine RL.q (Yld.assign rfl) rfl (RL.nil (N.next ?_))
  first | refine W.condD rfl (fun hc4 => ?_) (fun hc4 => ?_) | (refine W.cond rfl (fun hc4 => ?_) (fun hc4 => ?_) <;> try simp only [Bool.or_eq_true, Bool.and_eq_true, Bool.not_eq_true', Bool.not_eq_false', decide_eq_true_eq, Bool.or_eq_false_iff, Bool.and_eq_false_iff, decide_eq_false_iff_not, beq_iff_eq, beq_eq_false_iff_ne, ne_eq, Decidable.not_not] at hc4)
  ·
   refine W.seq (W.region ?_)
   refine RL.q (Yld.assign rfl) rfl (RL.nil (N.next ?_))
   refine W.keep (.of [2] rfl) (.of [0] rfl) ?_
   refine W.ret ?_
   refine N.block_ret ?_
   refine N.then_ret ?_
   exact N.retBy [] (.cons (.tmp rfl) .nil) rfl rfl rfl rfl ⟨⟨_, rfl⟩, rfl⟩
  ·
   refine W.seq (W.region ?_)
   refine RL.q (Yld.bin rfl rfl BinV.eql) rfl ?_
   refine RL.q (Yld.assign rfl) rfl (RL.nil (N.next ?_))
   refine W.keep (.of [6] rfl) (.of [0] rfl) ?_
   first | refine W.condD rfl (fun hc6 => ?_) (fun hc6 => ?_) | (refine W.cond rfl (fun hc6 => ?_) (fun hc6 => ?_) <;> try simp only [Bool.or_eq_true, Bool.and_eq_true, Bool.not_eq_true', Bool.not_eq_false', decide_eq_true_eq, Bool.or_eq_false_iff, Bool.and_eq_false_iff, decide_eq_false_iff_not, beq_iff_eq, beq_eq_false_iff_ne, ne_eq, Decidable.not_not] at hc6)
   ·
    refine W.seq (W.region ?_)
    refine RL.q (Yld.assign rfl) rfl (RL.nil (N.next ?_))
    refine W.ret ?_
    refine N.block_ret ?_
    refine N.then_ret ?_
    exact N.retBy [] (.cons (.tmp rfl) .nil) rfl rfl rfl rfl ⟨⟨_, rfl⟩, rfl⟩
   ·
    refine W.skip ?_
    refine N.block_normal ?_
    refine N.next ?_
    refine W.seq (W.region ?_)
    refine RL.q (Yld.assign rfl) rfl (RL.nil (N.next ?_))
    refine W.ret ?_
    exact N.retBy [] (.cons (.tmp rfl) .nil) rfl rfl rfl rfl ⟨⟨_, rfl⟩, rfl⟩
set_option maxRecDepth 100000 in
set_option maxHeartbeats 400000 in
theorem each10_ct (m : Md) (H1 : PH) (hM : m.In H1) (b : Nat) (i : Nat) (x : It) (hx : m.is[i]? = some x) : Ct Tryz.prog 161 [.int .i64 i, .pointer (some ⟨b, 0, none⟩)] [H1, single b (.cells [.slice m.psi m.si.length m.csi, .slice m.pfe m.fe.length m.cfe, .slice m.prk m.rk.length m.crk, .slice m.pmc m.mc.length m.cmc, .slice m.pln m.ln.length m.cln, .slice m.pis m.is.length m.cis, .int .i64 m.da, .int .i64 m.sl, .int .i64 m.re, .int .i64 m.fa, .slice m.prl m.rl.length m.crl].toArray 29 (0, 0))] (fun v Hs => (∃ y : Int, v = .int .i64 y) ∧ Hs = [H1, single b (.cells [.slice m.psi m.si.length m.csi, .slice m.pfe m.fe.length m.cfe, .slice m.prk m.rk.length m.crk, .slice m.pmc m.mc.length m.cmc, .slice m.pln m.ln.length m.cln, .slice m.pis m.is.length m.cis, .int .i64 m.da, .int .i64 m.sl, .int .i64 m.re, .int .i64 m.fa, .slice m.prl m.rl.length m.crl].toArray 29 (0, 0))]) := by
  refine Ct.body Tryz.func161 rfl Tryz.ntmps161 rfl ?_
  intro E F
  have hSl := hM.is
  have hmx := hSl.len_le
  simp only [List.length_map, maxLen] at hmx
  have hl : (m.is.map It.c)[i]? = some x.c := by simp [hx]
  have hlt := (List.getElem?_eq_some_iff.1 hx).1
  refine W.seq (W.region ?_)
  refine RL.q (Yld.assign rfl) rfl (RL.nil (N.next ?_))
  refine W.seq (W.region ?_)
  refine RL.q (Yld.fieldAddr fo29_5 rfl) rfl ?_
  refine RL.q (Yld.ld 2 Tryz.underlying26 rfl rfl rfl rfl) rfl ?_
  refine RL.q (Yld.move rfl) rfl ?_
  refine RL.q (Yld.ixr Tryz.underlying26 sz64 rfl rfl) rfl ?_
  refine RL.q (Yld.fieldAddr fo64_1 rfl) rfl ?_
  refine RL.q (by first | exact Yld.lrF 1 1 Tryz.underlying3 rfl rfl rfl rfl | exact Yld.lrF 2 1 Tryz.underlying3 rfl rfl rfl rfl) rfl ?_
  refine RL.e (Eff.call ent162 [] [] (.cons rfl .nil) (itemKind_ct x.kd) rfl rfl rfl rfl (by rintro _ _ ⟨_, rfl⟩; rfl)) rfl ?_
  rintro _ _ ⟨_, ⟨⟨y, rfl⟩, rfl⟩, rfl⟩
  refine RL.q (Yld.assign rfl) rfl (RL.nil (N.next ?_))
  refine W.keep (.of [3] rfl) (.of [0, 1, 2] rfl) ?_
  refine W.ret ?_
  exact N.retBy [1, 2] (.cons (.tmp rfl) .nil) rfl rfl rfl rfl ⟨⟨_, rfl⟩, rfl⟩
structure Cat.ER where
  f : Nat
  cf : List Value
  g : Nat
  cg : List Value
  n : Nat
  nm : List Ky
def Cat.ER.c (r : ER) : List Value := [.int .i64 r.n, .func (.func r.f) [].toArray r.cf.toArray, .func (.func r.g) [].toArray r.cg.toArray]
def Cat.eRows (m : Md) (b : Nat) : List ER := [⟨152, [.pointer (some ⟨b, 0, none⟩)], 153, [], m.si.length, m.si⟩, ⟨154, [.pointer (some ⟨b, 0, none⟩)], 155, [], m.fe.length, m.fe⟩, ⟨156, [.pointer (some ⟨b, 0, none⟩)], 157, [], m.rk.length, m.rk.map (·.nm)⟩, ⟨158, [.pointer (some ⟨b, 0, none⟩)], 159, [], m.mc.length, m.mc.map (·.nm)⟩, ⟨160, [.pointer (some ⟨b, 0, none⟩)], 161, [.pointer (some ⟨b, 0, none⟩)], m.is.length, m.is.map (·.nm)⟩]
structure Cat.ERok (m : Md) (H1 : PH) (b : Nat) (r : ER) : Prop where
  ef : Ent Tryz.prog r.f
  eg : Ent Tryz.prog r.g
  len : r.n = r.nm.length
  cf : ∀ (i : Nat) s, r.nm[i]? = some s → Ct Tryz.prog r.f (.int .i64 i :: r.cf) [H1, single b (.cells [.slice m.psi m.si.length m.csi, .slice m.pfe m.fe.length m.cfe, .slice m.prk m.rk.length m.crk, .slice m.pmc m.mc.length m.cmc, .slice m.pln m.ln.length m.cln, .slice m.pis m.is.length m.cis, .int .i64 m.da, .int .i64 m.sl, .int .i64 m.re, .int .i64 m.fa, .slice m.prl m.rl.length m.crl].toArray 29 (0, 0))] (fun v Hs => v = .string s ∧ Hs = [H1, single b (.cells [.slice m.psi m.si.length m.csi, .slice m.pfe m.fe.length m.cfe, .slice m.prk m.rk.length m.crk, .slice m.pmc m.mc.length m.cmc, .slice m.pln m.ln.length m.cln, .slice m.pis m.is.length m.cis, .int .i64 m.da, .int .i64 m.sl, .int .i64 m.re, .int .i64 m.fa, .slice m.prl m.rl.length m.crl].toArray 29 (0, 0))])
  cg : ∀ (i : Nat), i < r.nm.length → Ct Tryz.prog r.g (.int .i64 i :: r.cg) [H1, single b (.cells [.slice m.psi m.si.length m.csi, .slice m.pfe m.fe.length m.cfe, .slice m.prk m.rk.length m.crk, .slice m.pmc m.mc.length m.cmc, .slice m.pln m.ln.length m.cln, .slice m.pis m.is.length m.cis, .int .i64 m.da, .int .i64 m.sl, .int .i64 m.re, .int .i64 m.fa, .slice m.prl m.rl.length m.crl].toArray 29 (0, 0))] (fun v Hs => (∃ y : Int, v = .int .i64 y) ∧ Hs = [H1, single b (.cells [.slice m.psi m.si.length m.csi, .slice m.pfe m.fe.length m.cfe, .slice m.prk m.rk.length m.crk, .slice m.pmc m.mc.length m.cmc, .slice m.pln m.ln.length m.cln, .slice m.pis m.is.length m.cis, .int .i64 m.da, .int .i64 m.sl, .int .i64 m.re, .int .i64 m.fa, .slice m.prl m.rl.length m.crl].toArray 29 (0, 0))])
theorem Cat.flat_e (m : Md) (b : Nat) : (eRows m b).flatMap (·.nm) = namesOf m := by simp [eRows, namesOf]
theorem Cat.e_take {m : Md} {b k : Nat} {r : ER} (h : (eRows m b)[k]? = some r) : ((eRows m b).take (k + 1)).flatMap (·.nm) = ((eRows m b).take k).flatMap (·.nm) ++ r.nm := by
  rw [List.take_add_one, h, List.flatMap_append]; simp
theorem Cat.e_len {m : Md} {b k : Nat} : (((eRows m b).take k).flatMap (·.nm)).length ≤ (namesOf m).length := by
  rw [← flat_e m b]
  conv => rhs; rw [← List.take_append_drop k (eRows m b), List.flatMap_append, List.length_append]
  omega
theorem Cat.ns_len (m : Md) : (namesOf m).length = m.si.length + m.fe.length + m.rk.length + m.mc.length + m.is.length := by simp [namesOf]; omega
theorem nm_at {α : Type} {f : α → Ky} {l : List α} {i : Nat} {s : Ky} (h : (l.map f)[i]? = some s) : ∃ x, l[i]? = some x ∧ f x = s := by
  rw [List.getElem?_map] at h
  cases hx : l[i]? with
  | none => rw [hx] at h; cases h
  | some x => rw [hx] at h; exact ⟨x, rfl, Option.some.inj h⟩
theorem erows_ok (m : Md) (H1 : PH) (hM : m.In H1) (b : Nat) : ∀ r ∈ eRows m b, ERok m H1 b r := by
  intro r hr
  simp only [eRows, List.mem_cons, List.not_mem_nil, or_false] at hr
  rcases hr with rfl | rfl | rfl | rfl | rfl
  · exact ⟨ent152, ent153, (by simp), (fun i s h => each1_ct m H1 hM b i s h), (fun i hi => each2_ct m H1 b i)⟩
  · exact ⟨ent154, ent155, (by simp), (fun i s h => each3_ct m H1 hM b i s h), (fun i hi => each4_ct m H1 b i)⟩
  · exact ⟨ent156, ent157, (by simp), (fun i s h => by
    obtain ⟨x, hx, rfl⟩ := nm_at h
    exact each5_ct m H1 hM b i x hx), (fun i hi => each6_ct m H1 b i)⟩
  · exact ⟨ent158, ent159, (by simp), (fun i s h => by
    obtain ⟨x, hx, rfl⟩ := nm_at h
    exact each7_ct m H1 hM b i x hx), (fun i hi => each8_ct m H1 b i)⟩
  · exact ⟨ent160, ent161, (by simp), (fun i s h => by
    obtain ⟨x, hx, rfl⟩ := nm_at h
    exact each9_ct m H1 hM b i x hx), (fun i hi => each10_ct m H1 hM b i _ (List.getElem?_eq_getElem (by simpa using hi)))⟩
set_option maxRecDepth 100000 in
set_option maxHeartbeats 400000 in
theorem namesC_ct (bo : Nat) (out : List Ky) (HO : PH) (po : Option Addr) (co : Nat) (hO : Own HO po co 9 1 (tz out)) (hb : out.length ≤ 100000) (s : Ky) (y z : Int) : Ct Tryz.prog 118 [.string s, .int .i64 y, .int .i64 z, .pointer (some ⟨bo, 0, none⟩)] [single bo (.cells [.slice po out.length co].toArray 22 (0, 0)), HO] (fun v Hs => ∃ H' p' c', v = .bool false ∧ Own H' p' c' 9 1 (tz (out ++ [s])) ∧ Hs = [single bo (.cells [.slice p' (out ++ [s]).length c'].toArray 22 (0, 0)), H']) := by
  refine Ct.body Tryz.func118 rfl Tryz.ntmps118 rfl ?_
  intro E F
  refine W.seq (W.region ?_)
  refine RL.q (Yld.assign rfl) rfl (RL.nil (N.next ?_))
  refine W.seq (W.region ?_)
  refine RL.q (Yld.ld 1 Tryz.underlying22 rfl rfl rfl rfl) rfl ?_
  refine RL.q (Yld.move rfl) rfl ?_
  refine RL.e (Eff.buildSlice 110 Tryz.underlying22 sz9 zc9 rfl rfl (.cons rfl rfl .nil) rfl) rfl ?_
  rintro _ _ ⟨b10, rfl, rfl⟩
  refine RL.e (Eff.appendE (tc := 2) (sc := 110) (ms := [s]) (fun s : Ky => [Value.string s]) Tryz.underlying22 el9 rfl rfl rfl rfl hO rfl (Own.one (l := [Value.string s]) rfl (by simp [Value.oneCell']) rfl).sl rfl (tz_one1 _) (by decide) (by simp; omega) (by simp [maxLen]; omega)) rfl ?_
  rintro _ _ ⟨Ha, pa, ca, rfl, hOa, rfl⟩
  refine RL.e0 (Eff.storeS (c := 1) _ sz22 rfl rfl rfl rfl rfl rfl rfl (by (try simp only [putAt, List.take, List.drop, List.nil_append, List.cons_append, List.append_nil, List.length_cons, List.length_nil, Nat.add_zero, Nat.zero_add, Nat.reduceAdd]); rfl)) ?_
  rintro _ _ rfl
  refine RL.nil (N.next ?_)
  refine W.keep .nil (.of [0, 1, 2, 110] rfl) ?_
  refine W.seq (W.region ?_)
  refine RL.q (Yld.assign rfl) rfl (RL.nil (N.next ?_))
  refine W.ret ?_
  exact N.retBy [1, 2] (.cons (.tmp rfl) .nil) rfl rfl rfl rfl ⟨Ha, pa, ca, rfl, hOa, rfl⟩
structure Cat.EO where
  k : Nat
  H : PH
  p : Option Addr
  c : Nat
set_option maxRecDepth 100000 in
set_option maxHeartbeats 3200000 in
theorem each_ct (m : Md) (H1 : PH) (hM : m.In H1) (hn : (namesOf m).length ≤ 10000) (bo : Nat) (out : List Ky) (HO : PH) (po : Option Addr) (co : Nat) (hO : Own HO po co 9 1 (tz out)) (hb : out.length ≤ 1000) : Ct Tryz.prog 117 [.agg [.slice m.psi m.si.length m.csi, .slice m.pfe m.fe.length m.cfe, .slice m.prk m.rk.length m.crk, .slice m.pmc m.mc.length m.cmc, .slice m.pln m.ln.length m.cln, .slice m.pis m.is.length m.cis, .int .i64 m.da, .int .i64 m.sl, .int .i64 m.re, .int .i64 m.fa, .slice m.prl m.rl.length m.crl].toArray, .func (.func 118) [].toArray [.pointer (some ⟨bo, 0, none⟩)].toArray] [H1, single bo (.cells [.slice po out.length co].toArray 22 (0, 0)), HO] (fun v Hs => ∃ H' p' c', v = .tuple #[] ∧ Own H' p' c' 9 1 (tz (out ++ namesOf m)) ∧ Hs = [H1, single bo (.cells [.slice p' (out ++ namesOf m).length c'].toArray 22 (0, 0)), H']) := by
  refine Ct.body Tryz.func117 rfl Tryz.ntmps117 rfl ?_
  intro E F
  refine W.seq (W.region ?_)
  refine RL.e (Eff.box 102 _ rfl rfl) rfl ?_
  rintro _ _ ⟨b2, rfl, rfl⟩
  refine RL.nil (N.next ?_)
  refine W.seq (W.region ?_)
  refine RL.q (Yld.fieldAddr fo29_0 rfl) rfl ?_
  refine RL.q (Yld.ld 102 Tryz.underlying22 rfl rfl rfl rfl) rfl ?_
  refine RL.q (Yld.lenSl Tryz.underlying22 rfl) rfl ?_
  refine RL.q (Yld.makeFunc eval0 (eval1 rfl)) rfl ?_
  refine RL.q (Yld.buildP lay203 (.cons rfl rfl (.cons rfl rfl (.cons rfl rfl .nil))) rfl) rfl ?_
  refine RL.q (Yld.fieldAddr fo29_1 rfl) rfl ?_
  refine RL.q (Yld.ld 102 Tryz.underlying22 rfl rfl rfl rfl) rfl ?_
  refine RL.q (Yld.lenSl Tryz.underlying22 rfl) rfl ?_
  refine RL.q (Yld.makeFunc eval0 (eval1 rfl)) rfl ?_
  refine RL.q (Yld.buildP lay203 (.cons rfl rfl (.cons rfl rfl (.cons rfl rfl .nil))) rfl) rfl ?_
  refine RL.q (Yld.fieldAddr fo29_2 rfl) rfl ?_
  refine RL.q (Yld.ld 102 Tryz.underlying23 rfl rfl rfl rfl) rfl ?_
  refine RL.q (Yld.lenSl Tryz.underlying23 rfl) rfl ?_
  refine RL.q (Yld.makeFunc eval0 (eval1 rfl)) rfl ?_
  refine RL.q (Yld.buildP lay203 (.cons rfl rfl (.cons rfl rfl (.cons rfl rfl .nil))) rfl) rfl ?_
  refine RL.q (Yld.fieldAddr fo29_3 rfl) rfl ?_
  refine RL.q (Yld.ld 102 Tryz.underlying24 rfl rfl rfl rfl) rfl ?_
  refine RL.q (Yld.lenSl Tryz.underlying24 rfl) rfl ?_
  refine RL.q (Yld.makeFunc eval0 (eval1 rfl)) rfl ?_
  refine RL.q (Yld.buildP lay203 (.cons rfl rfl (.cons rfl rfl (.cons rfl rfl .nil))) rfl) rfl ?_
  refine RL.q (Yld.fieldAddr fo29_5 rfl) rfl ?_
  refine RL.q (Yld.ld 102 Tryz.underlying26 rfl rfl rfl rfl) rfl ?_
  refine RL.q (Yld.lenSl Tryz.underlying26 rfl) rfl ?_
  refine RL.q (Yld.makeFunc eval0 (eval1 rfl)) rfl ?_
  refine RL.q (Yld.makeFunc eval0 (eval1 rfl)) rfl ?_
  refine RL.q (Yld.buildP lay203 (.cons rfl rfl (.cons rfl rfl (.cons rfl rfl .nil))) rfl) rfl ?_
  refine RL.e (Eff.buildSlice 134 Tryz.underlying204 sz203 zc203 rfl rfl (.cons rfl rfl (.cons rfl rfl (.cons rfl rfl (.cons rfl rfl (.cons rfl rfl .nil))))) rfl) rfl ?_
  rintro _ _ ⟨b34, rfl, rfl⟩
  refine RL.q (Yld.assign rfl) rfl (RL.nil (N.next ?_))
  refine W.keep (.of [1, 4] rfl) (.of [0, 1, 2, 3, 102, 134] rfl) ?_
  refine W.seq (W.region ?_)
  refine RL.q (Yld.move rfl) rfl ?_
  refine RL.q (Yld.lenSl Tryz.underlying204 rfl) rfl ?_
  refine RL.q (Yld.move rfl) rfl (RL.nil (N.next ?_))
  refine W.block ?_
  refine W.loopK (ι := EO) (fun x => (x.k ≤ 5 ∧ Own x.H x.p x.c 9 1 (tz (out ++ ((eRows m b2).take x.k).flatMap (·.nm))))) (fun x => [(37, .int .i64 (x.k : Nat))]) (fun x => [(2, single bo (.cells [.slice x.p (out ++ ((eRows m b2).take x.k).flatMap (·.nm)).length x.c].toArray 22 (0, 0))), (3, x.H)]) (fun x => 5 - x.k) (.of [1, 35, 36] rfl) (.of [0, 1, 102, 134] rfl) ⟨0, HO, po, co⟩ ?_ ?_ ?_ ?_
  · exact ⟨Nat.zero_le _, by rw [List.take_zero, List.flatMap_nil, List.append_nil]; exact hO⟩
  · exact (.as rfl (by first | rfl | (simp; done) | (congr 1; simp; done) | (congr 1; omega)) .nil)
  · exact (.as rfl (by rw [List.take_zero, List.flatMap_nil, List.append_nil]) (.to rfl))
  rintro x ⟨hk, hOx⟩
  refine W.keep (.of [37, 1, 35, 36] rfl) (.of [2, 3, 0, 1, 102, 134] rfl) ?_
  refine W.seq (W.region ?_)
  refine RL.q (Yld.bin rfl rfl BinV.lss) rfl ?_
  refine RL.nil (N.next ?_)
  refine W.seq ?_
  first | refine W.condD rfl (fun hc38 => ?_) (fun hc38 => ?_) | (refine W.cond rfl (fun hc38 => ?_) (fun hc38 => ?_) <;> try simp only [Bool.or_eq_true, Bool.and_eq_true, Bool.not_eq_true', Bool.not_eq_false', decide_eq_true_eq, Bool.or_eq_false_iff, Bool.and_eq_false_iff, decide_eq_false_iff_not, beq_iff_eq, beq_eq_false_iff_ne, ne_eq, Decidable.not_not] at hc38)
  ·
   have hk5 : x.k < 5 := by omega
   obtain ⟨r, hr⟩ : ∃ r, (eRows m b2)[x.k]? = some r := ⟨_, List.getElem?_eq_getElem (show x.k < (eRows m b2).length by simp [eRows]; omega)⟩
   have hlr : ((eRows m b2).map ER.c)[x.k]? = some r.c := by rw [List.getElem?_map, hr]; rfl
   have hRl : Sl (single b34 (.cells ((eRows m b2).map ER.c).flatten.toArray 203 (0, 0))) (some ⟨b34, 0, none⟩) 5 3 ((eRows m b2).map ER.c) := (Own.mk (e := 203) (n := 3) (c := 5) [] (by intro l hl; obtain ⟨r, _, rfl⟩ := List.mem_map.1 hl; exact ⟨rfl, by simp [ER.c, Value.oneCell']⟩) (by simp [eRows]) (by simp [maxLen]) (by rfl) (by rfl)).sl
   have hre5 : (eRows m b2).length = 5 := rfl
   have hok := erows_ok m H1 hM b2 r (List.mem_of_getElem? hr)
   have hrn := hok.len
   have hnx := e_take hr
   have hnx : out ++ ((eRows m b2).take (x.k + 1)).flatMap (·.nm) = (out ++ ((eRows m b2).take x.k).flatMap (·.nm)) ++ r.nm := by rw [hnx, List.append_assoc]
   have hel := e_len (m := m) (b := b2) (k := x.k + 1)
   have hll : (out ++ ((eRows m b2).take (x.k + 1)).flatMap (·.nm)).length ≤ 11000 := by rw [List.length_append]; omega
   rw [hnx, List.length_append] at hll
   refine W.skip ?_
   refine N.next ?_
   refine W.seq ?_
   refine W.block ?_
   refine W.seq (W.region ?_)
   refine RL.q (Yld.indexRow Tryz.underlying204 sz203 rfl rfl hRl (by first | rfl | omega | (simp; done) | (simp; omega)) (by omega) (by first | omega | (simp; done) | (simp; omega))) rfl ?_
   refine RL.q (Yld.eq (v' := .agg r.c.toArray) (Yld.loadRow (cl := 134) Tryz.underlying203 rfl sz203 rfl rfl hRl hlr) rfl) rfl ?_
   refine RL.e (Eff.alloc 106 zc203) rfl ?_
   rintro _ _ ⟨b6, rfl, rfl⟩
   refine RL.e0 (Eff.storeS (c := 106) _ sz203 rfl rfl rfl rfl rfl rfl rfl (by (try simp only [putAt, List.take, List.drop, List.nil_append, List.cons_append, List.append_nil, List.length_cons, List.length_nil, Nat.add_zero, Nat.zero_add, Nat.reduceAdd]); rfl)) ?_
   rintro _ _ rfl
   refine RL.nil (N.next ?_)
   refine W.seq (W.region ?_)
   refine RL.q (Yld.fieldAddr fo203_0 rfl) rfl ?_
   refine RL.q (Yld.ld 106 Tryz.underlying3 rfl rfl rfl rfl) rfl ?_
   refine RL.q (Yld.move rfl) rfl (RL.nil (N.next ?_))
   refine W.keep (.of [1, 6, 35, 36, 37, 42, 43] rfl) (.of [0, 1, 2, 3, 102, 106, 134] rfl) ?_
   refine W.block ?_
   refine W.loopK (ι := EO) (fun y => (y.k ≤ r.nm.length ∧ Own y.H y.p y.c 9 1 (tz ((out ++ ((eRows m b2).take x.k).flatMap (·.nm)) ++ r.nm.take y.k)))) (fun y => [(43, .int .i64 (y.k : Nat))]) (fun y => [(2, single bo (.cells [.slice y.p ((out ++ ((eRows m b2).take x.k).flatMap (·.nm)) ++ r.nm.take y.k).length y.c].toArray 22 (0, 0))), (3, y.H)]) (fun y => r.nm.length - y.k) (.of [1, 6, 35, 36, 37, 42] rfl) (.of [0, 1, 102, 106, 134] rfl) ⟨0, x.H, x.p, x.c⟩ ?_ ?_ ?_ ?_
   · exact ⟨Nat.zero_le _, by rw [List.take_zero, List.append_nil]; exact hOx⟩
   · exact (.as rfl (by first | rfl | (simp; done) | (congr 1; simp; done) | (congr 1; omega)) .nil)
   · exact (.as rfl (by rw [List.take_zero, List.append_nil]) (.to rfl))
   rintro y ⟨hy, hOy⟩
   refine W.keep (.of [43, 1, 6, 35, 36, 37, 42] rfl) (.of [2, 3, 0, 1, 102, 106, 134] rfl) ?_
   refine W.seq (W.region ?_)
   refine RL.q (Yld.bin rfl rfl BinV.lss) rfl ?_
   refine RL.nil (N.next ?_)
   refine W.seq ?_
   first | refine W.condD rfl (fun hc44 => ?_) (fun hc44 => ?_) | (refine W.cond rfl (fun hc44 => ?_) (fun hc44 => ?_) <;> try simp only [Bool.or_eq_true, Bool.and_eq_true, Bool.not_eq_true', Bool.not_eq_false', decide_eq_true_eq, Bool.or_eq_false_iff, Bool.and_eq_false_iff, decide_eq_false_iff_not, beq_iff_eq, beq_eq_false_iff_ne, ne_eq, Decidable.not_not] at hc44)
   ·
    obtain ⟨sn, hsn⟩ : ∃ sn, r.nm[y.k]? = some sn := ⟨_, List.getElem?_eq_getElem (show y.k < r.nm.length by omega)⟩
    have hsx : (out ++ ((eRows m b2).take x.k).flatMap (·.nm)) ++ r.nm.take (y.k + 1) = ((out ++ ((eRows m b2).take x.k).flatMap (·.nm)) ++ r.nm.take y.k) ++ [sn] := by rw [List.take_add_one, hsn]; simp
    have hlo : ((out ++ ((eRows m b2).take x.k).flatMap (·.nm)) ++ r.nm.take y.k).length ≤ 11000 := by rw [List.length_append, List.length_take]; omega
    refine W.skip ?_
    refine N.next ?_
    refine W.seq ?_
    refine W.block ?_
    refine W.seq (W.region ?_)
    refine RL.q (Yld.move rfl) rfl (RL.q (Yld.assign rfl) rfl (RL.nil (N.next ?_)))
    refine W.seq ?_
    refine W.draw (.q 0 (.q 1 (.q 2 (.q 3 (.q 5 (.q 6 (.q 7 (.q 9 (.q 10 (.one 4 (.one 8 (.one 11 .done)))))))))))) (.of [0, 1, 102, 106, 134] rfl) mix (by kernel_rfl) (by kernel_rfl) ?_
    refine DL.q rfl (Yld.move rfl) rfl ?_
    refine DL.q rfl (Yld.fieldAddr fo203_1 rfl) rfl ?_
    refine DL.q rfl (Yld.ld 106 Tryz.underlying202 rfl rfl rfl rfl) rfl ?_
    refine DL.q rfl (Yld.move rfl) rfl ?_
    refine DL.q rfl (Yld.fieldAddr fo203_2 rfl) rfl ?_
    refine DL.q rfl (Yld.ld 106 Tryz.underlying85 rfl rfl rfl rfl) rfl ?_
    refine DL.q rfl (Yld.move rfl) rfl ?_
    refine DL.q rfl (Yld.move rfl) rfl ?_
    refine DL.q rfl (Yld.bin rfl rfl (by first | exact BinV.add (by omega) (by omega) | exact BinV.addW)) rfl ?_
    refine DL.one rfl (Eff.callV hok.ef [1, 102] [1, 102] rfl (.cons rfl .nil) (hok.cf y.k sn hsn) rfl rfl rfl rfl (by rintro _ _ ⟨_, rfl⟩; rfl)) rfl (by rintro _ _ ⟨_, ⟨rfl, rfl⟩, rfl⟩; repeat (first | exact .nil | refine .cons rfl ?_)) ?_
    rintro _ _ ⟨_, ⟨rfl, rfl⟩, rfl⟩
    refine DL.one rfl (Eff.callV hok.eg [1, 102] [1, 102] rfl (.cons rfl .nil) (hok.cg y.k (List.getElem?_eq_some_iff.1 hsn).1) rfl rfl rfl rfl (by rintro _ _ ⟨_, rfl⟩; rfl)) rfl (by rintro _ _ ⟨_, ⟨⟨z, rfl⟩, rfl⟩, rfl⟩; repeat (first | exact .nil | refine .cons rfl ?_)) ?_
    rintro _ _ ⟨_, ⟨⟨z, rfl⟩, rfl⟩, rfl⟩
    refine DL.one rfl (Eff.callV ent118 [2, 3] [2, 3] rfl (.cons rfl (.cons rfl (.cons rfl .nil))) (namesC_ct bo _ y.H y.p y.c hOy (by omega) sn z _) rfl rfl rfl rfl (by rintro _ _ ⟨_, _, _, _, _, rfl⟩; rfl)) rfl (by rintro _ _ ⟨_, ⟨Hd, pd, cd, rfl, hOd, rfl⟩, rfl⟩; repeat (first | exact .nil | refine .cons rfl ?_)) ?_
    rintro _ _ ⟨_, ⟨Hd, pd, cd, rfl, hOd, rfl⟩, rfl⟩
    refine DL.done ?_
    refine N.next ?_
    refine W.keep (.of [1, 6, 35, 36, 37, 42, 43, 57] rfl) (.of [0, 1, 2, 3, 102, 106, 134] rfl) ?_
    first | (refine W.as (t := 57) rfl (boolF (by first | assumption | omega | (simp; done))) ?_; refine W.condF rfl ?_) | refine W.condF rfl ?_
    refine W.skip ?_
    refine N.block_normal ?_
    refine N.next ?_
    refine W.region ?_
    refine RL.q (Yld.bin rfl rfl (by first | exact BinV.add (by omega) (by omega) | exact BinV.addW)) rfl ?_
    refine RL.q (Yld.move rfl) rfl (RL.nil ?_)
    exact N.famK ⟨y.k + 1, Hd, pd, cd⟩ ⟨⟨by dsimp only; omega, by dsimp only; rw [hsx]; exact hOd⟩, by dsimp only; omega⟩ (.as rfl (by first | rfl | (simp; done) | (congr 1; simp; done) | (congr 1; omega)) .nil) (.to rfl) (.as rfl (by rw [hsx]) (.to rfl)) (.to rfl)
   ·
    have hendy : y.k = r.nm.length := by omega
    rw [hendy, List.take_length] at hOy ⊢
    refine W.exit ?_
    refine N.then_exit ?_
    refine N.then_exit ?_
    refine N.block_eq ?_
    refine N.block_normal ?_
    refine N.next ?_
    refine W.keep (.of [1, 35, 36, 37] rfl) (.of [0, 1, 2, 3, 102, 106, 134] rfl) ?_
    refine W.region ?_
    refine RL.q (Yld.bin rfl rfl (by first | exact BinV.add (by omega) (by omega) | exact BinV.addW)) rfl ?_
    refine RL.q (Yld.move rfl) rfl (RL.nil ?_)
    exact N.famK ⟨x.k + 1, y.H, y.p, y.c⟩ ⟨⟨by dsimp only; omega, by dsimp only; rw [hnx]; exact hOy⟩, by dsimp only; omega⟩ (.as rfl (by first | rfl | (simp; done) | (congr 1; simp; done) | (congr 1; omega)) .nil) (.to rfl) (.as rfl (by rw [hnx]) (.to rfl)) (.to rfl)
  ·
   have hend : x.k = 5 := by omega
   have hfl : out ++ ((eRows m b2).take x.k).flatMap (·.nm) = out ++ namesOf m := by rw [hend, ← flat_e m b2]; rfl
   rw [hfl] at hOx ⊢
   refine W.exit ?_
   refine N.then_exit ?_
   refine N.then_exit ?_
   refine N.block_eq ?_
   exact N.endBy [1, 2, 3] .nil rfl rfl rfl rfl ⟨x.H, x.p, x.c, rfl, hOx, rfl⟩
set_option maxRecDepth 100000 in
set_option maxHeartbeats 400000 in
theorem names_ct (m : Md) (H1 : PH) (hM : m.In H1) (hn : (namesOf m).length ≤ 10000) : Ct Tryz.prog 68 [.agg [.slice m.psi m.si.length m.csi, .slice m.pfe m.fe.length m.cfe, .slice m.prk m.rk.length m.crk, .slice m.pmc m.mc.length m.cmc, .slice m.pln m.ln.length m.cln, .slice m.pis m.is.length m.cis, .int .i64 m.da, .int .i64 m.sl, .int .i64 m.re, .int .i64 m.fa, .slice m.prl m.rl.length m.crl].toArray] [H1] (fun v Hs => ∃ H' p' c', v = .slice p' (namesOf m).length c' ∧ Own H' p' c' 9 1 (tz (namesOf m)) ∧ Hs = [H1, H']) := by
  refine Ct.body Tryz.func68 rfl Tryz.ntmps68 rfl ?_
  intro E F
  refine W.seq (W.region ?_)
  refine RL.e (Eff.box 101 _ rfl rfl) rfl ?_
  rintro _ _ ⟨b1, rfl, rfl⟩
  refine RL.q (Yld.assign rfl) rfl (RL.nil (N.next ?_))
  refine W.seq (W.region ?_)
  refine RL.e (Eff.alloc 103 zc22) rfl ?_
  rintro _ _ ⟨b3, rfl, rfl⟩
  refine RL.nil (N.next ?_)
  refine W.seq ?_
  refine W.imp (Imp.empty _ 160) ?_
  refine W.region ?_
  refine RL.q (Yld.ldW 101 Tryz.underlying29 sz29 rfl rfl rfl rfl) rfl ?_
  refine RL.q (Yld.makeFunc eval0 (eval1 rfl)) rfl ?_
  refine RL.e (Eff.call ent117 [1, 103, 160] [1, 103, 160] (.cons rfl (.cons rfl .nil)) (each_ct m H1 hM hn b3 [] emp none 0 (Own.nil _ _) (by simp)) rfl rfl rfl rfl (by rintro _ _ ⟨_, _, _, _, _, rfl⟩; rfl)) rfl ?_
  rintro _ _ ⟨_, ⟨Hn, pn, cn, rfl, hOn, rfl⟩, rfl⟩
  rw [List.nil_append] at hOn ⊢
  refine RL.nil (N.next ?_)
  refine W.keep (.of [3] rfl) (.of [0, 1, 101, 103, 160] rfl) ?_
  refine W.seq (W.region ?_)
  refine RL.q (Yld.ld 103 Tryz.underlying22 rfl rfl rfl rfl) rfl ?_
  refine RL.q (Yld.assign rfl) rfl (RL.nil (N.next ?_))
  refine W.ret ?_
  exact N.retBy [1, 160] (.cons (.tmp rfl) .nil) rfl rfl rfl rfl ⟨Hn, pn, cn, rfl, hOn, rfl⟩
end Go.Proofs.YtboapdcmaeojgaaGreatDoor
namespace Go.Proofs.YtboapdcmaeojgaaGreatDoor
open SL Cat
set_option linter.unusedVariables false
set_option linter.unusedSimpArgs false
theorem ent119 : Ent Tryz.prog 119 := ⟨_, _, Tryz.func119, by kernel_rfl, rfl⟩
theorem ent190 : Ent Tryz.prog 190 := ⟨_, _, Tryz.func190, by kernel_rfl, rfl⟩
theorem ent163 : Ent Tryz.prog 163 := ⟨_, _, Tryz.func163, by kernel_rfl, rfl⟩
set_option maxRecDepth 100000 in
set_option maxHeartbeats 400000 in
theorem oddC_ct (c : Int) : Ct Tryz.prog 119 [.int .i32 c] [] (fun v Hs => v = .bool (decide (¬ goodC c)) ∧ Hs = []) := by
  refine Ct.body Tryz.func119 rfl Tryz.ntmps119 rfl ?_
  intro E F
  refine W.seq (W.region ?_)
  refine RL.q (Yld.assign rfl) rfl (RL.nil (N.next ?_))
  refine W.seq (W.region ?_)
  refine RL.q (Yld.move rfl) rfl ?_
  refine RL.q (Yld.bin rfl rfl BinV.lss) rfl ?_
  refine RL.q (Yld.move rfl) rfl ?_
  refine' RL.or (t := 5) (d := 8) 3 rfl (.of [0, 2, 3, 4] rfl) (.of [0] rfl) ?_ ?_ ?_
  rotate_left 1
  ·
   intro hg5
   refine RL.gq rfl rfl (Yld.move rfl) rfl ?_
   refine RL.gq rfl rfl (Yld.bin rfl rfl BinV.gtr) rfl ?_
   refine RL.q Yld.pk rfl ?_
   exact RL.nil (N.meet (.to rfl) (.to rfl))
  ·
   intro hg5
   refine RL.gskip rfl rfl rfl rfl ?_
   refine RL.gskip rfl rfl rfl rfl ?_
   refine RL.q Yld.pk rfl ?_
   exact RL.nil (N.meet (.to rfl) (.to rfl))
  refine RL.q (Yld.move rfl) rfl ?_
  refine' RL.and (t := 9) (d := 16) 7 rfl (.of [0, 2, 3, 4, 8] rfl) (.of [0] rfl) ?_ ?_ ?_
  rotate_left 1
  ·
   intro hg9
   refine RL.gq rfl rfl (Yld.move rfl) rfl ?_
   refine RL.gq rfl rfl (Yld.bin rfl rfl BinV.lss) rfl ?_
   refine RL.gq rfl rfl (Yld.move rfl) rfl ?_
   refine' RL.or (t := 12) (d := 15) 3 rfl (.of [0, 2, 3, 4, 8, 9, 10, 11] rfl) (.of [0] rfl) ?_ ?_ ?_
   rotate_left 1
   ·
    intro hg12
    refine RL.gq rfl rfl (Yld.move rfl) rfl ?_
    refine RL.gq rfl rfl (Yld.bin rfl rfl BinV.gtr) rfl ?_
    refine RL.gq rfl rfl Yld.pk rfl ?_
    exact RL.nil (N.meet (.to rfl) (.to rfl))
   ·
    intro hg12
    refine RL.gskip rfl rfl rfl rfl ?_
    refine RL.gskip rfl rfl rfl rfl ?_
    refine RL.gq rfl rfl Yld.pk rfl ?_
    exact RL.nil (N.meet (.to rfl) (.to rfl))
   refine RL.q Yld.pk rfl ?_
   exact RL.nil (N.meet (.to rfl) (.to rfl))
  ·
   intro hg9
   refine RL.gskip rfl rfl rfl rfl ?_
   refine RL.gskip rfl rfl rfl rfl ?_
   refine RL.gskip rfl rfl rfl rfl ?_
   refine RL.gskipU rfl rfl rfl ?_
   refine RL.gskipU rfl rfl rfl ?_
   refine RL.gskip rfl rfl rfl rfl ?_
   refine RL.q Yld.pk rfl ?_
   exact RL.nil (N.meet (.to rfl) (.to rfl))
  refine RL.q (Yld.move rfl) rfl ?_
  refine' RL.and (t := 17) (d := 20) 3 rfl (.of [0, 2, 3, 4, 8, 16] rfl) (.of [0] rfl) ?_ ?_ ?_
  rotate_left 1
  ·
   intro hg17
   refine RL.gq rfl rfl (Yld.move rfl) rfl ?_
   refine RL.gq rfl rfl (Yld.bin rfl rfl BinV.neq) rfl ?_
   refine RL.q Yld.pk rfl ?_
   exact RL.nil (N.meet (.to rfl) (.to rfl))
  ·
   intro hg17
   refine RL.gskip rfl rfl rfl rfl ?_
   refine RL.gskip rfl rfl rfl rfl ?_
   refine RL.q Yld.pk rfl ?_
   exact RL.nil (N.meet (.to rfl) (.to rfl))
  refine RL.q (Yld.assign rfl) rfl (RL.nil (N.next ?_))
  refine W.keep (.of [2] rfl) (.of [0] rfl) ?_
  refine W.ret ?_
  exact N.retBy [] (.cons (.tmp rfl) .nil) rfl rfl rfl rfl ⟨by show Value.bool _ = Value.bool _; congr 1; rw [Bool.eq_iff_iff]; (try simp only [Bool.and_eq_true, Bool.or_eq_true, decide_eq_true_eq]); unfold goodC; omega, rfl⟩
set_option maxRecDepth 100000 in
set_option maxHeartbeats 400000 in
theorem indexFuncS_ct (s : Ky) (hs : s.size ≤ 9223372036854775807) : Ct Tryz.prog 190 [.string s, .func (.func 119) [].toArray [].toArray, .bool true] [] (fun v Hs => (∃ r : Int, v = .int .i64 r ∧ decide (0 ≤ r) = !pB (AllGood s s.size)) ∧ Hs = []) := by
  refine Ct.body Tryz.func190 rfl Tryz.ntmps190 rfl ?_
  intro E F
  refine W.seq (W.region ?_)
  refine RL.q (Yld.assign rfl) rfl (RL.nil (N.next ?_))
  refine W.seq ?_
  refine W.seq (W.region ?_)
  refine RL.q (Yld.move rfl) rfl ?_
  refine RL.e (Eff.rangeS 110 Tryz.underlying9 rfl) rfl ?_
  rintro _ _ ⟨r10, rfl, rfl⟩
  refine RL.nil (N.next ?_)
  refine W.block ?_
  refine W.loopK (ι := Nat) (fun p => (p ≤ s.size ∧ AllGood s p)) (fun p => []) (fun p => [(110, single r10 (.stringIter s p))]) (fun p => s.size - p) (.of [1, 2, 10] rfl) (.of [0] rfl) 0 ?_ ?_ ?_ ?_
  · exact ⟨Nat.zero_le _, fun _ h => absurd h (Nat.not_lt_zero _)⟩
  · exact .nil
  · exact (.to rfl)
  rintro p ⟨hp, hI⟩
  refine W.keep (.of [1, 2, 10] rfl) (.of [110, 0] rfl) ?_
  refine W.seq (W.region ?_)
  refine RL.e (Eff.nextS (c := 110) rfl rfl) rfl ?_
  rintro _ _ ⟨rfl, rfl⟩
  refine RL.q (Yld.extract rfl (nxS_ok _ _)) rfl ?_
  refine RL.nil (N.next ?_)
  refine W.seq ?_
  refine W.cond rfl (fun hc12 => ?_) (fun hc12 => ?_)
  ·
   have hlt : p < s.size := of_decide_eq_true hc12
   refine W.skip ?_
   refine N.next ?_
   refine W.block ?_
   refine W.seq (W.region ?_)
   refine RL.q (Yld.extract rfl (nxS_at (by assumption))) rfl ?_
   refine RL.q (Yld.extract rfl (nxS_rune (by assumption))) rfl ?_
   refine RL.q (Yld.assign rfl) rfl (RL.q (Yld.assign rfl) rfl (RL.nil (N.next ?_)))
   refine W.keep (.of [1, 2, 7, 8, 10] rfl) (.of [0, 110] rfl) ?_
   refine W.seq (W.region ?_)
   refine RL.q (Yld.move rfl) rfl (RL.q (Yld.move rfl) rfl ?_)
   refine RL.e (Eff.callV ent119 [] [] rfl (.cons rfl .nil) (oddC_ct _) rfl rfl rfl rfl (by rintro _ _ ⟨_, rfl⟩; rfl)) rfl ?_
   rintro _ _ ⟨_, ⟨rfl, rfl⟩, rfl⟩
   refine RL.q (Yld.move rfl) rfl ?_
   refine RL.q (Yld.bin rfl rfl (BinV.eqlB Tryz.underlying4)) rfl ?_
   refine RL.nil (N.next ?_)
   refine W.keep (.of [1, 2, 7, 10, 19] rfl) (.of [0, 110] rfl) ?_
   refine W.cond rfl (fun hc19 => ?_) (fun hc19 => ?_)
   ·
    have hbad : ¬ AllGood s s.size := fun h => by
      have h1 := h p hlt
      have h2 := dec_lo (goodC_lt h1)
      rw [h2] at hc19
      have h3 : ¬ goodC (((s.get! p).toNat : Nat) : Int) := by simpa using hc19
      exact h3 h1
    refine W.seq (W.region ?_)
    refine RL.q (Yld.move rfl) rfl (RL.q (Yld.assign rfl) rfl (RL.nil (N.next ?_)))
    refine W.keep (.of [6] rfl) (.of [0, 110] rfl) ?_
    refine W.ret ?_
    refine N.block_ret ?_
    refine N.then_ret ?_
    refine N.block_ret ?_
    refine N.then_ret ?_
    exact N.retBy [] (.cons (.tmp rfl) .nil) rfl rfl rfl rfl ⟨⟨_, rfl, by rw [decide_eq_true (show (0 : Int) ≤ p by omega), pB_not hbad]; rfl⟩, rfl⟩
   ·
    have hgr : goodC ((Utf8.decode s p).1 : Int) := by simpa using hc19
    have hlo : at_ s p < 128 := Classical.byContradiction fun h => by have := dec_hi h; have := goodC_lt hgr; omega
    have hd := dec_lo hlo
    have hg : goodC (at_ s p) := by rw [hd] at hgr; exact hgr
    have hdec : (Utf8.decode s p).2 = 1 := by rw [hd]
    refine W.skip ?_
    refine N.block_normal ?_
    exact N.famK (p + 1) ⟨⟨by omega, hI.step hg⟩, by omega⟩ .nil (.to rfl) (.as rfl (by unfold nxP; rw [if_pos (by omega), hdec]) .nil) (.to rfl)
  ·
   have hend : p = s.size := by have := of_decide_eq_false hc12; omega
   refine W.exit ?_
   refine N.then_exit ?_
   refine N.then_exit ?_
   refine N.block_eq ?_
   refine N.next ?_
   refine W.keep .nil (.of [0, 110] rfl) ?_
   refine W.seq (W.region ?_)
   refine RL.q (Yld.assign rfl) rfl (RL.nil (N.next ?_))
   refine W.ret ?_
   exact N.retBy [] (.cons (.tmp rfl) .nil) rfl rfl rfl rfl ⟨⟨_, rfl, by rw [pB_true (hend ▸ hI)]; rfl⟩, rfl⟩
set_option maxRecDepth 100000 in
set_option maxHeartbeats 400000 in
theorem indexFuncS1_ct (s : Ky) (hs : s.size ≤ 9223372036854775807) : Ct Tryz.prog 163 [.string s, .func (.func 119) [].toArray [].toArray] [] (fun v Hs => (∃ r : Int, v = .int .i64 r ∧ decide (0 ≤ r) = !pB (AllGood s s.size)) ∧ Hs = []) := by
  refine Ct.body Tryz.func163 rfl Tryz.ntmps163 rfl ?_
  intro E F
  refine W.seq (W.region ?_)
  refine RL.q (Yld.assign rfl) rfl (RL.nil (N.next ?_))
  refine W.seq (W.region ?_)
  refine RL.q (Yld.move rfl) rfl (RL.q (Yld.move rfl) rfl ?_)
  refine RL.e (Eff.call ent190 [] [] (.cons rfl (.cons rfl (.cons rfl .nil))) (indexFuncS_ct s hs) rfl rfl rfl rfl (by rintro _ _ ⟨_, rfl⟩; rfl)) rfl ?_
  rintro _ _ ⟨_, ⟨⟨r, rfl, hr⟩, rfl⟩, rfl⟩
  refine RL.q (Yld.assign rfl) rfl (RL.nil (N.next ?_))
  refine W.keep (.of [4] rfl) (.of [0] rfl) ?_
  refine W.ret ?_
  exact N.retBy [] (.cons (.tmp rfl) .nil) rfl rfl rfl rfl ⟨⟨_, rfl, hr⟩, rfl⟩
set_option maxRecDepth 100000 in
set_option maxHeartbeats 400000 in
theorem containsFuncS_ct (s : Ky) (hs : s.size ≤ 9223372036854775807) : Ct Tryz.prog 120 [.string s, .func (.func 119) [].toArray [].toArray] [] (fun v Hs => v = .bool (!pB (AllGood s s.size)) ∧ Hs = []) := by
  refine Ct.body Tryz.func120 rfl Tryz.ntmps120 rfl ?_
  intro E F
  refine W.seq (W.region ?_)
  refine RL.q (Yld.assign rfl) rfl (RL.nil (N.next ?_))
  refine W.seq (W.region ?_)
  refine RL.q (Yld.move rfl) rfl (RL.q (Yld.move rfl) rfl ?_)
  refine RL.e (Eff.call ent163 [] [] (.cons rfl (.cons rfl .nil)) (indexFuncS1_ct s hs) rfl rfl rfl rfl (by rintro _ _ ⟨_, rfl⟩; rfl)) rfl ?_
  rintro _ _ ⟨_, ⟨⟨r, rfl, hr⟩, rfl⟩, rfl⟩
  refine RL.q (Yld.bin rfl rfl BinV.geq) rfl ?_
  refine RL.q (Yld.assign rfl) rfl (RL.nil (N.next ?_))
  refine W.keep (.of [4] rfl) (.of [0] rfl) ?_
  refine W.ret ?_
  exact N.retBy [] (.cons (.tmp rfl) .nil) rfl rfl rfl rfl ⟨by show Value.bool _ = _; congr 1, rfl⟩
end Go.Proofs.YtboapdcmaeojgaaGreatDoor
namespace Go.Proofs.YtboapdcmaeojgaaGreatDoor
open SL Cat
set_option linter.unusedVariables false
set_option linter.unusedSimpArgs false
theorem ent44 : Ent Tryz.prog 44 := ⟨_, _, Tryz.func44, by kernel_rfl, rfl⟩
theorem ent83 : Ent Tryz.prog 83 := ⟨_, _, Tryz.func83, by kernel_rfl, rfl⟩
theorem ent84 : Ent Tryz.prog 84 := ⟨_, _, Tryz.func84, by kernel_rfl, rfl⟩
theorem ent85 : Ent Tryz.prog 85 := ⟨_, _, Tryz.func85, by kernel_rfl, rfl⟩
set_option maxRecDepth 100000 in
set_option maxHeartbeats 1600000 in
theorem rracks_ct (m : Md) (H1 : PH) (hM : m.In H1) : Ct Tryz.prog 84 [.agg [.slice m.psi m.si.length m.csi, .slice m.pfe m.fe.length m.cfe, .slice m.prk m.rk.length m.crk, .slice m.pmc m.mc.length m.cmc, .slice m.pln m.ln.length m.cln, .slice m.pis m.is.length m.cis, .int .i64 m.da, .int .i64 m.sl, .int .i64 m.re, .int .i64 m.fa, .slice m.prl m.rl.length m.crl].toArray] [H1] (fun v Hs => v = .bool (pB (∀ (i : Nat) x, m.rk[i]? = some x → RkOK m i x)) ∧ Hs = [H1]) := by
  refine Ct.body Tryz.func84 rfl Tryz.ntmps84 rfl ?_
  intro E F
  have hSl := hM.rk
  have hmx := hSl.len_le
  simp only [List.length_map, maxLen] at hmx
  have hm0 := hM.si.len_le
  simp only [tz_len, maxLen] at hm0
  refine W.seq (W.region ?_)
  refine RL.e (Eff.box 101 _ rfl rfl) rfl ?_
  rintro _ _ ⟨b1, rfl, rfl⟩
  refine RL.q (Yld.assign rfl) rfl (RL.nil (N.next ?_))
  refine W.seq ?_
  refine W.seq (W.region ?_)
  refine RL.q (Yld.assign rfl) rfl (RL.nil (N.next ?_))
  refine W.block ?_
  refine W.loopK (ι := Nat) (fun i => (i ≤ m.rk.length ∧ ∀ (k : Nat) x, k < i → m.rk[k]? = some x → RkOK m k x)) (fun i => [(3, .int .i64 (i : Nat))]) (fun i => []) (fun i => m.rk.length - i) (.of [1] rfl) (.of [0, 1, 101] rfl) 0 ?_ ?_ ?_ ?_
  · exact ⟨Nat.zero_le _, fun _ _ h => absurd h (Nat.not_lt_zero _)⟩
  · exact (.as rfl (by first | rfl | (simp; done) | (congr 1; simp; done) | (congr 1; omega)) .nil)
  · exact .nil
  rintro i ⟨hi, hI⟩
  refine W.keep (.of [3, 1] rfl) (.of [0, 1, 101] rfl) ?_
  refine W.seq ?_
  refine W.seq (W.region ?_)
  refine RL.q (Yld.move rfl) rfl ?_
  refine RL.q (Yld.fieldAddr fo29_2 rfl) rfl ?_
  refine RL.q (Yld.ld 101 Tryz.underlying23 rfl rfl rfl rfl) rfl ?_
  refine RL.q (Yld.lenSl Tryz.underlying23 rfl) rfl ?_
  refine RL.q (Yld.bin rfl rfl BinV.lss) rfl ?_
  refine RL.nil (N.next ?_)
  refine W.keep (.of [1, 3, 10] rfl) (.of [0, 1, 101] rfl) ?_
  first | refine W.condD rfl (fun hc10 => ?_) (fun hc10 => ?_) | (refine W.cond rfl (fun hc10 => ?_) (fun hc10 => ?_) <;> try simp only [Bool.or_eq_true, Bool.and_eq_true, Bool.not_eq_true', Bool.not_eq_false', decide_eq_true_eq, Bool.or_eq_false_iff, Bool.and_eq_false_iff, decide_eq_false_iff_not, beq_iff_eq, beq_eq_false_iff_ne, ne_eq, Decidable.not_not] at hc10)
  ·
   obtain ⟨x, hx⟩ : ∃ x, m.rk[i]? = some x := ⟨_, List.getElem?_eq_getElem (show i < m.rk.length by first | omega | (simp only [List.length_map] at *; omega))⟩
   have hlx : (m.rk.map Rk.c)[i]? = some x.c := by simp [hx]
   refine W.skip ?_
   refine N.next ?_
   refine W.seq ?_
   refine W.block ?_
   refine W.seq (W.region ?_)
   refine RL.q (Yld.fieldAddr fo29_2 rfl) rfl ?_
   refine RL.q (Yld.ld 101 Tryz.underlying23 rfl rfl rfl rfl) rfl ?_
   refine RL.q (Yld.move rfl) rfl ?_
   refine RL.q (Yld.ixr Tryz.underlying23 sz93 rfl rfl) rfl ?_
   refine RL.q (by first | exact Yld.lrA 1 Tryz.underlying93 sz93 rfl rfl rfl | exact Yld.lrA 101 Tryz.underlying93 sz93 rfl rfl rfl) rfl ?_
   refine RL.e (Eff.alloc 104 zc93) rfl ?_
   rintro _ _ ⟨b4, rfl, rfl⟩
   refine RL.e0 (Eff.storeS (c := 104) _ sz93 rfl rfl rfl rfl rfl rfl rfl (by (try simp only [putAt, List.take, List.drop, List.nil_append, List.cons_append, List.append_nil, List.length_cons, List.length_nil, Nat.add_zero, Nat.zero_add, Nat.reduceAdd]); rfl)) ?_
   rintro _ _ rfl
   refine RL.nil (N.next ?_)
   refine W.keep (.of [1, 3, 4] rfl) (.of [0, 1, 101, 104] rfl) ?_
   refine W.seq ?_
   refine W.seq (W.region ?_)
   refine RL.q (Yld.fieldAddr fo93_1 rfl) rfl ?_
   refine RL.q (Yld.ld 104 Tryz.underlying3 rfl rfl rfl rfl) rfl ?_
   refine RL.q (Yld.fieldAddr fo29_0 rfl) rfl ?_
   refine RL.q (Yld.ld 101 Tryz.underlying22 rfl rfl rfl rfl) rfl ?_
   refine RL.q (Yld.lenSl Tryz.underlying22 rfl) rfl ?_
   refine RL.e (Eff.call ent44 [] [] (.cons rfl (.cons rfl .nil)) (rexists_ct x.si m.si.length) rfl rfl rfl rfl (by rintro _ _ ⟨_, rfl⟩; rfl)) rfl ?_
   rintro _ _ ⟨_, ⟨rfl, rfl⟩, rfl⟩
   refine RL.q Yld.nt rfl (RL.q (Yld.move rfl) rfl ?_)
   refine' RL.or (t := 25) (d := 33) 8 rfl (.of [1, 3, 4, 18, 19, 20, 21, 22, 23, 24] rfl) (.of [0, 1, 101, 104] rfl) ?_ ?_ ?_
   rotate_left 1
   ·
    intro hg25
    refine RL.gq rfl rfl (Yld.fieldAddr fo93_2 rfl) rfl ?_
    refine RL.gq rfl rfl (Yld.ld 104 Tryz.underlying3 rfl rfl rfl rfl) rfl ?_
    refine RL.gq rfl rfl (Yld.fieldAddr fo29_1 rfl) rfl ?_
    refine RL.gq rfl rfl (Yld.ld 101 Tryz.underlying22 rfl rfl rfl rfl) rfl ?_
    refine RL.gq rfl rfl (Yld.lenSl Tryz.underlying22 rfl) rfl ?_
    refine RL.ge rfl rfl (Eff.call ent44 [] [] (.cons rfl (.cons rfl .nil)) (rexists_ct x.fe m.fe.length) rfl rfl rfl rfl (by rintro _ _ ⟨_, rfl⟩; rfl)) rfl ?_
    rintro _ _ ⟨_, ⟨rfl, rfl⟩, rfl⟩
    refine RL.gq rfl rfl Yld.nt rfl ?_
    refine RL.q Yld.pk rfl ?_
    exact RL.nil (N.meet (.to rfl) (.to rfl))
   ·
    intro hg25
    refine RL.gskip rfl rfl rfl rfl ?_
    refine RL.gskip rfl rfl rfl rfl ?_
    refine RL.gskip rfl rfl rfl rfl ?_
    refine RL.gskip rfl rfl rfl rfl ?_
    refine RL.gskip rfl rfl rfl rfl ?_
    refine RL.gskip rfl rfl rfl rfl ?_
    refine RL.gskip rfl rfl rfl rfl ?_
    refine RL.q Yld.pk rfl ?_
    exact RL.nil (N.meet (.to rfl) (.to rfl))
   refine RL.nil (N.next ?_)
   refine W.keep (.of [1, 3, 4, 33] rfl) (.of [0, 1, 101, 104] rfl) ?_
   refine W.cond rfl (fun hc33 => ?_) (fun hc33 => ?_)
   ·
    have hbad : ¬ RkOK m i x := fun h => by
      simp only [Bool.or_eq_true, Bool.and_eq_true, Bool.or_eq_false_iff, Bool.and_eq_false_iff, Bool.not_eq_true', Bool.not_eq_false', decide_eq_true_eq, decide_eq_false_iff_not, Classical.not_not, pB_iff, pB_f] at hc33
      exact hc33.elim (fun h' => h' h.1) (fun h' => h' h.2.1)
    refine W.seq (W.region ?_)
    refine RL.q (Yld.assign rfl) rfl (RL.nil (N.next ?_))
    refine W.keep (.of [2] rfl) (.of [0, 1, 101, 104] rfl) ?_
    refine W.ret ?_
    refine N.then_ret ?_
    refine N.block_ret ?_
    refine N.then_ret ?_
    refine N.then_ret ?_
    refine N.block_ret ?_
    refine N.then_ret ?_
    exact N.retBy [1] (.cons (.tmp rfl) .nil) rfl rfl rfl rfl ⟨by rw [pB_not (fun h => hbad (h i x hx))]; rfl, rfl⟩
   ·
    simp only [Bool.or_eq_true, Bool.and_eq_true, Bool.or_eq_false_iff, Bool.and_eq_false_iff, Bool.not_eq_true', Bool.not_eq_false', decide_eq_true_eq, decide_eq_false_iff_not, Classical.not_not, pB_iff, pB_f] at hc33
    refine W.skip ?_
    refine N.next ?_
    refine W.seq (W.region ?_)
    refine RL.q (Yld.assign rfl) rfl (RL.nil (N.next ?_))
    refine W.block ?_
    refine W.loopK (ι := Nat) (fun k => (k ≤ i ∧ ∀ (q : Nat) y, q < k → m.rk[q]? = some y → ¬ (y.fe = x.fe ∧ y.si ≠ x.si))) (fun k => [(5, .int .i64 (k : Nat))]) (fun k => []) (fun k => i - k) (.of [1, 3, 4] rfl) (.of [0, 1, 101, 104] rfl) 0 ?_ ?_ ?_ ?_
    · exact ⟨Nat.zero_le _, fun _ _ h => absurd h (Nat.not_lt_zero _)⟩
    · exact (.as rfl (by first | rfl | (simp; done) | (congr 1; simp; done) | (congr 1; omega)) .nil)
    · exact .nil
    rintro k ⟨hk, hJ⟩
    refine W.keep (.of [5, 1, 3, 4] rfl) (.of [0, 1, 101, 104] rfl) ?_
    refine W.seq ?_
    refine W.seq (W.region ?_)
    refine RL.q (Yld.move rfl) rfl (RL.q (Yld.move rfl) rfl ?_)
    refine RL.q (Yld.bin rfl rfl BinV.lss) rfl ?_
    refine RL.nil (N.next ?_)
    first | refine W.condD rfl (fun hc36 => ?_) (fun hc36 => ?_) | (refine W.cond rfl (fun hc36 => ?_) (fun hc36 => ?_) <;> try simp only [Bool.or_eq_true, Bool.and_eq_true, Bool.not_eq_true', Bool.not_eq_false', decide_eq_true_eq, Bool.or_eq_false_iff, Bool.and_eq_false_iff, decide_eq_false_iff_not, beq_iff_eq, beq_eq_false_iff_ne, ne_eq, Decidable.not_not] at hc36)
    ·
     obtain ⟨z, hz⟩ : ∃ z, m.rk[k]? = some z := ⟨_, List.getElem?_eq_getElem (show k < m.rk.length by first | omega | (simp only [List.length_map] at *; omega))⟩
     have hlz : (m.rk.map Rk.c)[k]? = some z.c := by simp [hz]
     refine W.skip ?_
     refine N.next ?_
     refine W.seq ?_
     refine W.block ?_
     refine W.seq ?_
     refine W.draw (.q 0 (.q 1 (.q 2 (.q 3 (.q 4 (.q 5 (.q 6 (.q 7 (.q 8 (.q 9 (.q 10 (.q 11 (.q 12 (.q 13 (.q 14 (.q 15 (.q 16 (.q 17 (.q 18 (.q 19 .done)))))))))))))))))))) (.of [0, 1, 101, 104] rfl) mix (by kernel_rfl) (by kernel_rfl) ?_
     refine DL.q rfl (Yld.fieldAddr fo29_2 rfl) rfl ?_
     refine DL.q rfl (Yld.ld 101 Tryz.underlying23 rfl rfl rfl rfl) rfl ?_
     refine DL.q rfl (Yld.move rfl) rfl ?_
     refine DL.q rfl (Yld.ixr Tryz.underlying23 sz93 rfl rfl) rfl ?_
     refine DL.q rfl (Yld.fieldAddr fo93_2 rfl) rfl ?_
     refine DL.q rfl (by first | exact Yld.lrF 1 2 Tryz.underlying3 rfl rfl rfl rfl | exact Yld.lrF 101 2 Tryz.underlying3 rfl rfl rfl rfl | exact Yld.lrF 104 2 Tryz.underlying3 rfl rfl rfl rfl) rfl ?_
     refine DL.q rfl (Yld.fieldAddr fo93_2 rfl) rfl ?_
     refine DL.q rfl (Yld.ld 104 Tryz.underlying3 rfl rfl rfl rfl) rfl ?_
     refine DL.q rfl (Yld.bin rfl rfl BinV.eql) rfl ?_
     refine DL.q rfl (Yld.move rfl) rfl ?_
     refine' DL.and (t := 48) (d := 58) 10 rfl (.of [1, 3, 4, 5, 34, 35, 36, 39, 40, 41, 42, 43, 44, 45, 46, 47] rfl) (.of [0, 1, 101, 104] rfl) ?_ ?_ ?_
     rotate_left 1
     ·
      intro hg48
      refine DL.gq rfl rfl rfl (Yld.fieldAddr fo29_2 rfl) rfl ?_
      refine DL.gq rfl rfl rfl (Yld.ld 101 Tryz.underlying23 rfl rfl rfl rfl) rfl ?_
      refine DL.gq rfl rfl rfl (Yld.move rfl) rfl ?_
      refine DL.gq rfl rfl rfl (Yld.ixr Tryz.underlying23 sz93 rfl rfl) rfl ?_
      refine DL.gq rfl rfl rfl (Yld.fieldAddr fo93_1 rfl) rfl ?_
      refine DL.gq rfl rfl rfl (by first | exact Yld.lrF 1 1 Tryz.underlying3 rfl rfl rfl rfl | exact Yld.lrF 101 1 Tryz.underlying3 rfl rfl rfl rfl | exact Yld.lrF 104 1 Tryz.underlying3 rfl rfl rfl rfl) rfl ?_
      refine DL.gq rfl rfl rfl (Yld.fieldAddr fo93_1 rfl) rfl ?_
      refine DL.gq rfl rfl rfl (Yld.ld 104 Tryz.underlying3 rfl rfl rfl rfl) rfl ?_
      refine DL.gq rfl rfl rfl (Yld.bin rfl rfl BinV.neq) rfl ?_
      refine DL.q rfl Yld.pk rfl ?_
      exact DL.meet (.to rfl) (.to rfl)
     ·
      intro hg48
      refine DL.gskip rfl rfl rfl rfl rfl ?_
      refine DL.gskip rfl rfl rfl rfl rfl ?_
      refine DL.gskip rfl rfl rfl rfl rfl ?_
      refine DL.gskip rfl rfl rfl rfl rfl ?_
      refine DL.gskip rfl rfl rfl rfl rfl ?_
      refine DL.gskip rfl rfl rfl rfl rfl ?_
      refine DL.gskip rfl rfl rfl rfl rfl ?_
      refine DL.gskip rfl rfl rfl rfl rfl ?_
      refine DL.gskip rfl rfl rfl rfl rfl ?_
      refine DL.q rfl Yld.pk rfl ?_
      exact DL.meet (.to rfl) (.to rfl)
     refine DL.done ?_
     refine N.next ?_
     refine W.keep (.of [1, 3, 4, 5, 58] rfl) (.of [0, 1, 101, 104] rfl) ?_
     refine W.cond rfl (fun hc58 => ?_) (fun hc58 => ?_)
     ·
      have hbad : ¬ RkOK m i x := fun h => h.2.2 k z (by omega) hz (by simpa using hc58)
      refine W.seq (W.region ?_)
      refine RL.q (Yld.assign rfl) rfl (RL.nil (N.next ?_))
      refine W.keep (.of [2] rfl) (.of [0, 1, 101, 104] rfl) ?_
      refine W.ret ?_
      refine N.block_ret ?_
      refine N.then_ret ?_
      refine N.then_ret ?_
      refine N.block_ret ?_
      refine N.block_ret ?_
      refine N.then_ret ?_
      refine N.then_ret ?_
      refine N.block_ret ?_
      refine N.then_ret ?_
      exact N.retBy [1] (.cons (.tmp rfl) .nil) rfl rfl rfl rfl ⟨by rw [pB_not (fun h => hbad (h i x hx))]; rfl, rfl⟩
     ·
      have hc58 : ¬ (z.fe = x.fe ∧ z.si ≠ x.si) := by simpa using hc58
      refine W.skip ?_
      refine N.block_normal ?_
      refine N.next ?_
      refine W.region ?_
      refine RL.q (Yld.move rfl) rfl ?_
      refine RL.q (Yld.bin rfl rfl (by first | exact BinV.add (by omega) (by omega) | exact BinV.addW)) rfl ?_
      refine RL.q (Yld.assign rfl) rfl (RL.nil ?_)
      exact N.famK (k + 1) ⟨⟨by omega, fun q y hq hy => (Nat.lt_succ_iff_lt_or_eq.1 hq).elim (fun h => hJ q y h hy) (fun e => by subst e; rw [hz] at hy; cases hy; exact hc58)⟩, by omega⟩ (.as rfl (by first | rfl | (simp; done) | (congr 1; simp; done) | (congr 1; omega)) .nil) (.to rfl) .nil (.to rfl)
    ·
     have hend : k = i := by omega
     have hall : ∀ (q : Nat) y, q < i → m.rk[q]? = some y → ¬ (y.fe = x.fe ∧ y.si ≠ x.si) := by rw [← hend]; exact hJ
     refine W.exit ?_
     refine N.then_exit ?_
     refine N.then_exit ?_
     refine N.block_eq ?_
     refine N.block_normal ?_
     refine N.next ?_
     refine W.keep (.of [1, 3] rfl) (.of [0, 1, 101, 104] rfl) ?_
     refine W.region ?_
     refine RL.q (Yld.move rfl) rfl ?_
     refine RL.q (Yld.bin rfl rfl (by first | exact BinV.add (by omega) (by omega) | exact BinV.addW)) rfl ?_
     refine RL.q (Yld.assign rfl) rfl (RL.nil ?_)
     exact N.famK (i + 1) ⟨⟨by omega, fun q y hq hy => (Nat.lt_succ_iff_lt_or_eq.1 hq).elim (fun h => hI q y h hy) (fun e => by subst e; rw [hx] at hy; cases hy; exact ⟨hc33.1, hc33.2, hall⟩)⟩, by omega⟩ (.as rfl (by first | rfl | (simp; done) | (congr 1; simp; done) | (congr 1; omega)) .nil) (.to rfl) .nil (.to rfl)
  ·
   refine W.exit ?_
   refine N.then_exit ?_
   refine N.then_exit ?_
   refine N.block_eq ?_
   refine N.next ?_
   refine W.seq (W.region ?_)
   refine RL.q (Yld.assign rfl) rfl (RL.nil (N.next ?_))
   refine W.ret ?_
   exact N.retBy [1] (.cons (.tmp rfl) .nil) rfl rfl rfl rfl ⟨by rw [pB_true (fun k x hx => hI k x (by have := (List.getElem?_eq_some_iff.1 hx).1; omega) hx)]; rfl, rfl⟩
set_option maxRecDepth 100000 in
set_option maxHeartbeats 1600000 in
theorem rlinks_ct (m : Md) (H1 : PH) (hM : m.In H1) : Ct Tryz.prog 85 [.agg [.slice m.psi m.si.length m.csi, .slice m.pfe m.fe.length m.cfe, .slice m.prk m.rk.length m.crk, .slice m.pmc m.mc.length m.cmc, .slice m.pln m.ln.length m.cln, .slice m.pis m.is.length m.cis, .int .i64 m.da, .int .i64 m.sl, .int .i64 m.re, .int .i64 m.fa, .slice m.prl m.rl.length m.crl].toArray] [H1] (fun v Hs => v = .bool (pB (∀ (i : Nat) x, m.ln[i]? = some x → LnOK m i x)) ∧ Hs = [H1]) := by
  refine Ct.body Tryz.func85 rfl Tryz.ntmps85 rfl ?_
  intro E F
  have hSl := hM.ln
  have hmx := hSl.len_le
  simp only [List.length_map, maxLen] at hmx
  have hm0 := hM.si.len_le
  simp only [tz_len, maxLen] at hm0
  refine W.seq (W.region ?_)
  refine RL.e (Eff.box 101 _ rfl rfl) rfl ?_
  rintro _ _ ⟨b1, rfl, rfl⟩
  refine RL.q (Yld.assign rfl) rfl (RL.nil (N.next ?_))
  refine W.seq ?_
  refine W.seq (W.region ?_)
  refine RL.q (Yld.assign rfl) rfl (RL.nil (N.next ?_))
  refine W.block ?_
  refine W.loopK (ι := Nat) (fun i => (i ≤ m.ln.length ∧ ∀ (k : Nat) x, k < i → m.ln[k]? = some x → LnOK m k x)) (fun i => [(3, .int .i64 (i : Nat))]) (fun i => []) (fun i => m.ln.length - i) (.of [1] rfl) (.of [0, 1, 101] rfl) 0 ?_ ?_ ?_ ?_
  · exact ⟨Nat.zero_le _, fun _ _ h => absurd h (Nat.not_lt_zero _)⟩
  · exact (.as rfl (by first | rfl | (simp; done) | (congr 1; simp; done) | (congr 1; omega)) .nil)
  · exact .nil
  rintro i ⟨hi, hI⟩
  refine W.keep (.of [3, 1] rfl) (.of [0, 1, 101] rfl) ?_
  refine W.seq ?_
  refine W.seq (W.region ?_)
  refine RL.q (Yld.move rfl) rfl ?_
  refine RL.q (Yld.fieldAddr fo29_4 rfl) rfl ?_
  refine RL.q (Yld.ld 101 Tryz.underlying25 rfl rfl rfl rfl) rfl ?_
  refine RL.q (Yld.lenSl Tryz.underlying25 rfl) rfl ?_
  refine RL.q (Yld.bin rfl rfl BinV.lss) rfl ?_
  refine RL.nil (N.next ?_)
  refine W.keep (.of [1, 3, 10] rfl) (.of [0, 1, 101] rfl) ?_
  first | refine W.condD rfl (fun hc10 => ?_) (fun hc10 => ?_) | (refine W.cond rfl (fun hc10 => ?_) (fun hc10 => ?_) <;> try simp only [Bool.or_eq_true, Bool.and_eq_true, Bool.not_eq_true', Bool.not_eq_false', decide_eq_true_eq, Bool.or_eq_false_iff, Bool.and_eq_false_iff, decide_eq_false_iff_not, beq_iff_eq, beq_eq_false_iff_ne, ne_eq, Decidable.not_not] at hc10)
  ·
   obtain ⟨x, hx⟩ : ∃ x, m.ln[i]? = some x := ⟨_, List.getElem?_eq_getElem (show i < m.ln.length by first | omega | (simp only [List.length_map] at *; omega))⟩
   have hlx : (m.ln.map Ln.c)[i]? = some x.c := by simp [hx]
   refine W.skip ?_
   refine N.next ?_
   refine W.seq ?_
   refine W.block ?_
   refine W.seq (W.region ?_)
   refine RL.q (Yld.fieldAddr fo29_4 rfl) rfl ?_
   refine RL.q (Yld.ld 101 Tryz.underlying25 rfl rfl rfl rfl) rfl ?_
   refine RL.q (Yld.move rfl) rfl ?_
   refine RL.q (Yld.ixr Tryz.underlying25 sz162 rfl rfl) rfl ?_
   refine RL.q (by first | exact Yld.lrA 1 Tryz.underlying162 sz162 rfl rfl rfl | exact Yld.lrA 101 Tryz.underlying162 sz162 rfl rfl rfl) rfl ?_
   refine RL.e (Eff.alloc 104 zc162) rfl ?_
   rintro _ _ ⟨b4, rfl, rfl⟩
   refine RL.e0 (Eff.storeS (c := 104) _ sz162 rfl rfl rfl rfl rfl rfl rfl (by (try simp only [putAt, List.take, List.drop, List.nil_append, List.cons_append, List.append_nil, List.length_cons, List.length_nil, Nat.add_zero, Nat.zero_add, Nat.reduceAdd]); rfl)) ?_
   rintro _ _ rfl
   refine RL.nil (N.next ?_)
   refine W.keep (.of [1, 3, 4] rfl) (.of [0, 1, 101, 104] rfl) ?_
   refine W.seq ?_
   refine W.seq (W.region ?_)
   refine RL.q (Yld.fieldAddr fo162_0 rfl) rfl ?_
   refine RL.q (Yld.ld 104 Tryz.underlying3 rfl rfl rfl rfl) rfl ?_
   refine RL.q (Yld.bin rfl rfl BinV.lss) rfl ?_
   refine RL.q (Yld.move rfl) rfl ?_
   refine' RL.or (t := 21) (d := 27) 6 rfl (.of [1, 3, 4, 18, 19, 20] rfl) (.of [0, 1, 101, 104] rfl) ?_ ?_ ?_
   rotate_left 1
   ·
    intro hg21
    refine RL.gq rfl rfl (Yld.fieldAddr fo162_0 rfl) rfl ?_
    refine RL.gq rfl rfl (Yld.ld 104 Tryz.underlying3 rfl rfl rfl rfl) rfl ?_
    refine RL.gq rfl rfl (Yld.fieldAddr fo162_1 rfl) rfl ?_
    refine RL.gq rfl rfl (Yld.ld 104 Tryz.underlying3 rfl rfl rfl rfl) rfl ?_
    refine RL.gq rfl rfl (Yld.bin rfl rfl BinV.geq) rfl ?_
    refine RL.q Yld.pk rfl ?_
    exact RL.nil (N.meet (.to rfl) (.to rfl))
   ·
    intro hg21
    refine RL.gskip rfl rfl rfl rfl ?_
    refine RL.gskip rfl rfl rfl rfl ?_
    refine RL.gskip rfl rfl rfl rfl ?_
    refine RL.gskip rfl rfl rfl rfl ?_
    refine RL.gskip rfl rfl rfl rfl ?_
    refine RL.q Yld.pk rfl ?_
    exact RL.nil (N.meet (.to rfl) (.to rfl))
   refine RL.q (Yld.move rfl) rfl ?_
   refine' RL.or (t := 28) (d := 35) 7 rfl (.of [1, 3, 4, 18, 19, 20, 27] rfl) (.of [0, 1, 101, 104] rfl) ?_ ?_ ?_
   rotate_left 1
   ·
    intro hg28
    refine RL.gq rfl rfl (Yld.fieldAddr fo162_1 rfl) rfl ?_
    refine RL.gq rfl rfl (Yld.ld 104 Tryz.underlying3 rfl rfl rfl rfl) rfl ?_
    refine RL.gq rfl rfl (Yld.fieldAddr fo29_0 rfl) rfl ?_
    refine RL.gq rfl rfl (Yld.ld 101 Tryz.underlying22 rfl rfl rfl rfl) rfl ?_
    refine RL.gq rfl rfl (Yld.lenSl Tryz.underlying22 rfl) rfl ?_
    refine RL.gq rfl rfl (Yld.bin rfl rfl BinV.gtr) rfl ?_
    refine RL.q Yld.pk rfl ?_
    exact RL.nil (N.meet (.to rfl) (.to rfl))
   ·
    intro hg28
    refine RL.gskip rfl rfl rfl rfl ?_
    refine RL.gskip rfl rfl rfl rfl ?_
    refine RL.gskip rfl rfl rfl rfl ?_
    refine RL.gskip rfl rfl rfl rfl ?_
    refine RL.gskip rfl rfl rfl rfl ?_
    refine RL.gskip rfl rfl rfl rfl ?_
    refine RL.q Yld.pk rfl ?_
    exact RL.nil (N.meet (.to rfl) (.to rfl))
   refine RL.q (Yld.move rfl) rfl ?_
   refine' RL.or (t := 36) (d := 41) 5 rfl (.of [1, 3, 4, 18, 19, 20, 27, 35] rfl) (.of [0, 1, 101, 104] rfl) ?_ ?_ ?_
   rotate_left 1
   ·
    intro hg36
    refine RL.gq rfl rfl (Yld.fieldAddr fo162_2 rfl) rfl ?_
    refine RL.gq rfl rfl (Yld.ld 104 Tryz.underlying3 rfl rfl rfl rfl) rfl ?_
    refine RL.ge rfl rfl (Eff.call ent83 [] [] (.cons rfl .nil) (rnumber_ct x.cp) rfl rfl rfl rfl (by rintro _ _ ⟨_, rfl⟩; rfl)) rfl ?_
    rintro _ _ ⟨_, ⟨rfl, rfl⟩, rfl⟩
    refine RL.gq rfl rfl Yld.nt rfl ?_
    refine RL.q Yld.pk rfl ?_
    exact RL.nil (N.meet (.to rfl) (.to rfl))
   ·
    intro hg36
    refine RL.gskip rfl rfl rfl rfl ?_
    refine RL.gskip rfl rfl rfl rfl ?_
    refine RL.gskip rfl rfl rfl rfl ?_
    refine RL.gskip rfl rfl rfl rfl ?_
    refine RL.q Yld.pk rfl ?_
    exact RL.nil (N.meet (.to rfl) (.to rfl))
   refine RL.nil (N.next ?_)
   refine W.keep (.of [1, 3, 4, 41] rfl) (.of [0, 1, 101, 104] rfl) ?_
   refine W.cond rfl (fun hc41 => ?_) (fun hc41 => ?_)
   ·
    have hbad : ¬ LnOK m i x := fun h => by
      obtain ⟨h1, h2, h3, h4, _⟩ := h
      simp only [Bool.or_eq_true, Bool.and_eq_true, Bool.or_eq_false_iff, Bool.and_eq_false_iff, Bool.not_eq_true', Bool.not_eq_false', decide_eq_true_eq, decide_eq_false_iff_not, Classical.not_not, pB_iff, pB_f] at hc41
      rcases hc41 with ((h' | h') | h') | h'
      · omega
      · omega
      · omega
      · exact h' h4
    refine W.seq (W.region ?_)
    refine RL.q (Yld.assign rfl) rfl (RL.nil (N.next ?_))
    refine W.keep (.of [2] rfl) (.of [0, 1, 101, 104] rfl) ?_
    refine W.ret ?_
    refine N.then_ret ?_
    refine N.block_ret ?_
    refine N.then_ret ?_
    refine N.then_ret ?_
    refine N.block_ret ?_
    refine N.then_ret ?_
    exact N.retBy [1] (.cons (.tmp rfl) .nil) rfl rfl rfl rfl ⟨by rw [pB_not (fun h => hbad (h i x hx))]; rfl, rfl⟩
   ·
    simp only [Bool.or_eq_true, Bool.and_eq_true, Bool.or_eq_false_iff, Bool.and_eq_false_iff, Bool.not_eq_true', Bool.not_eq_false', decide_eq_true_eq, decide_eq_false_iff_not, Classical.not_not, pB_iff, pB_f] at hc41
    refine W.skip ?_
    refine N.next ?_
    refine W.seq (W.region ?_)
    refine RL.q (Yld.assign rfl) rfl (RL.nil (N.next ?_))
    refine W.block ?_
    refine W.loopK (ι := Nat) (fun k => (k ≤ i ∧ ∀ (q : Nat) y, q < k → m.ln[q]? = some y → ¬ (y.a = x.a ∧ y.b = x.b))) (fun k => [(5, .int .i64 (k : Nat))]) (fun k => []) (fun k => i - k) (.of [1, 3, 4] rfl) (.of [0, 1, 101, 104] rfl) 0 ?_ ?_ ?_ ?_
    · exact ⟨Nat.zero_le _, fun _ _ h => absurd h (Nat.not_lt_zero _)⟩
    · exact (.as rfl (by first | rfl | (simp; done) | (congr 1; simp; done) | (congr 1; omega)) .nil)
    · exact .nil
    rintro k ⟨hk, hJ⟩
    refine W.keep (.of [5, 1, 3, 4] rfl) (.of [0, 1, 101, 104] rfl) ?_
    refine W.seq ?_
    refine W.seq (W.region ?_)
    refine RL.q (Yld.move rfl) rfl (RL.q (Yld.move rfl) rfl ?_)
    refine RL.q (Yld.bin rfl rfl BinV.lss) rfl ?_
    refine RL.nil (N.next ?_)
    first | refine W.condD rfl (fun hc44 => ?_) (fun hc44 => ?_) | (refine W.cond rfl (fun hc44 => ?_) (fun hc44 => ?_) <;> try simp only [Bool.or_eq_true, Bool.and_eq_true, Bool.not_eq_true', Bool.not_eq_false', decide_eq_true_eq, Bool.or_eq_false_iff, Bool.and_eq_false_iff, decide_eq_false_iff_not, beq_iff_eq, beq_eq_false_iff_ne, ne_eq, Decidable.not_not] at hc44)
    ·
     obtain ⟨z, hz⟩ : ∃ z, m.ln[k]? = some z := ⟨_, List.getElem?_eq_getElem (show k < m.ln.length by first | omega | (simp only [List.length_map] at *; omega))⟩
     have hlz : (m.ln.map Ln.c)[k]? = some z.c := by simp [hz]
     refine W.skip ?_
     refine N.next ?_
     refine W.seq ?_
     refine W.block ?_
     refine W.seq ?_
     refine W.draw (.q 0 (.q 1 (.q 2 (.q 3 (.q 4 (.q 5 (.q 6 (.q 7 (.q 8 (.q 9 (.q 10 (.q 11 (.q 12 (.q 13 (.q 14 (.q 15 (.q 16 (.q 17 (.q 18 (.q 19 .done)))))))))))))))))))) (.of [0, 1, 101, 104] rfl) mix (by kernel_rfl) (by kernel_rfl) ?_
     refine DL.q rfl (Yld.fieldAddr fo29_4 rfl) rfl ?_
     refine DL.q rfl (Yld.ld 101 Tryz.underlying25 rfl rfl rfl rfl) rfl ?_
     refine DL.q rfl (Yld.move rfl) rfl ?_
     refine DL.q rfl (Yld.ixr Tryz.underlying25 sz162 rfl rfl) rfl ?_
     refine DL.q rfl (Yld.fieldAddr fo162_0 rfl) rfl ?_
     refine DL.q rfl (by first | exact (by first | exact Yld.loadRow1 (cl := 1) Tryz.underlying3 rfl rfl rfl (by first | assumption | exact Own.sl (by assumption)) (by assumption) | exact Yld.loadRow1 (cl := 101) Tryz.underlying3 rfl rfl rfl (by first | assumption | exact Own.sl (by assumption)) (by assumption) | exact Yld.loadRow1 (cl := 104) Tryz.underlying3 rfl rfl rfl (by first | assumption | exact Own.sl (by assumption)) (by assumption)) | exact (by first | exact Yld.lrF 1 0 Tryz.underlying3 rfl rfl rfl rfl | exact Yld.lrF 101 0 Tryz.underlying3 rfl rfl rfl rfl | exact Yld.lrF 104 0 Tryz.underlying3 rfl rfl rfl rfl)) rfl ?_
     refine DL.q rfl (Yld.fieldAddr fo162_0 rfl) rfl ?_
     refine DL.q rfl (Yld.ld 104 Tryz.underlying3 rfl rfl rfl rfl) rfl ?_
     refine DL.q rfl (Yld.bin rfl rfl BinV.eql) rfl ?_
     refine DL.q rfl (Yld.move rfl) rfl ?_
     refine' DL.and (t := 56) (d := 66) 10 rfl (.of [1, 3, 4, 5, 42, 43, 44, 47, 48, 49, 50, 51, 52, 53, 54, 55] rfl) (.of [0, 1, 101, 104] rfl) ?_ ?_ ?_
     rotate_left 1
     ·
      intro hg56
      refine DL.gq rfl rfl rfl (Yld.fieldAddr fo29_4 rfl) rfl ?_
      refine DL.gq rfl rfl rfl (Yld.ld 101 Tryz.underlying25 rfl rfl rfl rfl) rfl ?_
      refine DL.gq rfl rfl rfl (Yld.move rfl) rfl ?_
      refine DL.gq rfl rfl rfl (Yld.ixr Tryz.underlying25 sz162 rfl rfl) rfl ?_
      refine DL.gq rfl rfl rfl (Yld.fieldAddr fo162_1 rfl) rfl ?_
      refine DL.gq rfl rfl rfl (by first | exact Yld.lrF 1 1 Tryz.underlying3 rfl rfl rfl rfl | exact Yld.lrF 101 1 Tryz.underlying3 rfl rfl rfl rfl | exact Yld.lrF 104 1 Tryz.underlying3 rfl rfl rfl rfl) rfl ?_
      refine DL.gq rfl rfl rfl (Yld.fieldAddr fo162_1 rfl) rfl ?_
      refine DL.gq rfl rfl rfl (Yld.ld 104 Tryz.underlying3 rfl rfl rfl rfl) rfl ?_
      refine DL.gq rfl rfl rfl (Yld.bin rfl rfl BinV.eql) rfl ?_
      refine DL.q rfl Yld.pk rfl ?_
      exact DL.meet (.to rfl) (.to rfl)
     ·
      intro hg56
      refine DL.gskip rfl rfl rfl rfl rfl ?_
      refine DL.gskip rfl rfl rfl rfl rfl ?_
      refine DL.gskip rfl rfl rfl rfl rfl ?_
      refine DL.gskip rfl rfl rfl rfl rfl ?_
      refine DL.gskip rfl rfl rfl rfl rfl ?_
      refine DL.gskip rfl rfl rfl rfl rfl ?_
      refine DL.gskip rfl rfl rfl rfl rfl ?_
      refine DL.gskip rfl rfl rfl rfl rfl ?_
      refine DL.gskip rfl rfl rfl rfl rfl ?_
      refine DL.q rfl Yld.pk rfl ?_
      exact DL.meet (.to rfl) (.to rfl)
     refine DL.done ?_
     refine N.next ?_
     refine W.keep (.of [1, 3, 4, 5, 66] rfl) (.of [0, 1, 101, 104] rfl) ?_
     refine W.cond rfl (fun hc66 => ?_) (fun hc66 => ?_)
     ·
      have hbad : ¬ LnOK m i x := fun h => h.2.2.2.2 k z (by omega) hz (by simpa using hc66)
      refine W.seq (W.region ?_)
      refine RL.q (Yld.assign rfl) rfl (RL.nil (N.next ?_))
      refine W.keep (.of [2] rfl) (.of [0, 1, 101, 104] rfl) ?_
      refine W.ret ?_
      refine N.block_ret ?_
      refine N.then_ret ?_
      refine N.then_ret ?_
      refine N.block_ret ?_
      refine N.block_ret ?_
      refine N.then_ret ?_
      refine N.then_ret ?_
      refine N.block_ret ?_
      refine N.then_ret ?_
      exact N.retBy [1] (.cons (.tmp rfl) .nil) rfl rfl rfl rfl ⟨by rw [pB_not (fun h => hbad (h i x hx))]; rfl, rfl⟩
     ·
      have hc66 : ¬ (z.a = x.a ∧ z.b = x.b) := by simpa using hc66
      refine W.skip ?_
      refine N.block_normal ?_
      refine N.next ?_
      refine W.region ?_
      refine RL.q (Yld.move rfl) rfl ?_
      refine RL.q (Yld.bin rfl rfl (by first | exact BinV.add (by omega) (by omega) | exact BinV.addW)) rfl ?_
      refine RL.q (Yld.assign rfl) rfl (RL.nil ?_)
      exact N.famK (k + 1) ⟨⟨by omega, fun q y hq hy => (Nat.lt_succ_iff_lt_or_eq.1 hq).elim (fun h => hJ q y h hy) (fun e => by subst e; rw [hz] at hy; cases hy; exact hc66)⟩, by omega⟩ (.as rfl (by first | rfl | (simp; done) | (congr 1; simp; done) | (congr 1; omega)) .nil) (.to rfl) .nil (.to rfl)
    ·
     have hend : k = i := by omega
     have hall : ∀ (q : Nat) y, q < i → m.ln[q]? = some y → ¬ (y.a = x.a ∧ y.b = x.b) := by rw [← hend]; exact hJ
     refine W.exit ?_
     refine N.then_exit ?_
     refine N.then_exit ?_
     refine N.block_eq ?_
     refine N.block_normal ?_
     refine N.next ?_
     refine W.keep (.of [1, 3] rfl) (.of [0, 1, 101, 104] rfl) ?_
     refine W.region ?_
     refine RL.q (Yld.move rfl) rfl ?_
     refine RL.q (Yld.bin rfl rfl (by first | exact BinV.add (by omega) (by omega) | exact BinV.addW)) rfl ?_
     refine RL.q (Yld.assign rfl) rfl (RL.nil ?_)
     exact N.famK (i + 1) ⟨⟨by omega, fun q y hq hy => (Nat.lt_succ_iff_lt_or_eq.1 hq).elim (fun h => hI q y h hy) (fun e => by subst e; rw [hx] at hy; cases hy; exact ⟨by omega, by omega, by omega, hc41.2, hall⟩)⟩, by omega⟩ (.as rfl (by first | rfl | (simp; done) | (congr 1; simp; done) | (congr 1; omega)) .nil) (.to rfl) .nil (.to rfl)
  ·
   refine W.exit ?_
   refine N.then_exit ?_
   refine N.then_exit ?_
   refine N.block_eq ?_
   refine N.next ?_
   refine W.seq (W.region ?_)
   refine RL.q (Yld.assign rfl) rfl (RL.nil (N.next ?_))
   refine W.ret ?_
   exact N.retBy [1] (.cons (.tmp rfl) .nil) rfl rfl rfl rfl ⟨by rw [pB_true (fun k x hx => hI k x (by have := (List.getElem?_eq_some_iff.1 hx).1; omega) hx)]; rfl, rfl⟩
set_option maxRecDepth 100000 in
set_option maxHeartbeats 1600000 in
theorem rsite_ct (m : Md) (H1 : PH) (hM : m.In H1) : Ct Tryz.prog 40 [.agg [.slice m.psi m.si.length m.csi, .slice m.pfe m.fe.length m.cfe, .slice m.prk m.rk.length m.crk, .slice m.pmc m.mc.length m.cmc, .slice m.pln m.ln.length m.cln, .slice m.pis m.is.length m.cis, .int .i64 m.da, .int .i64 m.sl, .int .i64 m.re, .int .i64 m.fa, .slice m.prl m.rl.length m.crl].toArray] [H1] (fun v Hs => v = .bool (pB (SiteV m)) ∧ Hs = [H1]) := by
  refine Ct.body Tryz.func40 rfl Tryz.ntmps40 rfl ?_
  intro E F
  have hSl := hM.mc
  have hmx := hSl.len_le
  simp only [List.length_map, maxLen] at hmx
  have hm0 := hM.si.len_le
  simp only [tz_len, maxLen] at hm0
  refine W.seq (W.region ?_)
  refine RL.e (Eff.box 101 _ rfl rfl) rfl ?_
  rintro _ _ ⟨b1, rfl, rfl⟩
  refine RL.q (Yld.assign rfl) rfl (RL.nil (N.next ?_))
  refine W.seq ?_
  refine W.seq (W.region ?_)
  refine RL.q (Yld.fieldAddr fo29_0 rfl) rfl ?_
  refine RL.q (Yld.ld 101 Tryz.underlying22 rfl rfl rfl rfl) rfl ?_
  refine RL.q (Yld.lenSl Tryz.underlying22 rfl) rfl ?_
  refine RL.q (Yld.bin rfl rfl BinV.lss) rfl ?_
  refine RL.q (Yld.move rfl) rfl ?_
  refine' RL.or (t := 8) (d := 13) 5 rfl (.of [0, 1, 2, 4, 5, 6, 7] rfl) (.of [0, 1, 101] rfl) ?_ ?_ ?_
  rotate_left 1
  ·
   intro hg8
   refine RL.gq rfl rfl (Yld.fieldAddr fo29_0 rfl) rfl ?_
   refine RL.gq rfl rfl (Yld.ld 101 Tryz.underlying22 rfl rfl rfl rfl) rfl ?_
   refine RL.gq rfl rfl (Yld.lenSl Tryz.underlying22 rfl) rfl ?_
   refine RL.gq rfl rfl (Yld.bin rfl rfl BinV.gtr) rfl ?_
   refine RL.q Yld.pk rfl ?_
   exact RL.nil (N.meet (.to rfl) (.to rfl))
  ·
   intro hg8
   refine RL.gskip rfl rfl rfl rfl ?_
   refine RL.gskip rfl rfl rfl rfl ?_
   refine RL.gskip rfl rfl rfl rfl ?_
   refine RL.gskip rfl rfl rfl rfl ?_
   refine RL.q Yld.pk rfl ?_
   exact RL.nil (N.meet (.to rfl) (.to rfl))
  refine RL.q (Yld.move rfl) rfl ?_
  refine' RL.or (t := 14) (d := 19) 5 rfl (.of [0, 1, 2, 4, 5, 6, 7, 13] rfl) (.of [0, 1, 101] rfl) ?_ ?_ ?_
  rotate_left 1
  ·
   intro hg14
   refine RL.gq rfl rfl (Yld.fieldAddr fo29_1 rfl) rfl ?_
   refine RL.gq rfl rfl (Yld.ld 101 Tryz.underlying22 rfl rfl rfl rfl) rfl ?_
   refine RL.gq rfl rfl (Yld.lenSl Tryz.underlying22 rfl) rfl ?_
   refine RL.gq rfl rfl (Yld.bin rfl rfl BinV.gtr) rfl ?_
   refine RL.q Yld.pk rfl ?_
   exact RL.nil (N.meet (.to rfl) (.to rfl))
  ·
   intro hg14
   refine RL.gskip rfl rfl rfl rfl ?_
   refine RL.gskip rfl rfl rfl rfl ?_
   refine RL.gskip rfl rfl rfl rfl ?_
   refine RL.gskip rfl rfl rfl rfl ?_
   refine RL.q Yld.pk rfl ?_
   exact RL.nil (N.meet (.to rfl) (.to rfl))
  refine RL.q (Yld.move rfl) rfl ?_
  refine' RL.or (t := 20) (d := 25) 5 rfl (.of [0, 1, 2, 4, 5, 6, 7, 13, 19] rfl) (.of [0, 1, 101] rfl) ?_ ?_ ?_
  rotate_left 1
  ·
   intro hg20
   refine RL.gq rfl rfl (Yld.fieldAddr fo29_2 rfl) rfl ?_
   refine RL.gq rfl rfl (Yld.ld 101 Tryz.underlying23 rfl rfl rfl rfl) rfl ?_
   refine RL.gq rfl rfl (Yld.lenSl Tryz.underlying23 rfl) rfl ?_
   refine RL.gq rfl rfl (Yld.bin rfl rfl BinV.gtr) rfl ?_
   refine RL.q Yld.pk rfl ?_
   exact RL.nil (N.meet (.to rfl) (.to rfl))
  ·
   intro hg20
   refine RL.gskip rfl rfl rfl rfl ?_
   refine RL.gskip rfl rfl rfl rfl ?_
   refine RL.gskip rfl rfl rfl rfl ?_
   refine RL.gskip rfl rfl rfl rfl ?_
   refine RL.q Yld.pk rfl ?_
   exact RL.nil (N.meet (.to rfl) (.to rfl))
  refine RL.q (Yld.move rfl) rfl ?_
  refine' RL.or (t := 26) (d := 31) 5 rfl (.of [0, 1, 2, 4, 5, 6, 7, 13, 19, 25] rfl) (.of [0, 1, 101] rfl) ?_ ?_ ?_
  rotate_left 1
  ·
   intro hg26
   refine RL.gq rfl rfl (Yld.fieldAddr fo29_3 rfl) rfl ?_
   refine RL.gq rfl rfl (Yld.ld 101 Tryz.underlying24 rfl rfl rfl rfl) rfl ?_
   refine RL.gq rfl rfl (Yld.lenSl Tryz.underlying24 rfl) rfl ?_
   refine RL.gq rfl rfl (Yld.bin rfl rfl BinV.lss) rfl ?_
   refine RL.q Yld.pk rfl ?_
   exact RL.nil (N.meet (.to rfl) (.to rfl))
  ·
   intro hg26
   refine RL.gskip rfl rfl rfl rfl ?_
   refine RL.gskip rfl rfl rfl rfl ?_
   refine RL.gskip rfl rfl rfl rfl ?_
   refine RL.gskip rfl rfl rfl rfl ?_
   refine RL.q Yld.pk rfl ?_
   exact RL.nil (N.meet (.to rfl) (.to rfl))
  refine RL.q (Yld.move rfl) rfl ?_
  refine' RL.or (t := 32) (d := 37) 5 rfl (.of [0, 1, 2, 4, 5, 6, 7, 13, 19, 25, 31] rfl) (.of [0, 1, 101] rfl) ?_ ?_ ?_
  rotate_left 1
  ·
   intro hg32
   refine RL.gq rfl rfl (Yld.fieldAddr fo29_3 rfl) rfl ?_
   refine RL.gq rfl rfl (Yld.ld 101 Tryz.underlying24 rfl rfl rfl rfl) rfl ?_
   refine RL.gq rfl rfl (Yld.lenSl Tryz.underlying24 rfl) rfl ?_
   refine RL.gq rfl rfl (Yld.bin rfl rfl BinV.gtr) rfl ?_
   refine RL.q Yld.pk rfl ?_
   exact RL.nil (N.meet (.to rfl) (.to rfl))
  ·
   intro hg32
   refine RL.gskip rfl rfl rfl rfl ?_
   refine RL.gskip rfl rfl rfl rfl ?_
   refine RL.gskip rfl rfl rfl rfl ?_
   refine RL.gskip rfl rfl rfl rfl ?_
   refine RL.q Yld.pk rfl ?_
   exact RL.nil (N.meet (.to rfl) (.to rfl))
  refine RL.q (Yld.move rfl) rfl ?_
  refine' RL.or (t := 38) (d := 43) 5 rfl (.of [0, 1, 2, 4, 5, 6, 7, 13, 19, 25, 31, 37] rfl) (.of [0, 1, 101] rfl) ?_ ?_ ?_
  rotate_left 1
  ·
   intro hg38
   refine RL.gq rfl rfl (Yld.fieldAddr fo29_4 rfl) rfl ?_
   refine RL.gq rfl rfl (Yld.ld 101 Tryz.underlying25 rfl rfl rfl rfl) rfl ?_
   refine RL.gq rfl rfl (Yld.lenSl Tryz.underlying25 rfl) rfl ?_
   refine RL.gq rfl rfl (Yld.bin rfl rfl BinV.gtr) rfl ?_
   refine RL.q Yld.pk rfl ?_
   exact RL.nil (N.meet (.to rfl) (.to rfl))
  ·
   intro hg38
   refine RL.gskip rfl rfl rfl rfl ?_
   refine RL.gskip rfl rfl rfl rfl ?_
   refine RL.gskip rfl rfl rfl rfl ?_
   refine RL.gskip rfl rfl rfl rfl ?_
   refine RL.q Yld.pk rfl ?_
   exact RL.nil (N.meet (.to rfl) (.to rfl))
  refine RL.nil (N.next ?_)
  refine W.keep (.of [1, 43] rfl) (.of [0, 1, 101] rfl) ?_
  refine W.cond rfl (fun hc43 => ?_) (fun hc43 => ?_)
  ·
   have hbad : ¬ SiteV m := fun h => by
     obtain ⟨⟨a, b⟩, c, d, ⟨e, f⟩, g, _⟩ := h
     simp only [Bool.or_eq_true, decide_eq_true_eq] at hc43
     omega
   refine W.seq (W.region ?_)
   refine RL.q (Yld.assign rfl) rfl (RL.nil (N.next ?_))
   refine W.ret ?_
   refine N.then_ret ?_
   exact N.retBy [1] (.cons (.tmp rfl) .nil) rfl rfl rfl rfl ⟨by rw [pB_not hbad]; rfl, rfl⟩
  ·
   simp only [Bool.or_eq_false_iff, decide_eq_false_iff_not] at hc43
   refine W.skip ?_
   refine N.next ?_
   refine W.seq ?_
   refine W.seq (W.region ?_)
   refine RL.q (Yld.assign rfl) rfl (RL.nil (N.next ?_))
   refine W.block ?_
   refine W.loopK (ι := Nat) (fun i => (i ≤ m.mc.length ∧ ∀ (k : Nat) x, k < i → m.mc[k]? = some x → McOK m x)) (fun i => [(3, .int .i64 (i : Nat))]) (fun i => []) (fun i => m.mc.length - i) (.of [1] rfl) (.of [0, 1, 101] rfl) 0 ?_ ?_ ?_ ?_
   · exact ⟨Nat.zero_le _, fun _ _ h => absurd h (Nat.not_lt_zero _)⟩
   · exact (.as rfl (by first | rfl | (simp; done) | (congr 1; simp; done) | (congr 1; omega)) .nil)
   · exact .nil
   rintro i ⟨hi, hI⟩
   refine W.keep (.of [3, 1] rfl) (.of [0, 1, 101] rfl) ?_
   refine W.seq ?_
   refine W.seq (W.region ?_)
   refine RL.q (Yld.move rfl) rfl ?_
   refine RL.q (Yld.fieldAddr fo29_3 rfl) rfl ?_
   refine RL.q (Yld.ld 101 Tryz.underlying24 rfl rfl rfl rfl) rfl ?_
   refine RL.q (Yld.lenSl Tryz.underlying24 rfl) rfl ?_
   refine RL.q (Yld.bin rfl rfl BinV.lss) rfl ?_
   refine RL.nil (N.next ?_)
   refine W.keep (.of [1, 3, 48] rfl) (.of [0, 1, 101] rfl) ?_
   first | refine W.condD rfl (fun hc48 => ?_) (fun hc48 => ?_) | (refine W.cond rfl (fun hc48 => ?_) (fun hc48 => ?_) <;> try simp only [Bool.or_eq_true, Bool.and_eq_true, Bool.not_eq_true', Bool.not_eq_false', decide_eq_true_eq, Bool.or_eq_false_iff, Bool.and_eq_false_iff, decide_eq_false_iff_not, beq_iff_eq, beq_eq_false_iff_ne, ne_eq, Decidable.not_not] at hc48)
   ·
    obtain ⟨x, hx⟩ : ∃ x, m.mc[i]? = some x := ⟨_, List.getElem?_eq_getElem (show i < m.mc.length by first | omega | (simp only [List.length_map] at *; omega))⟩
    have hlx : (m.mc.map Mc.c)[i]? = some x.c := by simp [hx]
    refine W.skip ?_
    refine N.next ?_
    refine W.seq ?_
    refine W.block ?_
    refine W.seq ?_
    refine W.draw (.q 0 (.q 1 (.q 2 (.q 3 (.q 4 (.q 5 (.q 6 (.q 7 (.q 8 (.one 9 (.q 10 (.q 11 (.q 12 (.q 13 (.q 14 (.q 15 (.q 16 (.q 17 (.one 18 (.q 19 (.q 20 .done))))))))))))))))))))) (.of [0, 1, 101] rfl) mix (by kernel_rfl) (by kernel_rfl) ?_
    refine DL.q rfl (Yld.fieldAddr fo29_3 rfl) rfl ?_
    refine DL.q rfl (Yld.ld 101 Tryz.underlying24 rfl rfl rfl rfl) rfl ?_
    refine DL.q rfl (Yld.move rfl) rfl ?_
    refine DL.q rfl (Yld.ixr Tryz.underlying24 sz95 rfl rfl) rfl ?_
    refine DL.q rfl (Yld.fieldAddr fo95_1 rfl) rfl ?_
    refine DL.q rfl (by first | exact Yld.lrF 1 1 Tryz.underlying3 rfl rfl rfl rfl | exact Yld.lrF 101 1 Tryz.underlying3 rfl rfl rfl rfl) rfl ?_
    refine DL.q rfl (Yld.fieldAddr fo29_2 rfl) rfl ?_
    refine DL.q rfl (Yld.ld 101 Tryz.underlying23 rfl rfl rfl rfl) rfl ?_
    refine DL.q rfl (Yld.lenSl Tryz.underlying23 rfl) rfl ?_
    refine DL.one rfl (Eff.call ent44 [] [] (.cons rfl (.cons rfl .nil)) (rexists_ct x.rk m.rk.length) rfl rfl rfl rfl (by rintro _ _ ⟨_, rfl⟩; rfl)) rfl (by rintro _ _ ⟨_, ⟨rfl, rfl⟩, rfl⟩; repeat (first | exact .nil | refine .cons rfl ?_)) ?_
    rintro _ _ ⟨_, ⟨rfl, rfl⟩, rfl⟩
    refine DL.q rfl Yld.nt rfl ?_
    refine DL.q rfl (Yld.move rfl) rfl ?_
    refine' DL.or (t := 62) (d := 71) 9 rfl (.of [1, 3, 48, 51, 52, 53, 54, 55, 56, 57, 58, 59, 60, 61] rfl) (.of [0, 1, 101] rfl) ?_ ?_ ?_
    rotate_left 1
    ·
     intro hg62
     refine DL.gq rfl rfl rfl (Yld.fieldAddr fo29_3 rfl) rfl ?_
     refine DL.gq rfl rfl rfl (Yld.ld 101 Tryz.underlying24 rfl rfl rfl rfl) rfl ?_
     refine DL.gq rfl rfl rfl (Yld.move rfl) rfl ?_
     refine DL.gq rfl rfl rfl (Yld.ixr Tryz.underlying24 sz95 rfl rfl) rfl ?_
     refine DL.gq rfl rfl rfl (Yld.fieldAddr fo95_2 rfl) rfl ?_
     refine DL.gq rfl rfl rfl (by first | exact Yld.lrF 1 2 Tryz.underlying3 rfl rfl rfl rfl | exact Yld.lrF 101 2 Tryz.underlying3 rfl rfl rfl rfl) rfl ?_
     refine DL.gone rfl rfl rfl (Eff.call ent83 [] [] (.cons rfl .nil) (rnumber_ct x.cp) rfl rfl rfl rfl (by rintro _ _ ⟨_, rfl⟩; rfl)) rfl (by rintro _ _ ⟨_, ⟨rfl, rfl⟩, rfl⟩; repeat (first | exact .nil | refine .cons rfl ?_)) ?_
     rintro _ _ ⟨_, ⟨rfl, rfl⟩, rfl⟩
     refine DL.gq rfl rfl rfl Yld.nt rfl ?_
     refine DL.q rfl Yld.pk rfl ?_
     exact DL.meet (.to rfl) (.to rfl)
    ·
     intro hg62
     refine DL.gskip rfl rfl rfl rfl rfl ?_
     refine DL.gskip rfl rfl rfl rfl rfl ?_
     refine DL.gskip rfl rfl rfl rfl rfl ?_
     refine DL.gskip rfl rfl rfl rfl rfl ?_
     refine DL.gskip rfl rfl rfl rfl rfl ?_
     refine DL.gskip rfl rfl rfl rfl rfl ?_
     refine DL.gskip1 rfl rfl rfl rfl rfl ?_
     refine DL.gskip rfl rfl rfl rfl rfl ?_
     refine DL.q rfl Yld.pk rfl ?_
     exact DL.meet (.to rfl) (.to rfl)
    refine DL.done ?_
    refine N.next ?_
    refine W.keep (.of [1, 3, 71] rfl) (.of [0, 1, 101] rfl) ?_
    refine W.cond rfl (fun hc71 => ?_) (fun hc71 => ?_)
    ·
     have hbad : ¬ SiteV m := fun h => by
       have h1 := h.mc i x hx
       simp only [Bool.or_eq_true, Bool.and_eq_true, Bool.or_eq_false_iff, Bool.and_eq_false_iff, Bool.not_eq_true', Bool.not_eq_false', decide_eq_true_eq, decide_eq_false_iff_not, Classical.not_not, pB_iff, pB_f] at hc71
       exact hc71.elim (fun h' => h' h1.1) (fun h' => h' h1.2)
     refine W.seq (W.region ?_)
     refine RL.q (Yld.assign rfl) rfl (RL.nil (N.next ?_))
     refine W.ret ?_
     refine N.block_ret ?_
     refine N.then_ret ?_
     refine N.then_ret ?_
     refine N.block_ret ?_
     refine N.then_ret ?_
     exact N.retBy [1] (.cons (.tmp rfl) .nil) rfl rfl rfl rfl ⟨by rw [pB_not hbad]; rfl, rfl⟩
    ·
     simp only [Bool.or_eq_true, Bool.and_eq_true, Bool.or_eq_false_iff, Bool.and_eq_false_iff, Bool.not_eq_true', Bool.not_eq_false', decide_eq_true_eq, decide_eq_false_iff_not, Classical.not_not, pB_iff, pB_f] at hc71
     refine W.skip ?_
     refine N.block_normal ?_
     refine N.next ?_
     refine W.region ?_
     refine RL.q (Yld.move rfl) rfl ?_
     refine RL.q (Yld.bin rfl rfl (by first | exact BinV.add (by omega) (by omega) | exact BinV.addW)) rfl ?_
     refine RL.q (Yld.assign rfl) rfl (RL.nil ?_)
     exact N.famK (i + 1) ⟨⟨by omega, fun q y hq hy => (Nat.lt_succ_iff_lt_or_eq.1 hq).elim (fun h => hI q y h hy) (fun e => by subst e; rw [hx] at hy; cases hy; exact hc71)⟩, by omega⟩ (.as rfl (by first | rfl | (simp; done) | (congr 1; simp; done) | (congr 1; omega)) .nil) (.to rfl) .nil (.to rfl)
   ·
    refine W.exit ?_
    refine N.then_exit ?_
    refine N.then_exit ?_
    refine N.block_eq ?_
    refine N.next ?_
    refine W.seq (W.region ?_)
    refine RL.q (Yld.ldW 101 Tryz.underlying29 sz29 rfl rfl rfl rfl) rfl ?_
    refine RL.e (Eff.call ent84 [1] [1] (.cons rfl .nil) (rracks_ct m H1 hM) rfl rfl rfl rfl (by rintro _ _ ⟨_, rfl⟩; rfl)) rfl ?_
    rintro _ _ ⟨_, ⟨rfl, rfl⟩, rfl⟩
    refine RL.q (Yld.move rfl) rfl ?_
    refine' RL.and (t := 74) (d := 77) 3 rfl (.of [1, 3, 48, 72, 73] rfl) (.of [0, 1, 101] rfl) ?_ ?_ ?_
    rotate_left 1
    ·
     intro hg74
     refine RL.gq rfl rfl (Yld.ldW 101 Tryz.underlying29 sz29 rfl rfl rfl rfl) rfl ?_
     refine RL.ge rfl rfl (Eff.call ent85 [1] [1] (.cons rfl .nil) (rlinks_ct m H1 hM) rfl rfl rfl rfl (by rintro _ _ ⟨_, rfl⟩; rfl)) rfl ?_
     rintro _ _ ⟨_, ⟨rfl, rfl⟩, rfl⟩
     refine RL.q Yld.pk rfl ?_
     exact RL.nil (N.meet (.to rfl) (.to rfl))
    ·
     intro hg74
     refine RL.gskip rfl rfl rfl rfl ?_
     refine RL.gskip rfl rfl rfl rfl ?_
     refine RL.q Yld.pk rfl ?_
     exact RL.nil (N.meet (.to rfl) (.to rfl))
    refine RL.q (Yld.assign rfl) rfl (RL.nil (N.next ?_))
    refine W.keep (.of [2] rfl) (.of [0, 1, 101] rfl) ?_
    refine W.ret ?_
    exact N.retBy [1] (.cons (.tmp rfl) .nil) rfl rfl rfl rfl ⟨by show Value.bool _ = Value.bool _; congr 1; rw [Bool.eq_iff_iff]; rw [Bool.and_eq_true, pB_iff, pB_iff, pB_iff]; exact ⟨fun ⟨a, b⟩ => ⟨⟨by omega, by omega⟩, by omega, by omega, ⟨by omega, by omega⟩, by omega, a, fun k x hx => hI k x (by have := (List.getElem?_eq_some_iff.1 hx).1; omega) hx, b⟩, fun h => ⟨h.rk, h.ln⟩⟩, rfl⟩
end Go.Proofs.YtboapdcmaeojgaaGreatDoor
namespace Go.Proofs.YtboapdcmaeojgaaGreatDoor.Cat
set_option linter.unusedVariables false
def kwText : ByteArray := ⟨#[97, 108, 119, 97, 121, 115, 32, 98, 101, 102, 111, 114, 101, 32, 98, 121, 32, 99, 97, 112, 97, 99, 105, 116, 121, 32, 100, 97, 114, 107, 32, 100, 105, 115, 116, 117, 114, 98, 32, 102, 97, 105, 108, 117, 114, 101, 115, 32, 102, 101, 101, 100, 32, 103, 114, 111, 117, 112, 32, 105, 110, 32, 106, 111, 98, 32, 107, 101, 101, 112, 32, 108, 105, 110, 107, 32, 108, 111, 97, 100, 32, 109, 97, 99, 104, 105, 110, 101, 32, 111, 110, 32, 111, 110, 108, 121, 32, 111, 114, 100, 101, 114, 32, 112, 111, 111, 108, 32, 113, 117, 111, 114, 117, 109, 32, 114, 97, 99, 107, 32, 114, 101, 115, 101, 114, 118, 101, 32, 115, 104, 97, 114, 101, 32, 115, 105, 108, 101, 110, 99, 101, 32, 115, 105, 116, 101, 32, 115, 105, 122, 101, 32, 115, 108, 111, 116, 115, 32, 115, 112, 114, 101, 97, 100]⟩
theorem kwText_ascii : ∀ (j : Nat) b, kwText.data.toList[j]? = some b → b.toNat < 128 := by
  intro j b h
  have hm := List.mem_of_getElem? h
  have : ∀ b ∈ kwText.data.toList, b.toNat < 128 := by decide +kernel
  exact this b hm
theorem kwText_fields : (Lib.fields kwText.data.toList).map (fun l => (⟨l.toArray⟩ : ByteArray)) = kws := by kernel_rfl
theorem kws_len : kws.length = 28 := by kernel_rfl
end Go.Proofs.YtboapdcmaeojgaaGreatDoor.Cat
