/- Several texts in one, in their build order: what the proofs of this seat share. -/
import Derived.Test.YtboapdcmaeojgaaGreatDoorPS1
import Derived.Lib.Fields
set_option linter.unusedVariables false
set_option linter.unusedSimpArgs false
set_option linter.unusedSectionVars false
namespace Go.Proofs.YtboapdcmaeojgaaGreatDoor
open SL Cat
set_option linter.unusedVariables false
set_option linter.unusedSimpArgs false
theorem sz93 : sz Tryz.prog 93 3 := (by kernel_rfl : (Tryz.prog.info? 93).map (·.size) = some 3)
theorem zc93 : zc Tryz.prog 93 [.string .empty, .int .i64 0, .int .i64 0] := (by kernel_rfl : ((Tryz.prog.info? 93).bind (·.zero)).map (fun v => v.cells.toList) = some [.string .empty, .int .i64 0, .int .i64 0])
theorem mix : Tryz.prog.follows .mixedOrders = true := by kernel_rfl
theorem sz95 : sz Tryz.prog 95 3 := (by kernel_rfl : (Tryz.prog.info? 95).map (·.size) = some 3)
theorem zc95 : zc Tryz.prog 95 [.string .empty, .int .i64 0, .int .i64 0] := (by kernel_rfl : ((Tryz.prog.info? 95).bind (·.zero)).map (fun v => v.cells.toList) = some [.string .empty, .int .i64 0, .int .i64 0])
theorem sz162 : sz Tryz.prog 162 3 := (by kernel_rfl : (Tryz.prog.info? 162).map (·.size) = some 3)
theorem zc162 : zc Tryz.prog 162 [.int .i64 0, .int .i64 0, .int .i64 0] := (by kernel_rfl : ((Tryz.prog.info? 162).bind (·.zero)).map (fun v => v.cells.toList) = some [.int .i64 0, .int .i64 0, .int .i64 0])
theorem ent150 : Ent Tryz.prog 150 := ⟨_, _, Tryz.func150, by kernel_rfl, rfl⟩
theorem ent151 : Ent Tryz.prog 151 := ⟨_, _, Tryz.func151, by kernel_rfl, rfl⟩
theorem ent107 : Ent Tryz.prog 107 := ⟨_, _, Tryz.func107, by kernel_rfl, rfl⟩
theorem ent108 : Ent Tryz.prog 108 := ⟨_, _, Tryz.func108, by kernel_rfl, rfl⟩
theorem ent111 : Ent Tryz.prog 111 := ⟨_, _, Tryz.func111, by kernel_rfl, rfl⟩
theorem ent114 : Ent Tryz.prog 114 := ⟨_, _, Tryz.func114, by kernel_rfl, rfl⟩
theorem ent115 : Ent Tryz.prog 115 := ⟨_, _, Tryz.func115, by kernel_rfl, rfl⟩
theorem fo93_2 : fieldOff Tryz.prog 93 2 = some 2 := by kernel_rfl
theorem fo93_1 : fieldOff Tryz.prog 93 1 = some 1 := by kernel_rfl
theorem fo162_0 : fieldOff Tryz.prog 162 0 = some 0 := by kernel_rfl
theorem fo162_1 : fieldOff Tryz.prog 162 1 = some 1 := by kernel_rfl
theorem fo29_0 : fieldOff Tryz.prog 29 0 = some 0 := by kernel_rfl
theorem ent105 : Ent Tryz.prog 105 := ⟨_, _, Tryz.func105, by kernel_rfl, rfl⟩
theorem fo29_1 : fieldOff Tryz.prog 29 1 = some 1 := by kernel_rfl
theorem ent109 : Ent Tryz.prog 109 := ⟨_, _, Tryz.func109, by kernel_rfl, rfl⟩
theorem fo95_1 : fieldOff Tryz.prog 95 1 = some 1 := by kernel_rfl
theorem fo29_2 : fieldOff Tryz.prog 29 2 = some 2 := by kernel_rfl
theorem fo95_2 : fieldOff Tryz.prog 95 2 = some 2 := by kernel_rfl
theorem ent112 : Ent Tryz.prog 112 := ⟨_, _, Tryz.func112, by kernel_rfl, rfl⟩
theorem fo162_2 : fieldOff Tryz.prog 162 2 = some 2 := by kernel_rfl
theorem ent116 : Ent Tryz.prog 116 := ⟨_, _, Tryz.func116, by kernel_rfl, rfl⟩
theorem fo29_3 : fieldOff Tryz.prog 29 3 = some 3 := by kernel_rfl
theorem fo29_4 : fieldOff Tryz.prog 29 4 = some 4 := by kernel_rfl
theorem ent106 : Ent Tryz.prog 106 := ⟨_, _, Tryz.func106, by kernel_rfl, rfl⟩
theorem ent110 : Ent Tryz.prog 110 := ⟨_, _, Tryz.func110, by kernel_rfl, rfl⟩
theorem ent113 : Ent Tryz.prog 113 := ⟨_, _, Tryz.func113, by kernel_rfl, rfl⟩
abbrev u23 := @Tryz.underlying23
abbrev u93 := @Tryz.underlying93
abbrev u24 := @Tryz.underlying24
abbrev u95 := @Tryz.underlying95
abbrev u25 := @Tryz.underlying25
abbrev u162 := @Tryz.underlying162
abbrev u3 := @Tryz.underlying3
abbrev u22 := @Tryz.underlying22
set_option maxRecDepth 100000 in
set_option maxHeartbeats 400000 in
theorem soundRk_ct (l : List Rk) (H1 : PH) (p : Option Addr) (c : Nat) (hS : Sl H1 p c 3 (l.map Rk.c)) (f : Nat) (cap : List Value) (G1 : PH) (q : Nat → Rk → Bool) (hent : Ent Tryz.prog f) (hf : ∀ (i : Nat) x, l[i]? = some x → Ct Tryz.prog f (.agg x.c.toArray :: .slice p i c :: cap) [H1, G1] (fun v Hs => v = .bool (q i x) ∧ Hs = [H1, G1])) : Ct Tryz.prog 106 [.slice p l.length c, .func (.func f) [].toArray cap.toArray] [H1, G1] (fun v Hs => v = .bool (pB (∀ (i : Nat) x, l[i]? = some x → q i x = true)) ∧ Hs = [H1, G1]) := by
  refine Ct.body Tryz.func106 rfl Tryz.ntmps106 rfl ?_
  intro E F
  have hmx := hS.len_le
  simp only [List.length_map, maxLen] at hmx
  refine q_sr (q_an ?_)
  refine W.seq (q_sr (q_q q_mv (q_q (q_n u23) (q_q q_mv (q_nn (W.block ?_))))))
  refine W.loopK (ι := Nat) (fun j => (j ≤ l.length ∧ ∀ (i : Nat) x, i < j → l[i]? = some x → q i x = true)) (fun j => [(9, .int .i64 (j : Nat))]) (fun j => []) (fun j => l.length - j) (.of [0, 1, 7, 8] rfl) (.of [0, 1, 2] rfl) 0 ?_ ?_ ?_ ?_
  · exact ⟨Nat.zero_le _, fun _ _ h => absurd h (Nat.not_lt_zero _)⟩
  · exact (q_a .nil)
  · exact .nil
  rintro j ⟨hj, hI⟩
  refine q_k [9, 0, 1, 7, 8] [0, 1, 2] ?_
  refine q_sr (q_q (q_b BinV.lss) (q_nn (W.seq ?_)))
  first | refine W.condD rfl (fun hc10 => ?_) (fun hc10 => ?_) | (refine W.cond rfl (fun hc10 => ?_) (fun hc10 => ?_) <;> try simp only [Bool.or_eq_true, Bool.and_eq_true, Bool.not_eq_true', Bool.not_eq_false', decide_eq_true_eq, Bool.or_eq_false_iff, Bool.and_eq_false_iff, decide_eq_false_iff_not, beq_iff_eq, beq_eq_false_iff_ne, ne_eq, Decidable.not_not] at hc10)
  ·
   obtain ⟨x, hx⟩ : ∃ x, l[j]? = some x := ⟨_, List.getElem?_eq_getElem (show j < l.length by first | omega | (simp only [List.length_map] at *; omega))⟩
   have hlx : (l.map Rk.c)[j]? = some x.c := by simp [hx]
   refine W.skip (N.next (W.seq (W.block (q_sr (q_q q_mv ?_)))))
   refine q_q (q_ix u23 sz93) ?_
   refine q_q (by first | exact q_rA 1 u93 sz93 | exact q_rA 2 u93 sz93) ?_
   refine q_al 106 zc93 fun b6 => ?_
   refine q_q q_as (q_s 106 sz93 ?_)
   refine q_nn (q_k [0, 1, 5, 6, 7, 8, 9] [0, 1, 2, 106] ?_)
   refine W.seq ?_
   refine W.draw (.q 0 (.q 1 (.q 2 (.q 3 (.q 4 (.one 5 (.q 6 .done))))))) (.of [0, 106] rfl) mix (by kernel_rfl) (by kernel_rfl) (q_d rfl q_mv (q_d rfl (q_lw 106 u93 sz93) (q_d rfl q_mv (q_d rfl q_mv ?_))))
   refine q_d rfl (Yld.sliceH u23 sz93 rfl rfl (by omega) (by first | omega | (simp; done) | (simp; omega))) ?_
   refine q_o rfl (Eff.callV hent [1, 2] [1, 2] rfl (.cons rfl (.cons rfl .nil)) (hf j x hx) rfl rfl rfl rfl (by rintro _ _ ⟨_, rfl⟩; rfl)) ?_
   rintro _ _ ⟨_, ⟨rfl, rfl⟩, rfl⟩
   refine q_d rfl Yld.nt (DL.done (N.next (q_k [0, 1, 7, 8, 9, 20] [0, 1, 2, 106] ?_)))
   refine W.cond rfl (fun hc20 => ?_) (fun hc20 => ?_)
   ·
    refine q_sr (q_an ?_)
    refine q_k [4] [0, 1, 2, 106] ?_
    refine W.ret (N.block_ret (N.then_ret (N.then_ret (N.block_ret (N.then_ret ?_)))))
    exact q_r [1, 2] (.cons (.tmp rfl) .nil) rfl rfl rfl ⟨by rw [pB_not (fun h => by rw [h j x hx] at hc20; cases hc20)]; rfl, rfl⟩
   ·
    refine W.skip (N.block_normal (N.next (W.region ?_)))
    refine q_q q_ad (q_q q_mv (RL.nil ?_))
    exact N.famK (j + 1) ⟨⟨by omega, fun i y hi hy => (Nat.lt_succ_iff_lt_or_eq.1 hi).elim (fun h => hI i y h hy) (fun e => by subst e; rw [hx] at hy; cases hy; simpa using hc20)⟩, by omega⟩ (q_a .nil) (.to rfl) .nil (.to rfl)
  ·
   refine W.exit (N.then_exit (N.then_exit (N.block_eq (N.next ?_))))
   refine W.keep .nil (.of [0, 1, 2] rfl) (q_sr (q_an ?_))
   refine W.ret ?_
   exact q_r [1, 2] (.cons (.tmp rfl) .nil) rfl rfl rfl ⟨by rw [pB_true (fun i x hx => hI i x (by have := (List.getElem?_eq_some_iff.1 hx).1; omega) hx)]; rfl, rfl⟩
set_option maxRecDepth 100000 in
set_option maxHeartbeats 400000 in
theorem soundMc_ct (l : List Mc) (H1 : PH) (p : Option Addr) (c : Nat) (hS : Sl H1 p c 3 (l.map Mc.c)) (f : Nat) (cap : List Value) (G1 : PH) (q : Nat → Mc → Bool) (hent : Ent Tryz.prog f) (hf : ∀ (i : Nat) x, l[i]? = some x → Ct Tryz.prog f (.agg x.c.toArray :: .slice p i c :: cap) [H1, G1] (fun v Hs => v = .bool (q i x) ∧ Hs = [H1, G1])) : Ct Tryz.prog 110 [.slice p l.length c, .func (.func f) [].toArray cap.toArray] [H1, G1] (fun v Hs => v = .bool (pB (∀ (i : Nat) x, l[i]? = some x → q i x = true)) ∧ Hs = [H1, G1]) := by
  refine Ct.body Tryz.func110 rfl Tryz.ntmps110 rfl ?_
  intro E F
  have hmx := hS.len_le
  simp only [List.length_map, maxLen] at hmx
  refine q_sr (q_an ?_)
  refine W.seq (q_sr (q_q q_mv (q_q (q_n u24) (q_q q_mv (q_nn (W.block ?_))))))
  refine W.loopK (ι := Nat) (fun j => (j ≤ l.length ∧ ∀ (i : Nat) x, i < j → l[i]? = some x → q i x = true)) (fun j => [(9, .int .i64 (j : Nat))]) (fun j => []) (fun j => l.length - j) (.of [0, 1, 7, 8] rfl) (.of [0, 1, 2] rfl) 0 ?_ ?_ ?_ ?_
  · exact ⟨Nat.zero_le _, fun _ _ h => absurd h (Nat.not_lt_zero _)⟩
  · exact (q_a .nil)
  · exact .nil
  rintro j ⟨hj, hI⟩
  refine q_k [9, 0, 1, 7, 8] [0, 1, 2] ?_
  refine q_sr (q_q (q_b BinV.lss) (q_nn (W.seq ?_)))
  first | refine W.condD rfl (fun hc10 => ?_) (fun hc10 => ?_) | (refine W.cond rfl (fun hc10 => ?_) (fun hc10 => ?_) <;> try simp only [Bool.or_eq_true, Bool.and_eq_true, Bool.not_eq_true', Bool.not_eq_false', decide_eq_true_eq, Bool.or_eq_false_iff, Bool.and_eq_false_iff, decide_eq_false_iff_not, beq_iff_eq, beq_eq_false_iff_ne, ne_eq, Decidable.not_not] at hc10)
  ·
   obtain ⟨x, hx⟩ : ∃ x, l[j]? = some x := ⟨_, List.getElem?_eq_getElem (show j < l.length by first | omega | (simp only [List.length_map] at *; omega))⟩
   have hlx : (l.map Mc.c)[j]? = some x.c := by simp [hx]
   refine W.skip (N.next (W.seq (W.block (q_sr (q_q q_mv ?_)))))
   refine q_q (q_ix u24 sz95) ?_
   refine q_q (by first | exact q_rA 1 u95 sz95 | exact q_rA 2 u95 sz95) ?_
   refine q_al 106 zc95 fun b6 => ?_
   refine q_q q_as (q_s 106 sz95 ?_)
   refine q_nn (q_k [0, 1, 5, 6, 7, 8, 9] [0, 1, 2, 106] ?_)
   refine W.seq ?_
   refine W.draw (.q 0 (.q 1 (.q 2 (.q 3 (.q 4 (.one 5 (.q 6 .done))))))) (.of [0, 106] rfl) mix (by kernel_rfl) (by kernel_rfl) (q_d rfl q_mv (q_d rfl (q_lw 106 u95 sz95) (q_d rfl q_mv (q_d rfl q_mv ?_))))
   refine q_d rfl (Yld.sliceH u24 sz95 rfl rfl (by omega) (by first | omega | (simp; done) | (simp; omega))) ?_
   refine q_o rfl (Eff.callV hent [1, 2] [1, 2] rfl (.cons rfl (.cons rfl .nil)) (hf j x hx) rfl rfl rfl rfl (by rintro _ _ ⟨_, rfl⟩; rfl)) ?_
   rintro _ _ ⟨_, ⟨rfl, rfl⟩, rfl⟩
   refine q_d rfl Yld.nt (DL.done (N.next (q_k [0, 1, 7, 8, 9, 20] [0, 1, 2, 106] ?_)))
   refine W.cond rfl (fun hc20 => ?_) (fun hc20 => ?_)
   ·
    refine q_sr (q_an ?_)
    refine q_k [4] [0, 1, 2, 106] ?_
    refine W.ret (N.block_ret (N.then_ret (N.then_ret (N.block_ret (N.then_ret ?_)))))
    exact q_r [1, 2] (.cons (.tmp rfl) .nil) rfl rfl rfl ⟨by rw [pB_not (fun h => by rw [h j x hx] at hc20; cases hc20)]; rfl, rfl⟩
   ·
    refine W.skip (N.block_normal (N.next (W.region ?_)))
    refine q_q q_ad (q_q q_mv (RL.nil ?_))
    exact N.famK (j + 1) ⟨⟨by omega, fun i y hi hy => (Nat.lt_succ_iff_lt_or_eq.1 hi).elim (fun h => hI i y h hy) (fun e => by subst e; rw [hx] at hy; cases hy; simpa using hc20)⟩, by omega⟩ (q_a .nil) (.to rfl) .nil (.to rfl)
  ·
   refine W.exit (N.then_exit (N.then_exit (N.block_eq (N.next ?_))))
   refine W.keep .nil (.of [0, 1, 2] rfl) (q_sr (q_an ?_))
   refine W.ret ?_
   exact q_r [1, 2] (.cons (.tmp rfl) .nil) rfl rfl rfl ⟨by rw [pB_true (fun i x hx => hI i x (by have := (List.getElem?_eq_some_iff.1 hx).1; omega) hx)]; rfl, rfl⟩
set_option maxRecDepth 100000 in
set_option maxHeartbeats 400000 in
theorem soundLn_ct (l : List Ln) (H1 : PH) (p : Option Addr) (c : Nat) (hS : Sl H1 p c 3 (l.map Ln.c)) (f : Nat) (cap : List Value) (G1 : PH) (q : Nat → Ln → Bool) (hent : Ent Tryz.prog f) (hf : ∀ (i : Nat) x, l[i]? = some x → Ct Tryz.prog f (.agg x.c.toArray :: .slice p i c :: cap) [H1, G1] (fun v Hs => v = .bool (q i x) ∧ Hs = [H1, G1])) : Ct Tryz.prog 113 [.slice p l.length c, .func (.func f) [].toArray cap.toArray] [H1, G1] (fun v Hs => v = .bool (pB (∀ (i : Nat) x, l[i]? = some x → q i x = true)) ∧ Hs = [H1, G1]) := by
  refine Ct.body Tryz.func113 rfl Tryz.ntmps113 rfl ?_
  intro E F
  have hmx := hS.len_le
  simp only [List.length_map, maxLen] at hmx
  refine q_sr (q_an ?_)
  refine W.seq (q_sr (q_q q_mv (q_q (q_n u25) (q_q q_mv (q_nn (W.block ?_))))))
  refine W.loopK (ι := Nat) (fun j => (j ≤ l.length ∧ ∀ (i : Nat) x, i < j → l[i]? = some x → q i x = true)) (fun j => [(9, .int .i64 (j : Nat))]) (fun j => []) (fun j => l.length - j) (.of [0, 1, 7, 8] rfl) (.of [0, 1, 2] rfl) 0 ?_ ?_ ?_ ?_
  · exact ⟨Nat.zero_le _, fun _ _ h => absurd h (Nat.not_lt_zero _)⟩
  · exact (q_a .nil)
  · exact .nil
  rintro j ⟨hj, hI⟩
  refine q_k [9, 0, 1, 7, 8] [0, 1, 2] ?_
  refine q_sr (q_q (q_b BinV.lss) (q_nn (W.seq ?_)))
  first | refine W.condD rfl (fun hc10 => ?_) (fun hc10 => ?_) | (refine W.cond rfl (fun hc10 => ?_) (fun hc10 => ?_) <;> try simp only [Bool.or_eq_true, Bool.and_eq_true, Bool.not_eq_true', Bool.not_eq_false', decide_eq_true_eq, Bool.or_eq_false_iff, Bool.and_eq_false_iff, decide_eq_false_iff_not, beq_iff_eq, beq_eq_false_iff_ne, ne_eq, Decidable.not_not] at hc10)
  ·
   obtain ⟨x, hx⟩ : ∃ x, l[j]? = some x := ⟨_, List.getElem?_eq_getElem (show j < l.length by first | omega | (simp only [List.length_map] at *; omega))⟩
   have hlx : (l.map Ln.c)[j]? = some x.c := by simp [hx]
   refine W.skip (N.next (W.seq (W.block (q_sr (q_q q_mv ?_)))))
   refine q_q (q_ix u25 sz162) ?_
   refine q_q (by first | exact q_rA 1 u162 sz162 | exact q_rA 2 u162 sz162) ?_
   refine q_al 106 zc162 fun b6 => ?_
   refine q_q q_as (q_s 106 sz162 ?_)
   refine q_nn (q_k [0, 1, 5, 6, 7, 8, 9] [0, 1, 2, 106] ?_)
   refine W.seq ?_
   refine W.draw (.q 0 (.q 1 (.q 2 (.q 3 (.q 4 (.one 5 (.q 6 .done))))))) (.of [0, 106] rfl) mix (by kernel_rfl) (by kernel_rfl) (q_d rfl q_mv (q_d rfl (q_lw 106 u162 sz162) (q_d rfl q_mv (q_d rfl q_mv ?_))))
   refine q_d rfl (Yld.sliceH u25 sz162 rfl rfl (by omega) (by first | omega | (simp; done) | (simp; omega))) ?_
   refine q_o rfl (Eff.callV hent [1, 2] [1, 2] rfl (.cons rfl (.cons rfl .nil)) (hf j x hx) rfl rfl rfl rfl (by rintro _ _ ⟨_, rfl⟩; rfl)) ?_
   rintro _ _ ⟨_, ⟨rfl, rfl⟩, rfl⟩
   refine q_d rfl Yld.nt (DL.done (N.next (q_k [0, 1, 7, 8, 9, 20] [0, 1, 2, 106] ?_)))
   refine W.cond rfl (fun hc20 => ?_) (fun hc20 => ?_)
   ·
    refine q_sr (q_an ?_)
    refine q_k [4] [0, 1, 2, 106] ?_
    refine W.ret (N.block_ret (N.then_ret (N.then_ret (N.block_ret (N.then_ret ?_)))))
    exact q_r [1, 2] (.cons (.tmp rfl) .nil) rfl rfl rfl ⟨by rw [pB_not (fun h => by rw [h j x hx] at hc20; cases hc20)]; rfl, rfl⟩
   ·
    refine W.skip (N.block_normal (N.next (W.region ?_)))
    refine q_q q_ad (q_q q_mv (RL.nil ?_))
    exact N.famK (j + 1) ⟨⟨by omega, fun i y hi hy => (Nat.lt_succ_iff_lt_or_eq.1 hi).elim (fun h => hI i y h hy) (fun e => by subst e; rw [hx] at hy; cases hy; simpa using hc20)⟩, by omega⟩ (q_a .nil) (.to rfl) .nil (.to rfl)
  ·
   refine W.exit (N.then_exit (N.then_exit (N.block_eq (N.next ?_))))
   refine W.keep .nil (.of [0, 1, 2] rfl) (q_sr (q_an ?_))
   refine W.ret ?_
   exact q_r [1, 2] (.cons (.tmp rfl) .nil) rfl rfl rfl ⟨by rw [pB_true (fun i x hx => hI i x (by have := (List.getElem?_eq_some_iff.1 hx).1; omega) hx)]; rfl, rfl⟩
set_option maxRecDepth 100000 in
set_option maxHeartbeats 400000 in
theorem ifRk_ct (l : List Rk) (H1 : PH) (p : Option Addr) (c n : Nat) (hn : n = l.length) (hS : Sl H1 p c 3 (l.map Rk.c)) (f : Nat) (cap : List Value) (G1 : PH) (q : Rk → Bool) (hent : Ent Tryz.prog f) (hf : ∀ x ∈ l, Ct Tryz.prog f (.agg x.c.toArray :: cap) [H1, G1] (fun v Hs => v = .bool (q x) ∧ Hs = [H1, G1])) : Ct Tryz.prog 150 [.slice p n c, .func (.func f) [].toArray cap.toArray] [H1, G1] (fun v Hs => (∃ r : Int, v = .int .i64 r ∧ decide (0 ≤ r) = l.any q) ∧ Hs = [H1, G1]) := by
  refine Ct.body Tryz.func150 rfl Tryz.ntmps150 rfl ?_
  intro E F
  subst hn
  have hmx := hS.len_le
  simp only [List.length_map, maxLen] at hmx
  refine q_sr (q_an ?_)
  refine W.seq (q_sr (q_q q_mv (q_q (q_n u23) (q_q q_mv (q_nn (W.block ?_))))))
  refine W.loopK (ι := Nat) (fun j => (j ≤ l.length ∧ ∀ (i : Nat) x, i < j → l[i]? = some x → q x = false)) (fun j => [(8, .int .i64 (j : Nat))]) (fun j => []) (fun j => l.length - j) (.of [0, 1, 7] rfl) (.of [0, 1, 2] rfl) 0 ?_ ?_ ?_ ?_
  · exact ⟨Nat.zero_le _, fun _ _ h => absurd h (Nat.not_lt_zero _)⟩
  · exact (q_a .nil)
  · exact .nil
  rintro j ⟨hj, hI⟩
  refine q_k [8, 0, 1, 7] [0, 1, 2] ?_
  refine q_sr (q_q (q_b BinV.lss) (q_nn (W.seq ?_)))
  first | refine W.condD rfl (fun hc9 => ?_) (fun hc9 => ?_) | (refine W.cond rfl (fun hc9 => ?_) (fun hc9 => ?_) <;> try simp only [Bool.or_eq_true, Bool.and_eq_true, Bool.not_eq_true', Bool.not_eq_false', decide_eq_true_eq, Bool.or_eq_false_iff, Bool.and_eq_false_iff, decide_eq_false_iff_not, beq_iff_eq, beq_eq_false_iff_ne, ne_eq, Decidable.not_not] at hc9)
  ·
   obtain ⟨x, hx⟩ : ∃ x, l[j]? = some x := ⟨_, List.getElem?_eq_getElem (show j < l.length by first | omega | (simp only [List.length_map] at *; omega))⟩
   have hlx : (l.map Rk.c)[j]? = some x.c := by simp [hx]
   refine W.skip (N.next (W.seq (W.block (q_sr (q_q q_mv (q_an ?_))))))
   refine q_sr (q_q q_mv (q_q q_mv (q_q q_mv ?_)))
   refine q_q (q_ix u23 sz93) ?_
   refine q_q (by first | exact q_rA 1 u93 sz93 | exact q_rA 2 u93 sz93) ?_
   refine q_e (Eff.callV hent [1, 2] [1, 2] rfl (.cons rfl .nil) (hf x (List.mem_of_getElem? hx)) rfl rfl rfl rfl (by rintro _ _ ⟨_, rfl⟩; rfl)) ?_
   rintro _ _ ⟨_, ⟨rfl, rfl⟩, rfl⟩
   refine q_nn (q_k [0, 1, 5, 7, 8, 16] [0, 1, 2] ?_)
   refine W.cond rfl (fun hc16 => ?_) (fun hc16 => ?_)
   ·
    refine q_sr (q_q q_mv (q_an ?_))
    refine q_k [4] [0, 1, 2] ?_
    refine W.ret (N.block_ret (N.then_ret (N.then_ret (N.block_ret (N.then_ret ?_)))))
    exact q_r [1, 2] (.cons (.tmp rfl) .nil) rfl rfl rfl ⟨⟨_, rfl, by rw [decide_eq_true (by omega), eq_comm, List.any_eq_true]; exact ⟨x, List.mem_of_getElem? hx, hc16⟩⟩, rfl⟩
   ·
    refine W.skip (N.block_normal (N.next (W.region ?_)))
    refine q_q q_ad (q_q q_mv (RL.nil ?_))
    exact N.famK (j + 1) ⟨⟨by omega, fun i y hi hy => (Nat.lt_succ_iff_lt_or_eq.1 hi).elim (fun h => hI i y h hy) (fun e => by subst e; rw [hx] at hy; cases hy; simpa using hc16)⟩, by omega⟩ (q_a .nil) (.to rfl) .nil (.to rfl)
  ·
   refine W.exit (N.then_exit (N.then_exit (N.block_eq (N.next ?_))))
   refine W.keep .nil (.of [0, 1, 2] rfl) (q_sr (q_an ?_))
   refine W.ret ?_
   exact q_r [1, 2] (.cons (.tmp rfl) .nil) rfl rfl rfl ⟨⟨_, rfl, by rw [decide_eq_false (by omega), eq_comm, List.any_eq_false]; intro x hx; obtain ⟨i, hi⟩ := List.getElem?_of_mem hx; rw [hI i x (by have := (List.getElem?_eq_some_iff.1 hi).1; omega) hi]; decide⟩, rfl⟩
set_option maxRecDepth 100000 in
set_option maxHeartbeats 400000 in
theorem cfRk_ct (l : List Rk) (H1 : PH) (p : Option Addr) (c n : Nat) (hn : n = l.length) (hS : Sl H1 p c 3 (l.map Rk.c)) (f : Nat) (cap : List Value) (G1 : PH) (q : Rk → Bool) (hent : Ent Tryz.prog f) (hf : ∀ x ∈ l, Ct Tryz.prog f (.agg x.c.toArray :: cap) [H1, G1] (fun v Hs => v = .bool (q x) ∧ Hs = [H1, G1])) : Ct Tryz.prog 109 [.slice p n c, .func (.func f) [].toArray cap.toArray] [H1, G1] (fun v Hs => v = .bool (l.any q) ∧ Hs = [H1, G1]) := by
  refine Ct.body Tryz.func109 rfl Tryz.ntmps109 rfl ?_
  intro E F
  refine q_sr (q_an ?_)
  refine q_sr (q_q q_mv (q_q q_mv ?_))
  refine q_e (q_c ent150 [1, 2] [1, 2] (ifRk_ct l H1 p c n hn hS f cap G1 q hent hf)) ?_
  rintro _ _ ⟨_, ⟨⟨r, rfl, hr⟩, rfl⟩, rfl⟩
  refine q_q (q_b BinV.geq) (q_an ?_)
  refine q_k [4] [0, 1, 2] ?_
  refine W.ret ?_
  exact q_r [1, 2] (.cons (.tmp rfl) .nil) rfl rfl rfl ⟨by show Value.bool _ = _; congr 1, rfl⟩
set_option maxRecDepth 100000 in
set_option maxHeartbeats 400000 in
theorem ifLn_ct (l : List Ln) (H1 : PH) (p : Option Addr) (c n : Nat) (hn : n = l.length) (hS : Sl H1 p c 3 (l.map Ln.c)) (f : Nat) (cap : List Value) (G1 : PH) (q : Ln → Bool) (hent : Ent Tryz.prog f) (hf : ∀ x ∈ l, Ct Tryz.prog f (.agg x.c.toArray :: cap) [H1, G1] (fun v Hs => v = .bool (q x) ∧ Hs = [H1, G1])) : Ct Tryz.prog 151 [.slice p n c, .func (.func f) [].toArray cap.toArray] [H1, G1] (fun v Hs => (∃ r : Int, v = .int .i64 r ∧ decide (0 ≤ r) = l.any q) ∧ Hs = [H1, G1]) := by
  refine Ct.body Tryz.func151 rfl Tryz.ntmps151 rfl ?_
  intro E F
  subst hn
  have hmx := hS.len_le
  simp only [List.length_map, maxLen] at hmx
  refine q_sr (q_an ?_)
  refine W.seq (q_sr (q_q q_mv (q_q (q_n u25) (q_q q_mv (q_nn (W.block ?_))))))
  refine W.loopK (ι := Nat) (fun j => (j ≤ l.length ∧ ∀ (i : Nat) x, i < j → l[i]? = some x → q x = false)) (fun j => [(8, .int .i64 (j : Nat))]) (fun j => []) (fun j => l.length - j) (.of [0, 1, 7] rfl) (.of [0, 1, 2] rfl) 0 ?_ ?_ ?_ ?_
  · exact ⟨Nat.zero_le _, fun _ _ h => absurd h (Nat.not_lt_zero _)⟩
  · exact (q_a .nil)
  · exact .nil
  rintro j ⟨hj, hI⟩
  refine q_k [8, 0, 1, 7] [0, 1, 2] ?_
  refine q_sr (q_q (q_b BinV.lss) (q_nn (W.seq ?_)))
  first | refine W.condD rfl (fun hc9 => ?_) (fun hc9 => ?_) | (refine W.cond rfl (fun hc9 => ?_) (fun hc9 => ?_) <;> try simp only [Bool.or_eq_true, Bool.and_eq_true, Bool.not_eq_true', Bool.not_eq_false', decide_eq_true_eq, Bool.or_eq_false_iff, Bool.and_eq_false_iff, decide_eq_false_iff_not, beq_iff_eq, beq_eq_false_iff_ne, ne_eq, Decidable.not_not] at hc9)
  ·
   obtain ⟨x, hx⟩ : ∃ x, l[j]? = some x := ⟨_, List.getElem?_eq_getElem (show j < l.length by first | omega | (simp only [List.length_map] at *; omega))⟩
   have hlx : (l.map Ln.c)[j]? = some x.c := by simp [hx]
   refine W.skip (N.next (W.seq (W.block (q_sr (q_q q_mv (q_an ?_))))))
   refine q_sr (q_q q_mv (q_q q_mv (q_q q_mv ?_)))
   refine q_q (q_ix u25 sz162) ?_
   refine q_q (by first | exact q_rA 1 u162 sz162 | exact q_rA 2 u162 sz162) ?_
   refine q_e (Eff.callV hent [1, 2] [1, 2] rfl (.cons rfl .nil) (hf x (List.mem_of_getElem? hx)) rfl rfl rfl rfl (by rintro _ _ ⟨_, rfl⟩; rfl)) ?_
   rintro _ _ ⟨_, ⟨rfl, rfl⟩, rfl⟩
   refine q_nn (q_k [0, 1, 5, 7, 8, 16] [0, 1, 2] ?_)
   refine W.cond rfl (fun hc16 => ?_) (fun hc16 => ?_)
   ·
    refine q_sr (q_q q_mv (q_an ?_))
    refine q_k [4] [0, 1, 2] ?_
    refine W.ret (N.block_ret (N.then_ret (N.then_ret (N.block_ret (N.then_ret ?_)))))
    exact q_r [1, 2] (.cons (.tmp rfl) .nil) rfl rfl rfl ⟨⟨_, rfl, by rw [decide_eq_true (by omega), eq_comm, List.any_eq_true]; exact ⟨x, List.mem_of_getElem? hx, hc16⟩⟩, rfl⟩
   ·
    refine W.skip (N.block_normal (N.next (W.region ?_)))
    refine q_q q_ad (q_q q_mv (RL.nil ?_))
    exact N.famK (j + 1) ⟨⟨by omega, fun i y hi hy => (Nat.lt_succ_iff_lt_or_eq.1 hi).elim (fun h => hI i y h hy) (fun e => by subst e; rw [hx] at hy; cases hy; simpa using hc16)⟩, by omega⟩ (q_a .nil) (.to rfl) .nil (.to rfl)
  ·
   refine W.exit (N.then_exit (N.then_exit (N.block_eq (N.next ?_))))
   refine W.keep .nil (.of [0, 1, 2] rfl) (q_sr (q_an ?_))
   refine W.ret ?_
   exact q_r [1, 2] (.cons (.tmp rfl) .nil) rfl rfl rfl ⟨⟨_, rfl, by rw [decide_eq_false (by omega), eq_comm, List.any_eq_false]; intro x hx; obtain ⟨i, hi⟩ := List.getElem?_of_mem hx; rw [hI i x (by have := (List.getElem?_eq_some_iff.1 hi).1; omega) hi]; decide⟩, rfl⟩
set_option maxRecDepth 100000 in
set_option maxHeartbeats 400000 in
theorem cfLn_ct (l : List Ln) (H1 : PH) (p : Option Addr) (c n : Nat) (hn : n = l.length) (hS : Sl H1 p c 3 (l.map Ln.c)) (f : Nat) (cap : List Value) (G1 : PH) (q : Ln → Bool) (hent : Ent Tryz.prog f) (hf : ∀ x ∈ l, Ct Tryz.prog f (.agg x.c.toArray :: cap) [H1, G1] (fun v Hs => v = .bool (q x) ∧ Hs = [H1, G1])) : Ct Tryz.prog 116 [.slice p n c, .func (.func f) [].toArray cap.toArray] [H1, G1] (fun v Hs => v = .bool (l.any q) ∧ Hs = [H1, G1]) := by
  refine Ct.body Tryz.func116 rfl Tryz.ntmps116 rfl ?_
  intro E F
  refine q_sr (q_an ?_)
  refine q_sr (q_q q_mv (q_q q_mv ?_))
  refine q_e (q_c ent151 [1, 2] [1, 2] (ifLn_ct l H1 p c n hn hS f cap G1 q hent hf)) ?_
  rintro _ _ ⟨_, ⟨⟨r, rfl, hr⟩, rfl⟩, rfl⟩
  refine q_q (q_b BinV.geq) (q_an ?_)
  refine q_k [4] [0, 1, 2] ?_
  refine W.ret ?_
  exact q_r [1, 2] (.cons (.tmp rfl) .nil) rfl rfl rfl ⟨by show Value.bool _ = _; congr 1, rfl⟩
set_option maxRecDepth 100000 in
set_option maxHeartbeats 400000 in
theorem siteC11_ct (b : Nat) (x y : Rk) (H1 : PH) : Ct Tryz.prog 108 [.agg [.string y.nm, .int .i64 y.si, .int .i64 y.fe].toArray, .pointer (some ⟨b, 0, none⟩)] [H1, single b (.cells [.string x.nm, .int .i64 x.si, .int .i64 x.fe].toArray 93 (0, 0))] (fun v Hs => v = .bool (decide (y.fe = x.fe) && decide (y.si ≠ x.si)) ∧ Hs = [H1, single b (.cells [.string x.nm, .int .i64 x.si, .int .i64 x.fe].toArray 93 (0, 0))]) := by
  refine Ct.body Tryz.func108 rfl Tryz.ntmps108 rfl ?_
  intro E F
  refine q_sr ?_
  refine q_bx 102 fun b2 => ?_
  refine q_an ?_
  refine q_sr (q_q (q_fa fo93_2) (q_q (q_l 102 u3) (q_q (q_fa fo93_2) (q_q (q_l 2 u3) (q_q (q_b BinV.eql) (q_q q_mv ?_))))))
  refine' q_and 9 15 6 [0, 1, 2, 3, 4, 5, 6, 7, 8] [0, 1, 2, 102] ?_ ?_ ?_
  rotate_left 1
  ·
   intro hg9
   refine q_g (q_fa fo93_1) (q_g (q_l 102 u3) (q_g (q_fa fo93_1) (q_g (q_l 2 u3) (q_g (q_b BinV.neq) (q_q Yld.pk ?_)))))
   exact q_m
  ·
   intro hg9
   repeat refine q_gs ?_
   refine q_q Yld.pk ?_
   exact q_m
  refine q_an ?_
  refine q_k [3] [0, 1, 2, 102] ?_
  refine W.ret ?_
  exact q_r [1, 2] (.cons (.tmp rfl) .nil) rfl rfl rfl ⟨rfl, rfl⟩
set_option maxRecDepth 100000 in
set_option maxHeartbeats 400000 in
theorem siteC31_ct (b : Nat) (x y : Ln) (H1 : PH) : Ct Tryz.prog 115 [.agg [.int .i64 y.a, .int .i64 y.b, .int .i64 y.cp].toArray, .pointer (some ⟨b, 0, none⟩)] [H1, single b (.cells [.int .i64 x.a, .int .i64 x.b, .int .i64 x.cp].toArray 162 (0, 0))] (fun v Hs => v = .bool (decide (y.a = x.a) && decide (y.b = x.b)) ∧ Hs = [H1, single b (.cells [.int .i64 x.a, .int .i64 x.b, .int .i64 x.cp].toArray 162 (0, 0))]) := by
  refine Ct.body Tryz.func115 rfl Tryz.ntmps115 rfl ?_
  intro E F
  refine q_sr ?_
  refine q_bx 102 fun b2 => ?_
  refine q_an ?_
  refine q_sr (q_q (q_fa fo162_0) (q_q (q_l 102 u3) (q_q (q_fa fo162_0) (q_q (q_l 2 u3) (q_q (q_b BinV.eql) (q_q q_mv ?_))))))
  refine' q_and 9 15 6 [0, 1, 2, 3, 4, 5, 6, 7, 8] [0, 1, 2, 102] ?_ ?_ ?_
  rotate_left 1
  ·
   intro hg9
   refine q_g (q_fa fo162_1) (q_g (q_l 102 u3) (q_g (q_fa fo162_1) (q_g (q_l 2 u3) (q_g (q_b BinV.eql) (q_q Yld.pk ?_)))))
   exact q_m
  ·
   intro hg9
   repeat refine q_gs ?_
   refine q_q Yld.pk ?_
   exact q_m
  refine q_an ?_
  refine q_k [3] [0, 1, 2, 102] ?_
  refine W.ret ?_
  exact q_r [1, 2] (.cons (.tmp rfl) .nil) rfl rfl rfl ⟨rfl, rfl⟩
set_option maxRecDepth 100000 in
set_option maxHeartbeats 400000 in
theorem siteC1_ct (m : Md) (H1 : PH) (hM : m.In H1) (b : Nat) (i : Nat) (x : Rk) (hx : m.rk[i]? = some x) : Ct Tryz.prog 107 [.agg [.string x.nm, .int .i64 x.si, .int .i64 x.fe].toArray, .slice m.prk i m.crk, .pointer (some ⟨b, 0, none⟩)] [H1, single b (.cells [.slice m.psi m.si.length m.csi, .slice m.pfe m.fe.length m.cfe, .slice m.prk m.rk.length m.crk, .slice m.pmc m.mc.length m.cmc, .slice m.pln m.ln.length m.cln, .slice m.pis m.is.length m.cis, .int .i64 m.da, .int .i64 m.sl, .int .i64 m.re, .int .i64 m.fa, .slice m.prl m.rl.length m.crl].toArray 29 (0, 0))] (fun v Hs => v = .bool (qRk m i x) ∧ Hs = [H1, single b (.cells [.slice m.psi m.si.length m.csi, .slice m.pfe m.fe.length m.cfe, .slice m.prk m.rk.length m.crk, .slice m.pmc m.mc.length m.cmc, .slice m.pln m.ln.length m.cln, .slice m.pis m.is.length m.cis, .int .i64 m.da, .int .i64 m.sl, .int .i64 m.re, .int .i64 m.fa, .slice m.prl m.rl.length m.crl].toArray 29 (0, 0))]) := by
  refine Ct.body Tryz.func107 rfl Tryz.ntmps107 rfl ?_
  intro E F
  refine q_sr ?_
  refine q_bx 103 fun b3 => ?_
  refine q_an ?_
  refine q_sr ?_
  refine q_q (Yld.makeFunc eval0 (eval1 rfl)) (q_an ?_)
  refine q_sr (q_q (q_fa fo93_1) (q_q (q_l 103 u3) (q_q (q_fa fo29_0) (q_q (q_l 2 u22) (q_q (q_n u22) ?_)))))
  refine q_e (q_c ent105 [] [] (exists_ct x.si m.si.length)) ?_
  rintro _ _ ⟨_, ⟨rfl, rfl⟩, rfl⟩
  refine q_q q_mv ?_
  refine' q_and 14 21 7 [0, 1, 2, 3, 5, 6, 7, 8, 9, 10, 11, 12, 13] [0, 1, 2, 103] ?_ ?_ ?_
  rotate_left 1
  ·
   intro hg14
   refine q_g (q_fa fo93_2) (q_g (q_l 103 u3) (q_g (q_fa fo29_1) (q_g (q_l 2 u22) (q_g (q_n u22) ?_))))
   refine RL.ge rfl rfl (q_c ent105 [] [] (exists_ct x.fe m.fe.length)) rfl ?_
   rintro _ _ ⟨_, ⟨rfl, rfl⟩, rfl⟩
   refine q_q Yld.pk ?_
   exact q_m
  ·
   intro hg14
   repeat refine q_gs ?_
   refine q_q Yld.pk ?_
   exact q_m
  refine q_q q_mv ?_
  refine' q_and 22 27 5 [0, 1, 2, 3, 5, 6, 7, 8, 9, 10, 11, 12, 13, 21] [0, 1, 2, 103] ?_ ?_ ?_
  rotate_left 1
  ·
   intro hg22
   refine q_g q_mv (q_g q_mv ?_)
   refine RL.ge rfl rfl (Eff.call ent109 [1, 103] [1, 103] (.cons rfl (.cons rfl .nil)) (cfRk_ct (m.rk.take i) H1 m.prk m.crk i (by rw [List.length_take]; have := (List.getElem?_eq_some_iff.1 hx).1; omega) (by rw [List.map_take]; exact hM.rk.take i) 108 [.pointer (some ⟨b3, 0, none⟩)] _ (fun y => decide (y.fe = x.fe) && decide (y.si ≠ x.si)) ent108 (fun y _ => siteC11_ct b3 x y H1)) rfl rfl rfl rfl (by rintro _ _ ⟨_, rfl⟩; rfl)) rfl ?_
   rintro _ _ ⟨_, ⟨rfl, rfl⟩, rfl⟩
   refine q_g Yld.nt (q_q Yld.pk ?_)
   exact q_m
  ·
   intro hg22
   repeat refine q_gs ?_
   refine q_q Yld.pk ?_
   exact q_m
  refine q_an ?_
  refine q_k [5] [0, 1, 2, 103] ?_
  refine W.ret ?_
  exact q_r [1, 2] (.cons (.tmp rfl) .nil) rfl rfl rfl ⟨rfl, rfl⟩
set_option maxRecDepth 100000 in
set_option maxHeartbeats 400000 in
theorem siteC2_ct (m : Md) (H1 : PH) (hM : m.In H1) (b : Nat) (i : Nat) (x : Mc) : Ct Tryz.prog 111 [.agg [.string x.nm, .int .i64 x.rk, .int .i64 x.cp].toArray, .slice m.pmc i m.cmc, .pointer (some ⟨b, 0, none⟩)] [H1, single b (.cells [.slice m.psi m.si.length m.csi, .slice m.pfe m.fe.length m.cfe, .slice m.prk m.rk.length m.crk, .slice m.pmc m.mc.length m.cmc, .slice m.pln m.ln.length m.cln, .slice m.pis m.is.length m.cis, .int .i64 m.da, .int .i64 m.sl, .int .i64 m.re, .int .i64 m.fa, .slice m.prl m.rl.length m.crl].toArray 29 (0, 0))] (fun v Hs => v = .bool (qMc m i x) ∧ Hs = [H1, single b (.cells [.slice m.psi m.si.length m.csi, .slice m.pfe m.fe.length m.cfe, .slice m.prk m.rk.length m.crk, .slice m.pmc m.mc.length m.cmc, .slice m.pln m.ln.length m.cln, .slice m.pis m.is.length m.cis, .int .i64 m.da, .int .i64 m.sl, .int .i64 m.re, .int .i64 m.fa, .slice m.prl m.rl.length m.crl].toArray 29 (0, 0))]) := by
  refine Ct.body Tryz.func111 rfl Tryz.ntmps111 rfl ?_
  intro E F
  refine q_sr ?_
  refine q_bx 103 fun b3 => ?_
  refine q_an ?_
  refine q_sr (q_q (q_fa fo95_1) (q_q (q_l 103 u3) (q_q (q_fa fo29_2) (q_q (q_l 2 u23) (q_q (q_n u23) ?_)))))
  refine q_e (q_c ent105 [] [] (exists_ct x.rk m.rk.length)) ?_
  rintro _ _ ⟨_, ⟨rfl, rfl⟩, rfl⟩
  refine q_q q_mv ?_
  refine' q_and 12 16 4 [0, 1, 2, 3, 5, 6, 7, 8, 9, 10, 11] [0, 1, 2, 103] ?_ ?_ ?_
  rotate_left 1
  ·
   intro hg12
   refine q_g (q_fa fo95_2) (q_g (q_l 103 u3) ?_)
   refine RL.ge rfl rfl (q_c ent112 [] [] (amount_ct x.cp)) rfl ?_
   rintro _ _ ⟨_, ⟨rfl, rfl⟩, rfl⟩
   refine q_q Yld.pk ?_
   exact q_m
  ·
   intro hg12
   repeat refine q_gs ?_
   refine q_q Yld.pk ?_
   exact q_m
  refine q_an ?_
  refine q_k [5] [0, 1, 2, 103] ?_
  refine W.ret ?_
  exact q_r [1, 2] (.cons (.tmp rfl) .nil) rfl rfl rfl ⟨rfl, rfl⟩
set_option maxRecDepth 100000 in
set_option maxHeartbeats 400000 in
theorem siteC3_ct (m : Md) (H1 : PH) (hM : m.In H1) (b : Nat) (i : Nat) (x : Ln) (hx : m.ln[i]? = some x) : Ct Tryz.prog 114 [.agg [.int .i64 x.a, .int .i64 x.b, .int .i64 x.cp].toArray, .slice m.pln i m.cln, .pointer (some ⟨b, 0, none⟩)] [H1, single b (.cells [.slice m.psi m.si.length m.csi, .slice m.pfe m.fe.length m.cfe, .slice m.prk m.rk.length m.crk, .slice m.pmc m.mc.length m.cmc, .slice m.pln m.ln.length m.cln, .slice m.pis m.is.length m.cis, .int .i64 m.da, .int .i64 m.sl, .int .i64 m.re, .int .i64 m.fa, .slice m.prl m.rl.length m.crl].toArray 29 (0, 0))] (fun v Hs => v = .bool (qLn m i x) ∧ Hs = [H1, single b (.cells [.slice m.psi m.si.length m.csi, .slice m.pfe m.fe.length m.cfe, .slice m.prk m.rk.length m.crk, .slice m.pmc m.mc.length m.cmc, .slice m.pln m.ln.length m.cln, .slice m.pis m.is.length m.cis, .int .i64 m.da, .int .i64 m.sl, .int .i64 m.re, .int .i64 m.fa, .slice m.prl m.rl.length m.crl].toArray 29 (0, 0))]) := by
  refine Ct.body Tryz.func114 rfl Tryz.ntmps114 rfl ?_
  intro E F
  refine q_sr ?_
  refine q_bx 103 fun b3 => ?_
  refine q_an ?_
  refine q_sr ?_
  refine q_q (Yld.makeFunc eval0 (eval1 rfl)) (q_an ?_)
  refine q_sr (q_q (q_fa fo162_0) (q_q (q_l 103 u3) (q_q (q_b BinV.geq) (q_q q_mv ?_))))
  refine' q_and 11 17 6 [0, 1, 2, 3, 5, 6, 7, 8, 9, 10] [0, 1, 2, 103] ?_ ?_ ?_
  rotate_left 1
  ·
   intro hg11
   refine q_g (q_fa fo162_0) (q_g (q_l 103 u3) (q_g (q_fa fo162_1) (q_g (q_l 103 u3) (q_g (q_b BinV.lss) (q_q Yld.pk ?_)))))
   exact q_m
  ·
   intro hg11
   repeat refine q_gs ?_
   refine q_q Yld.pk ?_
   exact q_m
  refine q_q q_mv ?_
  refine' q_and 18 25 7 [0, 1, 2, 3, 5, 6, 7, 8, 9, 10, 17] [0, 1, 2, 103] ?_ ?_ ?_
  rotate_left 1
  ·
   intro hg18
   refine q_g (q_fa fo162_1) (q_g (q_l 103 u3) (q_g (q_fa fo29_0) (q_g (q_l 2 u22) (q_g (q_n u22) (q_g (q_b BinV.leq) (q_q Yld.pk ?_))))))
   exact q_m
  ·
   intro hg18
   repeat refine q_gs ?_
   refine q_q Yld.pk ?_
   exact q_m
  refine q_q q_mv ?_
  refine' q_and 26 30 4 [0, 1, 2, 3, 5, 6, 7, 8, 9, 10, 17, 25] [0, 1, 2, 103] ?_ ?_ ?_
  rotate_left 1
  ·
   intro hg26
   refine q_g (q_fa fo162_2) (q_g (q_l 103 u3) ?_)
   refine RL.ge rfl rfl (q_c ent112 [] [] (amount_ct x.cp)) rfl ?_
   rintro _ _ ⟨_, ⟨rfl, rfl⟩, rfl⟩
   refine q_q Yld.pk ?_
   exact q_m
  ·
   intro hg26
   repeat refine q_gs ?_
   refine q_q Yld.pk ?_
   exact q_m
  refine q_q q_mv ?_
  refine' q_and 31 36 5 [0, 1, 2, 3, 5, 6, 7, 8, 9, 10, 17, 25, 30] [0, 1, 2, 103] ?_ ?_ ?_
  rotate_left 1
  ·
   intro hg31
   refine q_g q_mv (q_g q_mv ?_)
   refine RL.ge rfl rfl (Eff.call ent116 [1, 103] [1, 103] (.cons rfl (.cons rfl .nil)) (cfLn_ct (m.ln.take i) H1 m.pln m.cln i (by rw [List.length_take]; have := (List.getElem?_eq_some_iff.1 hx).1; omega) (by rw [List.map_take]; exact hM.ln.take i) 115 [.pointer (some ⟨b3, 0, none⟩)] _ (fun y => decide (y.a = x.a) && decide (y.b = x.b)) ent115 (fun y _ => siteC31_ct b3 x y H1)) rfl rfl rfl rfl (by rintro _ _ ⟨_, rfl⟩; rfl)) rfl ?_
   rintro _ _ ⟨_, ⟨rfl, rfl⟩, rfl⟩
   refine q_g Yld.nt (q_q Yld.pk ?_)
   exact q_m
  ·
   intro hg31
   repeat refine q_gs ?_
   refine q_q Yld.pk ?_
   exact q_m
  refine q_an ?_
  refine q_k [5] [0, 1, 2, 103] ?_
  refine W.ret ?_
  exact q_r [1, 2] (.cons (.tmp rfl) .nil) rfl rfl rfl ⟨rfl, rfl⟩
set_option maxRecDepth 100000 in
set_option maxHeartbeats 1600000 in
theorem site_ct (m : Md) (H1 : PH) (hM : m.In H1) : Ct Tryz.prog 66 [.agg [.slice m.psi m.si.length m.csi, .slice m.pfe m.fe.length m.cfe, .slice m.prk m.rk.length m.crk, .slice m.pmc m.mc.length m.cmc, .slice m.pln m.ln.length m.cln, .slice m.pis m.is.length m.cis, .int .i64 m.da, .int .i64 m.sl, .int .i64 m.re, .int .i64 m.fa, .slice m.prl m.rl.length m.crl].toArray] [H1] (fun v Hs => v = .bool (pB (SiteV m)) ∧ Hs = [H1]) := by
  refine Ct.body Tryz.func66 rfl Tryz.ntmps66 rfl ?_
  intro E F
  refine q_sr ?_
  refine q_bx 101 fun b1 => ?_
  refine q_an ?_
  refine W.seq (q_sr (q_q (q_fa fo29_0) (q_q (q_l 101 u22) (q_q (q_n u22) ?_))))
  refine q_e (q_c ent105 [] [] (exists_ct m.si.length 4)) ?_
  rintro _ _ ⟨_, ⟨rfl, rfl⟩, rfl⟩
  refine q_q Yld.nt (q_q q_mv ?_)
  refine' q_or 11 16 5 [0, 1, 2, 6, 7, 8, 9, 10] [0, 1, 101] ?_ ?_ ?_
  rotate_left 1
  ·
   intro hg11
   refine q_g (q_fa fo29_1) (q_g (q_l 101 u22) (q_g (q_n u22) (q_g (q_b BinV.gtr) (q_q Yld.pk ?_))))
   exact q_m
  ·
   intro hg11
   repeat refine q_gs ?_
   refine q_q Yld.pk ?_
   exact q_m
  refine q_q q_mv ?_
  refine' q_or 17 22 5 [0, 1, 2, 6, 7, 8, 9, 10, 16] [0, 1, 101] ?_ ?_ ?_
  rotate_left 1
  ·
   intro hg17
   refine q_g (q_fa fo29_2) (q_g (q_l 101 u23) (q_g (q_n u23) (q_g (q_b BinV.gtr) (q_q Yld.pk ?_))))
   exact q_m
  ·
   intro hg17
   repeat refine q_gs ?_
   refine q_q Yld.pk ?_
   exact q_m
  refine q_q q_mv ?_
  refine' q_or 23 29 6 [0, 1, 2, 6, 7, 8, 9, 10, 16, 22] [0, 1, 101] ?_ ?_ ?_
  rotate_left 1
  ·
   intro hg23
   refine q_g (q_fa fo29_3) (q_g (q_l 101 u24) (q_g (q_n u24) ?_))
   refine RL.ge rfl rfl (q_c ent105 [] [] (exists_ct m.mc.length 16)) rfl ?_
   rintro _ _ ⟨_, ⟨rfl, rfl⟩, rfl⟩
   refine q_g Yld.nt (q_q Yld.pk ?_)
   exact q_m
  ·
   intro hg23
   repeat refine q_gs ?_
   refine q_q Yld.pk ?_
   exact q_m
  refine q_q q_mv ?_
  refine' q_or 30 35 5 [0, 1, 2, 6, 7, 8, 9, 10, 16, 22, 29] [0, 1, 101] ?_ ?_ ?_
  rotate_left 1
  ·
   intro hg30
   refine q_g (q_fa fo29_4) (q_g (q_l 101 u25) (q_g (q_n u25) (q_g (q_b BinV.gtr) (q_q Yld.pk ?_))))
   exact q_m
  ·
   intro hg30
   repeat refine q_gs ?_
   refine q_q Yld.pk ?_
   exact q_m
  refine q_nn (q_k [1, 35] [0, 1, 101] ?_)
  refine W.cond rfl (fun hc35 => ?_) (fun hc35 => ?_)
  ·
   have hcv : cntV m = true := by unfold cntV; exact hc35
   refine q_sr (q_an ?_)
   refine W.ret (N.then_ret ?_)
   exact q_r [1] (.cons (.tmp rfl) .nil) rfl rfl rfl ⟨by rw [pB_not (site_no hcv)]; rfl, rfl⟩
  ·
   have hcv : cntV m = false := by unfold cntV; exact hc35
   refine W.skip (N.next (q_sr (q_q (q_fa fo29_2) (q_q (q_l 101 u23) ?_))))
   refine q_q (Yld.makeFunc eval0 (eval1 rfl)) ?_
   refine q_e (q_c ent106 [1, 101] [1, 101] (soundRk_ct m.rk H1 m.prk m.crk hM.rk 107 [.pointer (some ⟨b1, 0, none⟩)] _ (qRk m) ent107 (fun i x hx => siteC1_ct m H1 hM b1 i x hx))) ?_
   rintro _ _ ⟨_, ⟨rfl, rfl⟩, rfl⟩
   refine q_an ?_
   refine q_k [1, 3] [0, 1, 101] ?_
   refine q_sr (q_q (q_fa fo29_3) (q_q (q_l 101 u24) ?_))
   refine q_q (Yld.makeFunc eval0 (eval1 rfl)) ?_
   refine q_e (q_c ent110 [1, 101] [1, 101] (soundMc_ct m.mc H1 m.pmc m.cmc hM.mc 111 [.pointer (some ⟨b1, 0, none⟩)] _ (qMc m) ent111 (fun i x hx => siteC2_ct m H1 hM b1 i x))) ?_
   rintro _ _ ⟨_, ⟨rfl, rfl⟩, rfl⟩
   refine q_an ?_
   refine q_k [1, 3, 4] [0, 1, 101] ?_
   refine q_sr (q_q (q_fa fo29_4) (q_q (q_l 101 u25) ?_))
   refine q_q (Yld.makeFunc eval0 (eval1 rfl)) ?_
   refine q_e (q_c ent113 [1, 101] [1, 101] (soundLn_ct m.ln H1 m.pln m.cln hM.ln 114 [.pointer (some ⟨b1, 0, none⟩)] _ (qLn m) ent114 (fun i x hx => siteC3_ct m H1 hM b1 i x hx))) ?_
   rintro _ _ ⟨_, ⟨rfl, rfl⟩, rfl⟩
   refine q_an ?_
   refine q_k [3, 4, 5] [0, 1, 101] ?_
   refine q_sr (q_q q_mv (q_q q_mv ?_))
   refine' q_and 49 51 2 [3, 4, 5, 48] [0, 1, 101] ?_ ?_ ?_
   rotate_left 1
   ·
    intro hg49
    refine q_g q_mv (q_q Yld.pk ?_)
    exact q_m
   ·
    intro hg49
    refine q_gs (q_q Yld.pk ?_)
    exact q_m
   refine q_q q_mv ?_
   refine' q_and 52 54 2 [3, 4, 5, 48, 51] [0, 1, 101] ?_ ?_ ?_
   rotate_left 1
   ·
    intro hg52
    refine q_g q_mv (q_q Yld.pk ?_)
    exact q_m
   ·
    intro hg52
    refine q_gs (q_q Yld.pk ?_)
    exact q_m
   refine q_an ?_
   refine q_k [2] [0, 1, 101] ?_
   refine W.ret ?_
   exact q_r [1] (.cons (.tmp rfl) .nil) rfl rfl rfl ⟨by show Value.bool _ = Value.bool _; congr 1; rw [Bool.eq_iff_iff]; rw [pB_iff, site_iff hcv, Bool.and_eq_true, Bool.and_eq_true, pB_iff, pB_iff, pB_iff, and_assoc], rfl⟩
end Go.Proofs.YtboapdcmaeojgaaGreatDoor
namespace Go.Proofs.YtboapdcmaeojgaaGreatDoor
open SL Cat
set_option linter.unusedVariables false
set_option linter.unusedSimpArgs false
theorem sz3 : sz Tryz.prog 3 1 := (by kernel_rfl : (Tryz.prog.info? 3).map (·.size) = some 1)
theorem ent76 : Ent Tryz.prog 76 := ⟨_, _, Tryz.func76, by kernel_rfl, rfl⟩
theorem sz9 : sz Tryz.prog 9 1 := (by kernel_rfl : (Tryz.prog.info? 9).map (·.size) = some 1)
theorem ent164 : Ent Tryz.prog 164 := ⟨_, _, Tryz.func164, by kernel_rfl, rfl⟩
abbrev u55 := @Tryz.underlying55
abbrev u9 := @Tryz.underlying9
set_option maxRecDepth 100000 in
set_option maxHeartbeats 400000 in
theorem index_ct (l : List Int) (H1 : PH) (p : Option Addr) (c : Nat) (hl : Sl H1 p c 1 (iz l)) (a : Int) : Ct Tryz.prog 76 [.slice p l.length c, .int .i64 a] [H1] (fun v Hs => (∃ r : Int, v = .int .i64 r ∧ (0 ≤ r ↔ a ∈ l)) ∧ Hs = [H1]) := by
  refine Ct.body Tryz.func76 rfl Tryz.ntmps76 rfl ?_
  intro E F
  have hmxl := hl.len_le
  simp only [iz_len, maxLen] at hmxl
  refine q_sr (q_an ?_)
  refine W.seq (q_sr (q_q q_mv (q_q (q_n u55) (q_q q_mv (q_nn (W.block ?_))))))
  refine W.loopK (ι := Nat) (fun j => (j ≤ l.length ∧ ∀ (i : Nat) z, i < j → l[i]? = some z → a ≠ z)) (fun j => [(8, .int .i64 (j : Nat))]) (fun j => []) (fun j => l.length - j) (.of [0, 1, 7] rfl) (.of [0, 1] rfl) 0 ?_ ?_ ?_ ?_
  · exact ⟨Nat.zero_le _, fun _ _ h => absurd h (Nat.not_lt_zero _)⟩
  · exact (q_a .nil)
  · exact .nil
  rintro j ⟨hj, hI⟩
  refine q_k [8, 0, 1, 7] [0, 1] ?_
  refine q_sr (q_q (q_b BinV.lss) (q_nn (W.seq ?_)))
  first | refine W.condD rfl (fun hc9 => ?_) (fun hc9 => ?_) | (refine W.cond rfl (fun hc9 => ?_) (fun hc9 => ?_) <;> try simp only [Bool.or_eq_true, Bool.and_eq_true, Bool.not_eq_true', Bool.not_eq_false', decide_eq_true_eq, Bool.or_eq_false_iff, Bool.and_eq_false_iff, decide_eq_false_iff_not, beq_iff_eq, beq_eq_false_iff_ne, ne_eq, Decidable.not_not] at hc9)
  ·
   obtain ⟨z, hz, hlz⟩ := iz_at (show j < l.length by omega)
   refine W.skip (N.next (W.seq (W.block (q_sr (q_q q_mv (q_an ?_))))))
   refine q_sr (q_q q_mv (q_q q_mv (q_q q_mv ?_)))
   refine q_q (q_ix u55 sz3) ?_
   refine q_q (by first | exact (q_r1 1 u3) | exact (q_rF 1 0 u3)) ?_
   refine q_q (q_b BinV.eql) (q_nn (q_k [0, 1, 5, 7, 8, 16] [0, 1] ?_))
   first | refine W.condD rfl (fun hc16 => ?_) (fun hc16 => ?_) | (refine W.cond rfl (fun hc16 => ?_) (fun hc16 => ?_) <;> try simp only [Bool.or_eq_true, Bool.and_eq_true, Bool.not_eq_true', Bool.not_eq_false', decide_eq_true_eq, Bool.or_eq_false_iff, Bool.and_eq_false_iff, decide_eq_false_iff_not, beq_iff_eq, beq_eq_false_iff_ne, ne_eq, Decidable.not_not] at hc16)
   ·
    refine q_sr (q_q q_mv (q_an ?_))
    refine q_k [4] [0, 1] ?_
    refine W.ret (N.block_ret (N.then_ret (N.then_ret (N.block_ret (N.then_ret ?_)))))
    exact q_r [1] (.cons (.tmp rfl) .nil) rfl rfl rfl ⟨⟨_, rfl, ⟨fun _ => by rw [hc16]; exact List.mem_of_getElem? hz, fun _ => by omega⟩⟩, rfl⟩
   ·
    refine W.skip (N.block_normal (N.next (W.region ?_)))
    refine q_q q_ad (q_q q_mv (RL.nil ?_))
    exact N.famK (j + 1) ⟨⟨by omega, fun i y hi hy => (Nat.lt_succ_iff_lt_or_eq.1 hi).elim (fun h => hI i y h hy) (fun e => by subst e; rw [hz] at hy; cases hy; exact hc16)⟩, by omega⟩ (q_a .nil) (.to rfl) .nil (.to rfl)
  ·
   refine W.exit (N.then_exit (N.then_exit (N.block_eq (N.next ?_))))
   refine W.keep .nil (.of [0, 1] rfl) (q_sr (q_an ?_))
   refine W.ret ?_
   exact q_r [1] (.cons (.tmp rfl) .nil) rfl rfl rfl ⟨⟨_, rfl, ⟨fun h => absurd h (by omega), fun h => by obtain ⟨i, hi⟩ := List.getElem?_of_mem h; exact absurd rfl (hI i a (by have := (List.getElem?_eq_some_iff.1 hi).1; omega) hi)⟩⟩, rfl⟩
set_option maxRecDepth 100000 in
set_option maxHeartbeats 400000 in
theorem contains_ct (l : List Int) (H1 : PH) (p : Option Addr) (c : Nat) (hl : Sl H1 p c 1 (iz l)) (a : Int) : Ct Tryz.prog 35 [.slice p l.length c, .int .i64 a] [H1] (fun v Hs => v = .bool (decide (a ∈ l)) ∧ Hs = [H1]) := by
  refine Ct.body Tryz.func35 rfl Tryz.ntmps35 rfl ?_
  intro E F
  refine q_sr (q_an ?_)
  refine q_sr (q_q q_mv (q_q q_mv ?_))
  refine q_e (q_c ent76 [1] [1] (index_ct l _ _ _ hl a)) ?_
  rintro _ _ ⟨_, ⟨⟨r, rfl, hr⟩, rfl⟩, rfl⟩
  refine q_q (q_b BinV.geq) (q_an ?_)
  refine q_k [4] [0, 1] ?_
  refine W.ret ?_
  exact q_r [1] (.cons (.tmp rfl) .nil) rfl rfl rfl ⟨by show Value.bool _ = _; congr 1; exact decide_eq_decide.2 hr, rfl⟩
set_option maxRecDepth 100000 in
set_option maxHeartbeats 400000 in
theorem indexT_ct (l : List Ky) (H1 : PH) (p : Option Addr) (c : Nat) (hl : Sl H1 p c 1 (tz l)) (a : Ky) : Ct Tryz.prog 164 [.slice p l.length c, .string a] [H1] (fun v Hs => (∃ r : Int, v = .int .i64 r ∧ (0 ≤ r ↔ a ∈ l)) ∧ Hs = [H1]) := by
  refine Ct.body Tryz.func164 rfl Tryz.ntmps164 rfl ?_
  intro E F
  have hmx := hl.len_le
  simp only [tz_len, maxLen] at hmx
  refine q_sr (q_an ?_)
  refine W.seq (q_sr (q_q q_mv (q_q (q_n u22) (q_q q_mv (q_nn (W.block ?_))))))
  refine W.loopK (ι := Nat) (fun j => (j ≤ l.length ∧ ∀ (i : Nat) z, i < j → l[i]? = some z → a ≠ z)) (fun j => [(8, .int .i64 (j : Nat))]) (fun j => []) (fun j => l.length - j) (.of [0, 1, 7] rfl) (.of [0, 1] rfl) 0 ?_ ?_ ?_ ?_
  · exact ⟨Nat.zero_le _, fun _ _ h => absurd h (Nat.not_lt_zero _)⟩
  · exact (q_a .nil)
  · exact .nil
  rintro j ⟨hj, hI⟩
  refine q_k [8, 0, 1, 7] [0, 1] ?_
  refine q_sr (q_q (q_b BinV.lss) (q_nn (W.seq ?_)))
  first | refine W.condD rfl (fun hc9 => ?_) (fun hc9 => ?_) | (refine W.cond rfl (fun hc9 => ?_) (fun hc9 => ?_) <;> try simp only [Bool.or_eq_true, Bool.and_eq_true, Bool.not_eq_true', Bool.not_eq_false', decide_eq_true_eq, Bool.or_eq_false_iff, Bool.and_eq_false_iff, decide_eq_false_iff_not, beq_iff_eq, beq_eq_false_iff_ne, ne_eq, Decidable.not_not] at hc9)
  ·
   obtain ⟨z, hz, hlz⟩ := tz_at (show j < l.length by omega)
   refine W.skip (N.next (W.seq (W.block (q_sr (q_q q_mv (q_an ?_))))))
   refine q_sr (q_q q_mv (q_q q_mv (q_q q_mv ?_)))
   refine q_q (q_ix u22 sz9) ?_
   refine q_q (by first | exact (q_r1 1 u9) | exact (q_rF 1 0 u9)) ?_
   refine q_q (q_b BinV.eqlS) (q_nn (q_k [0, 1, 5, 7, 8, 16] [0, 1] ?_))
   first | refine W.condD rfl (fun hc16 => ?_) (fun hc16 => ?_) | (refine W.cond rfl (fun hc16 => ?_) (fun hc16 => ?_) <;> try simp only [Bool.or_eq_true, Bool.and_eq_true, Bool.not_eq_true', Bool.not_eq_false', decide_eq_true_eq, Bool.or_eq_false_iff, Bool.and_eq_false_iff, decide_eq_false_iff_not, beq_iff_eq, beq_eq_false_iff_ne, ne_eq, Decidable.not_not] at hc16)
   ·
    refine q_sr (q_q q_mv (q_an ?_))
    refine q_k [4] [0, 1] ?_
    refine W.ret (N.block_ret (N.then_ret (N.then_ret (N.block_ret (N.then_ret ?_)))))
    exact q_r [1] (.cons (.tmp rfl) .nil) rfl rfl rfl ⟨⟨_, rfl, ⟨fun _ => by rw [hc16]; exact List.mem_of_getElem? hz, fun _ => by omega⟩⟩, rfl⟩
   ·
    refine W.skip (N.block_normal (N.next (W.region ?_)))
    refine q_q q_ad (q_q q_mv (RL.nil ?_))
    exact N.famK (j + 1) ⟨⟨by omega, fun i y hi hy => (Nat.lt_succ_iff_lt_or_eq.1 hi).elim (fun h => hI i y h hy) (fun e => by subst e; rw [hz] at hy; cases hy; exact hc16)⟩, by omega⟩ (q_a .nil) (.to rfl) .nil (.to rfl)
  ·
   refine W.exit (N.then_exit (N.then_exit (N.block_eq (N.next ?_))))
   refine W.keep .nil (.of [0, 1] rfl) (q_sr (q_an ?_))
   refine W.ret ?_
   exact q_r [1] (.cons (.tmp rfl) .nil) rfl rfl rfl ⟨⟨_, rfl, ⟨fun h => absurd h (by omega), fun h => by obtain ⟨i, hi⟩ := List.getElem?_of_mem h; exact absurd rfl (hI i a (by have := (List.getElem?_eq_some_iff.1 hi).1; omega) hi)⟩⟩, rfl⟩
set_option maxRecDepth 100000 in
set_option maxHeartbeats 400000 in
theorem containsT_ct (l : List Ky) (H1 : PH) (p : Option Addr) (c : Nat) (hl : Sl H1 p c 1 (tz l)) (a : Ky) : Ct Tryz.prog 121 [.slice p l.length c, .string a] [H1] (fun v Hs => v = .bool (pB (a ∈ l)) ∧ Hs = [H1]) := by
  refine Ct.body Tryz.func121 rfl Tryz.ntmps121 rfl ?_
  intro E F
  refine q_sr (q_an ?_)
  refine q_sr (q_q q_mv (q_q q_mv ?_))
  refine q_e (q_c ent164 [1] [1] (indexT_ct l _ _ _ hl a)) ?_
  rintro _ _ ⟨_, ⟨⟨r, rfl, hr⟩, rfl⟩, rfl⟩
  refine q_q (q_b BinV.geq) (q_an ?_)
  refine q_k [4] [0, 1] ?_
  refine W.ret ?_
  exact q_r [1] (.cons (.tmp rfl) .nil) rfl rfl rfl ⟨by show Value.bool _ = _; congr 1; rw [Bool.eq_iff_iff, decide_eq_true_eq, pB_iff]; exact hr, rfl⟩
set_option maxRecDepth 100000 in
set_option maxHeartbeats 400000 in
theorem rhas_ct (l : List Ky) (H1 : PH) (p : Option Addr) (c n : Nat) (hn : n = l.length) (hl : Sl H1 p c 1 (tz l)) (a : Ky) : Ct Tryz.prog 88 [.slice p n c, .string a] [H1] (fun v Hs => v = .bool (pB (a ∈ l)) ∧ Hs = [H1]) := by
  refine Ct.body Tryz.func88 rfl Tryz.ntmps88 rfl ?_
  intro E F
  subst hn
  have hmx := hl.len_le
  simp only [tz_len, maxLen] at hmx
  refine q_sr (q_an ?_)
  refine W.seq (q_sr (q_an ?_))
  refine W.block ?_
  refine W.loopK (ι := Nat) (fun j => (j ≤ l.length ∧ ∀ (i : Nat) z, i < j → l[i]? = some z → z ≠ a)) (fun j => [(5, .int .i64 (j : Nat))]) (fun j => []) (fun j => l.length - j) (.of [0, 1] rfl) (.of [0, 1] rfl) 0 ?_ ?_ ?_ ?_
  · exact ⟨Nat.zero_le _, fun _ _ h => absurd h (Nat.not_lt_zero _)⟩
  · exact (q_a .nil)
  · exact .nil
  rintro j ⟨hj, hI⟩
  refine q_k [5, 0, 1] [0, 1] ?_
  refine W.seq (q_sr (q_q q_mv (q_q q_mv (q_q (q_n u22) (q_q (q_b BinV.lss) (q_nn ?_))))))
  first | refine W.condD rfl (fun hc9 => ?_) (fun hc9 => ?_) | (refine W.cond rfl (fun hc9 => ?_) (fun hc9 => ?_) <;> try simp only [Bool.or_eq_true, Bool.and_eq_true, Bool.not_eq_true', Bool.not_eq_false', decide_eq_true_eq, Bool.or_eq_false_iff, Bool.and_eq_false_iff, decide_eq_false_iff_not, beq_iff_eq, beq_eq_false_iff_ne, ne_eq, Decidable.not_not] at hc9)
  ·
   obtain ⟨z, hz, hlz⟩ := tz_at (show j < l.length by omega)
   refine W.skip (N.next (q_k [0, 1, 5] [0, 1] ?_))
   refine W.seq (W.block (q_sr (q_q q_mv (q_q q_mv ?_))))
   refine q_q (q_ix u22 sz9) ?_
   refine q_q (by first | exact (q_r1 1 u9) | exact (q_rF 1 0 u9)) ?_
   refine q_q q_mv (q_q (q_b BinV.eqlS) (q_nn (q_k [0, 1, 5, 17] [0, 1] ?_)))
   first | refine W.condD rfl (fun hc17 => ?_) (fun hc17 => ?_) | (refine W.cond rfl (fun hc17 => ?_) (fun hc17 => ?_) <;> try simp only [Bool.or_eq_true, Bool.and_eq_true, Bool.not_eq_true', Bool.not_eq_false', decide_eq_true_eq, Bool.or_eq_false_iff, Bool.and_eq_false_iff, decide_eq_false_iff_not, beq_iff_eq, beq_eq_false_iff_ne, ne_eq, Decidable.not_not] at hc17)
   ·
    refine q_sr (q_an ?_)
    refine q_k [4] [0, 1] ?_
    refine W.ret (N.block_ret (N.then_ret (N.then_ret (N.block_ret (N.then_ret ?_)))))
    exact q_r [1] (.cons (.tmp rfl) .nil) rfl rfl rfl ⟨by show Value.bool _ = _; congr 1; rw [eq_comm, pB_iff, ← hc17]; exact List.mem_of_getElem? hz, rfl⟩
   ·
    refine W.skip (N.block_normal (N.next (W.region (q_q q_mv ?_))))
    refine q_q q_ad (q_q q_as (RL.nil ?_))
    exact N.famK (j + 1) ⟨⟨by omega, fun i y hi hy => (Nat.lt_succ_iff_lt_or_eq.1 hi).elim (fun h => hI i y h hy) (fun e => by subst e; rw [hz] at hy; cases hy; exact hc17)⟩, by omega⟩ (q_a .nil) (.to rfl) .nil (.to rfl)
  ·
   refine W.exit (N.then_exit (N.then_exit (N.block_eq (N.next ?_))))
   refine W.keep .nil (.of [0, 1] rfl) (q_sr (q_an ?_))
   refine W.ret ?_
   exact q_r [1] (.cons (.tmp rfl) .nil) rfl rfl rfl ⟨by show Value.bool _ = _; congr 1; rw [eq_comm]; apply pB_not; intro h; obtain ⟨i, hi⟩ := List.getElem?_of_mem h; exact hI i a (by have := (List.getElem?_eq_some_iff.1 hi).1; omega) hi rfl, rfl⟩
set_option maxRecDepth 100000 in
set_option maxHeartbeats 400000 in
theorem equalI_ct (l k : List Int) (H1 : PH) (p q : Option Addr) (c d : Nat) (hl : Sl H1 p c 1 (iz l)) (hk : Sl H1 q d 1 (iz k)) : Ct Tryz.prog 181 [.slice p l.length c, .slice q k.length d] [H1] (fun v Hs => v = .bool (decide (l = k)) ∧ Hs = [H1]) := by
  refine Ct.body Tryz.func181 rfl Tryz.ntmps181 rfl ?_
  intro E F
  have hmxl := hl.len_le
  simp only [iz_len, maxLen] at hmxl
  have hmxk := hk.len_le
  simp only [iz_len, maxLen] at hmxk
  refine q_sr (q_an ?_)
  refine W.seq (q_sr (q_q q_mv (q_q (q_n u55) (q_q q_mv (q_q (q_n u55) (q_q (q_b BinV.neq) (q_nn (q_k [0, 1, 10] [0, 1] ?_))))))))
  first | refine W.condD rfl (fun hc10 => ?_) (fun hc10 => ?_) | (refine W.cond rfl (fun hc10 => ?_) (fun hc10 => ?_) <;> try simp only [Bool.or_eq_true, Bool.and_eq_true, Bool.not_eq_true', Bool.not_eq_false', decide_eq_true_eq, Bool.or_eq_false_iff, Bool.and_eq_false_iff, decide_eq_false_iff_not, beq_iff_eq, beq_eq_false_iff_ne, ne_eq, Decidable.not_not] at hc10)
  ·
   refine q_sr (q_an ?_)
   refine W.ret (N.then_ret ?_)
   exact q_r [1] (.cons (.tmp rfl) .nil) rfl rfl rfl ⟨by show Value.bool _ = _; congr 1; rw [eq_comm, decide_eq_false_iff_not]; intro e; subst e; omega, rfl⟩
  ·
   refine W.skip (N.next (W.seq (q_sr (q_q q_mv (q_q (q_n u55) (q_q q_mv (q_nn (W.block ?_))))))))
   refine W.loopK (ι := Nat) (fun j => (j ≤ l.length ∧ ∀ (i : Nat), i < j → l[i]? = k[i]?)) (fun j => [(13, .int .i64 (j : Nat))]) (fun j => []) (fun j => l.length - j) (.of [0, 1, 12] rfl) (.of [0, 1] rfl) 0 ?_ ?_ ?_ ?_
   · exact ⟨Nat.zero_le _, fun _ h => absurd h (Nat.not_lt_zero _)⟩
   · exact (q_a .nil)
   · exact .nil
   rintro j ⟨hj, hI⟩
   refine q_k [13, 0, 1, 12] [0, 1] ?_
   refine q_sr (q_q (q_b BinV.lss) (q_nn (W.seq ?_)))
   first | refine W.condD rfl (fun hc14 => ?_) (fun hc14 => ?_) | (refine W.cond rfl (fun hc14 => ?_) (fun hc14 => ?_) <;> try simp only [Bool.or_eq_true, Bool.and_eq_true, Bool.not_eq_true', Bool.not_eq_false', decide_eq_true_eq, Bool.or_eq_false_iff, Bool.and_eq_false_iff, decide_eq_false_iff_not, beq_iff_eq, beq_eq_false_iff_ne, ne_eq, Decidable.not_not] at hc14)
   ·
    obtain ⟨z, hz, hlz⟩ := iz_at (show j < l.length by omega)
    obtain ⟨y, hy, hly⟩ := iz_at (show j < k.length by omega)
    refine W.skip (N.next (W.seq (W.block (q_sr (q_q q_mv (q_an ?_))))))
    refine W.seq ?_
    refine W.draw (.q 0 (.q 1 (.q 2 (.q 3 (.q 4 (.q 5 (.q 6 (.q 7 (.q 8 .done))))))))) (.of [0, 1] rfl) mix (by kernel_rfl) (by kernel_rfl) (q_d rfl q_mv (q_d rfl q_mv ?_))
    refine q_d rfl (q_ix u55 sz3) ?_
    refine q_d rfl (by first | exact (q_r1 1 u3) | exact (q_rF 1 0 u3)) ?_
    refine q_d rfl q_mv (q_d rfl q_mv ?_)
    refine q_d rfl (q_ix u55 sz3) ?_
    refine q_d rfl (by first | exact (q_r1 1 u3) | exact (q_rF 1 0 u3)) ?_
    refine q_d rfl (q_b BinV.neq) (DL.done (N.next (q_k [0, 1, 12, 13, 24] [0, 1] ?_)))
    first | refine W.condD rfl (fun hc24 => ?_) (fun hc24 => ?_) | (refine W.cond rfl (fun hc24 => ?_) (fun hc24 => ?_) <;> try simp only [Bool.or_eq_true, Bool.and_eq_true, Bool.not_eq_true', Bool.not_eq_false', decide_eq_true_eq, Bool.or_eq_false_iff, Bool.and_eq_false_iff, decide_eq_false_iff_not, beq_iff_eq, beq_eq_false_iff_ne, ne_eq, Decidable.not_not] at hc24)
    ·
     refine q_sr (q_an ?_)
     refine q_k [4] [0, 1] ?_
     refine W.ret (N.block_ret (N.then_ret (N.then_ret (N.block_ret (N.then_ret ?_)))))
     exact q_r [1] (.cons (.tmp rfl) .nil) rfl rfl rfl ⟨by show Value.bool _ = _; congr 1; rw [eq_comm, decide_eq_false_iff_not]; intro e; subst e; rw [hz] at hy; cases hy; omega, rfl⟩
    ·
     refine W.skip (N.block_normal (N.next (W.region ?_)))
     refine q_q q_ad (q_q q_mv (RL.nil ?_))
     exact N.famK (j + 1) ⟨⟨by omega, fun i hi => (Nat.lt_succ_iff_lt_or_eq.1 hi).elim (fun h => hI i h) (fun e => by subst e; rw [hz, hy]; congr 1; omega)⟩, by omega⟩ (q_a .nil) (.to rfl) .nil (.to rfl)
   ·
    refine W.exit (N.then_exit (N.then_exit (N.block_eq (N.next ?_))))
    refine W.keep .nil (.of [0, 1] rfl) (q_sr (q_an ?_))
    refine W.ret ?_
    exact q_r [1] (.cons (.tmp rfl) .nil) rfl rfl rfl ⟨by show Value.bool _ = _; congr 1; rw [eq_comm, decide_eq_true_eq]; apply List.ext_getElem?; intro i; by_cases h : i < l.length; exact hI i (by omega); rw [List.getElem?_eq_none (by omega), List.getElem?_eq_none (by omega)], rfl⟩
end Go.Proofs.YtboapdcmaeojgaaGreatDoor
namespace Go.Proofs.YtboapdcmaeojgaaGreatDoor
open SL Cat
set_option linter.unusedVariables false
set_option linter.unusedSimpArgs false
theorem sz64 : sz Tryz.prog 64 7 := (by kernel_rfl : (Tryz.prog.info? 64).map (·.size) = some 7)
theorem ent123 : Ent Tryz.prog 123 := ⟨_, _, Tryz.func123, by kernel_rfl, rfl⟩
theorem sz97 : sz Tryz.prog 97 7 := (by kernel_rfl : (Tryz.prog.info? 97).map (·.size) = some 7)
theorem ent128 : Ent Tryz.prog 128 := ⟨_, _, Tryz.func128, by kernel_rfl, rfl⟩
theorem ent67 : Ent Tryz.prog 67 := ⟨_, _, Tryz.func67, by kernel_rfl, rfl⟩
theorem zc3 : zc Tryz.prog 3 [.int .i64 0] := (by kernel_rfl : ((Tryz.prog.info? 3).bind (·.zero)).map (fun v => v.cells.toList) = some [.int .i64 0])
theorem fo64_2 : fieldOff Tryz.prog 64 2 = some 2 := by kernel_rfl
theorem ent35 : Ent Tryz.prog 35 := ⟨_, _, Tryz.func35, by kernel_rfl, rfl⟩
theorem fo64_6 : fieldOff Tryz.prog 64 6 = some 6 := by kernel_rfl
theorem ent124 : Ent Tryz.prog 124 := ⟨_, _, Tryz.func124, by kernel_rfl, rfl⟩
theorem ent125 : Ent Tryz.prog 125 := ⟨_, _, Tryz.func125, by kernel_rfl, rfl⟩
theorem ent126 : Ent Tryz.prog 126 := ⟨_, _, Tryz.func126, by kernel_rfl, rfl⟩
theorem fo64_1 : fieldOff Tryz.prog 64 1 = some 1 := by kernel_rfl
theorem zv32 : zv Tryz.prog 32 (.nilFunc) := (by kernel_rfl : (Tryz.prog.info? 32).bind (·.zero) = some (.nilFunc))
theorem sz29 : sz Tryz.prog 29 11 := (by kernel_rfl : (Tryz.prog.info? 29).map (·.size) = some 11)
theorem ent127 : Ent Tryz.prog 127 := ⟨_, _, Tryz.func127, by kernel_rfl, rfl⟩
theorem fo64_3 : fieldOff Tryz.prog 64 3 = some 3 := by kernel_rfl
theorem fo64_4 : fieldOff Tryz.prog 64 4 = some 4 := by kernel_rfl
theorem fo64_5 : fieldOff Tryz.prog 64 5 = some 5 := by kernel_rfl
abbrev u26 := @Tryz.underlying26
abbrev u64 := @Tryz.underlying64
abbrev u27 := @Tryz.underlying27
abbrev u97 := @Tryz.underlying97
abbrev u172 := @Tryz.underlying172
abbrev u32 := @Tryz.underlying32
abbrev u29 := @Tryz.underlying29
set_option maxRecDepth 100000 in
set_option maxHeartbeats 400000 in
theorem ifIt_ct (l : List It) (H1 : PH) (p : Option Addr) (c n : Nat) (hn : n = l.length) (hS : Sl H1 p c 7 (l.map It.c)) (f : Nat) (cap : List Value) (G1 : PH) (q : It → Bool) (hent : Ent Tryz.prog f) (hf : ∀ x ∈ l, Ct Tryz.prog f (.agg x.c.toArray :: cap) [H1, G1] (fun v Hs => v = .bool (q x) ∧ Hs = [H1, G1])) : Ct Tryz.prog 123 [.slice p n c, .func (.func f) [].toArray cap.toArray] [H1, G1] (fun v Hs => (∃ r : Int, v = .int .i64 r ∧ decide (0 ≤ r) = l.any q) ∧ Hs = [H1, G1]) := by
  refine Ct.body Tryz.func123 rfl Tryz.ntmps123 rfl ?_
  intro E F
  subst hn
  have hmx := hS.len_le
  simp only [List.length_map, maxLen] at hmx
  refine q_sr (q_an ?_)
  refine W.seq (q_sr (q_q q_mv (q_q (q_n u26) (q_q q_mv (q_nn (W.block ?_))))))
  refine W.loopK (ι := Nat) (fun j => (j ≤ l.length ∧ ∀ (i : Nat) x, i < j → l[i]? = some x → q x = false)) (fun j => [(8, .int .i64 (j : Nat))]) (fun j => []) (fun j => l.length - j) (.of [0, 1, 7] rfl) (.of [0, 1, 2] rfl) 0 ?_ ?_ ?_ ?_
  · exact ⟨Nat.zero_le _, fun _ _ h => absurd h (Nat.not_lt_zero _)⟩
  · exact (q_a .nil)
  · exact .nil
  rintro j ⟨hj, hI⟩
  refine q_k [8, 0, 1, 7] [0, 1, 2] ?_
  refine q_sr (q_q (q_b BinV.lss) (q_nn (W.seq ?_)))
  first | refine W.condD rfl (fun hc9 => ?_) (fun hc9 => ?_) | (refine W.cond rfl (fun hc9 => ?_) (fun hc9 => ?_) <;> try simp only [Bool.or_eq_true, Bool.and_eq_true, Bool.not_eq_true', Bool.not_eq_false', decide_eq_true_eq, Bool.or_eq_false_iff, Bool.and_eq_false_iff, decide_eq_false_iff_not, beq_iff_eq, beq_eq_false_iff_ne, ne_eq, Decidable.not_not] at hc9)
  ·
   obtain ⟨x, hx⟩ : ∃ x, l[j]? = some x := ⟨_, List.getElem?_eq_getElem (show j < l.length by first | omega | (simp only [List.length_map] at *; omega))⟩
   have hlx : (l.map It.c)[j]? = some x.c := by simp [hx]
   refine W.skip (N.next (W.seq (W.block (q_sr (q_q q_mv (q_an ?_))))))
   refine q_sr (q_q q_mv (q_q q_mv (q_q q_mv ?_)))
   refine q_q (q_ix u26 sz64) ?_
   refine q_q (by first | exact q_rA 1 u64 sz64 | exact q_rA 2 u64 sz64) ?_
   refine q_e (Eff.callV hent [1, 2] [1, 2] rfl (.cons rfl .nil) (hf x (List.mem_of_getElem? hx)) rfl rfl rfl rfl (by rintro _ _ ⟨_, rfl⟩; rfl)) ?_
   rintro _ _ ⟨_, ⟨rfl, rfl⟩, rfl⟩
   refine q_nn (q_k [0, 1, 5, 7, 8, 16] [0, 1, 2] ?_)
   refine W.cond rfl (fun hc16 => ?_) (fun hc16 => ?_)
   ·
    refine q_sr (q_q q_mv (q_an ?_))
    refine q_k [4] [0, 1, 2] ?_
    refine W.ret (N.block_ret (N.then_ret (N.then_ret (N.block_ret (N.then_ret ?_)))))
    exact q_r [1, 2] (.cons (.tmp rfl) .nil) rfl rfl rfl ⟨⟨_, rfl, by rw [decide_eq_true (by omega), eq_comm, List.any_eq_true]; exact ⟨x, List.mem_of_getElem? hx, hc16⟩⟩, rfl⟩
   ·
    refine W.skip (N.block_normal (N.next (W.region ?_)))
    refine q_q q_ad (q_q q_mv (RL.nil ?_))
    exact N.famK (j + 1) ⟨⟨by omega, fun i y hi hy => (Nat.lt_succ_iff_lt_or_eq.1 hi).elim (fun h => hI i y h hy) (fun e => by subst e; rw [hx] at hy; cases hy; simpa using hc16)⟩, by omega⟩ (q_a .nil) (.to rfl) .nil (.to rfl)
  ·
   refine W.exit (N.then_exit (N.then_exit (N.block_eq (N.next ?_))))
   refine W.keep .nil (.of [0, 1, 2] rfl) (q_sr (q_an ?_))
   refine W.ret ?_
   exact q_r [1, 2] (.cons (.tmp rfl) .nil) rfl rfl rfl ⟨⟨_, rfl, by rw [decide_eq_false (by omega), eq_comm, List.any_eq_false]; intro x hx; obtain ⟨i, hi⟩ := List.getElem?_of_mem hx; rw [hI i x (by have := (List.getElem?_eq_some_iff.1 hi).1; omega) hi]; decide⟩, rfl⟩
set_option maxRecDepth 100000 in
set_option maxHeartbeats 400000 in
theorem cfIt_ct (l : List It) (H1 : PH) (p : Option Addr) (c n : Nat) (hn : n = l.length) (hS : Sl H1 p c 7 (l.map It.c)) (f : Nat) (cap : List Value) (G1 : PH) (q : It → Bool) (hent : Ent Tryz.prog f) (hf : ∀ x ∈ l, Ct Tryz.prog f (.agg x.c.toArray :: cap) [H1, G1] (fun v Hs => v = .bool (q x) ∧ Hs = [H1, G1])) : Ct Tryz.prog 70 [.slice p n c, .func (.func f) [].toArray cap.toArray] [H1, G1] (fun v Hs => v = .bool (l.any q) ∧ Hs = [H1, G1]) := by
  refine Ct.body Tryz.func70 rfl Tryz.ntmps70 rfl ?_
  intro E F
  refine q_sr (q_an ?_)
  refine q_sr (q_q q_mv (q_q q_mv ?_))
  refine q_e (q_c ent123 [1, 2] [1, 2] (ifIt_ct l H1 p c n hn hS f cap G1 q hent hf)) ?_
  rintro _ _ ⟨_, ⟨⟨r, rfl, hr⟩, rfl⟩, rfl⟩
  refine q_q (q_b BinV.geq) (q_an ?_)
  refine q_k [4] [0, 1, 2] ?_
  refine W.ret ?_
  exact q_r [1, 2] (.cons (.tmp rfl) .nil) rfl rfl rfl ⟨by show Value.bool _ = _; congr 1, rfl⟩
set_option maxRecDepth 100000 in
set_option maxHeartbeats 400000 in
theorem ifRl_ct (l : List Rl) (H1 : PH) (p : Option Addr) (c n : Nat) (hn : n = l.length) (hS : Sl H1 p c 7 (l.map Rl.c)) (f : Nat) (cap : List Value) (G1 : PH) (q : Rl → Bool) (hent : Ent Tryz.prog f) (hf : ∀ x ∈ l, Ct Tryz.prog f (.agg x.c.toArray :: cap) [H1, G1] (fun v Hs => v = .bool (q x) ∧ Hs = [H1, G1])) : Ct Tryz.prog 128 [.slice p n c, .func (.func f) [].toArray cap.toArray] [H1, G1] (fun v Hs => (∃ r : Int, v = .int .i64 r ∧ decide (0 ≤ r) = l.any q) ∧ Hs = [H1, G1]) := by
  refine Ct.body Tryz.func128 rfl Tryz.ntmps128 rfl ?_
  intro E F
  subst hn
  have hmx := hS.len_le
  simp only [List.length_map, maxLen] at hmx
  refine q_sr (q_an ?_)
  refine W.seq (q_sr (q_q q_mv (q_q (q_n u27) (q_q q_mv (q_nn (W.block ?_))))))
  refine W.loopK (ι := Nat) (fun j => (j ≤ l.length ∧ ∀ (i : Nat) x, i < j → l[i]? = some x → q x = false)) (fun j => [(8, .int .i64 (j : Nat))]) (fun j => []) (fun j => l.length - j) (.of [0, 1, 7] rfl) (.of [0, 1, 2] rfl) 0 ?_ ?_ ?_ ?_
  · exact ⟨Nat.zero_le _, fun _ _ h => absurd h (Nat.not_lt_zero _)⟩
  · exact (q_a .nil)
  · exact .nil
  rintro j ⟨hj, hI⟩
  refine q_k [8, 0, 1, 7] [0, 1, 2] ?_
  refine q_sr (q_q (q_b BinV.lss) (q_nn (W.seq ?_)))
  first | refine W.condD rfl (fun hc9 => ?_) (fun hc9 => ?_) | (refine W.cond rfl (fun hc9 => ?_) (fun hc9 => ?_) <;> try simp only [Bool.or_eq_true, Bool.and_eq_true, Bool.not_eq_true', Bool.not_eq_false', decide_eq_true_eq, Bool.or_eq_false_iff, Bool.and_eq_false_iff, decide_eq_false_iff_not, beq_iff_eq, beq_eq_false_iff_ne, ne_eq, Decidable.not_not] at hc9)
  ·
   obtain ⟨x, hx⟩ : ∃ x, l[j]? = some x := ⟨_, List.getElem?_eq_getElem (show j < l.length by first | omega | (simp only [List.length_map] at *; omega))⟩
   have hlx : (l.map Rl.c)[j]? = some x.c := by simp [hx]
   refine W.skip (N.next (W.seq (W.block (q_sr (q_q q_mv (q_an ?_))))))
   refine q_sr (q_q q_mv (q_q q_mv (q_q q_mv ?_)))
   refine q_q (q_ix u27 sz97) ?_
   refine q_q (by first | exact q_rA 1 u97 sz97 | exact q_rA 2 u97 sz97) ?_
   refine q_e (Eff.callV hent [1, 2] [1, 2] rfl (.cons rfl .nil) (hf x (List.mem_of_getElem? hx)) rfl rfl rfl rfl (by rintro _ _ ⟨_, rfl⟩; rfl)) ?_
   rintro _ _ ⟨_, ⟨rfl, rfl⟩, rfl⟩
   refine q_nn (q_k [0, 1, 5, 7, 8, 16] [0, 1, 2] ?_)
   refine W.cond rfl (fun hc16 => ?_) (fun hc16 => ?_)
   ·
    refine q_sr (q_q q_mv (q_an ?_))
    refine q_k [4] [0, 1, 2] ?_
    refine W.ret (N.block_ret (N.then_ret (N.then_ret (N.block_ret (N.then_ret ?_)))))
    exact q_r [1, 2] (.cons (.tmp rfl) .nil) rfl rfl rfl ⟨⟨_, rfl, by rw [decide_eq_true (by omega), eq_comm, List.any_eq_true]; exact ⟨x, List.mem_of_getElem? hx, hc16⟩⟩, rfl⟩
   ·
    refine W.skip (N.block_normal (N.next (W.region ?_)))
    refine q_q q_ad (q_q q_mv (RL.nil ?_))
    exact N.famK (j + 1) ⟨⟨by omega, fun i y hi hy => (Nat.lt_succ_iff_lt_or_eq.1 hi).elim (fun h => hI i y h hy) (fun e => by subst e; rw [hx] at hy; cases hy; simpa using hc16)⟩, by omega⟩ (q_a .nil) (.to rfl) .nil (.to rfl)
  ·
   refine W.exit (N.then_exit (N.then_exit (N.block_eq (N.next ?_))))
   refine W.keep .nil (.of [0, 1, 2] rfl) (q_sr (q_an ?_))
   refine W.ret ?_
   exact q_r [1, 2] (.cons (.tmp rfl) .nil) rfl rfl rfl ⟨⟨_, rfl, by rw [decide_eq_false (by omega), eq_comm, List.any_eq_false]; intro x hx; obtain ⟨i, hi⟩ := List.getElem?_of_mem hx; rw [hI i x (by have := (List.getElem?_eq_some_iff.1 hi).1; omega) hi]; decide⟩, rfl⟩
set_option maxRecDepth 100000 in
set_option maxHeartbeats 400000 in
theorem cfRl_ct (l : List Rl) (H1 : PH) (p : Option Addr) (c n : Nat) (hn : n = l.length) (hS : Sl H1 p c 7 (l.map Rl.c)) (f : Nat) (cap : List Value) (G1 : PH) (q : Rl → Bool) (hent : Ent Tryz.prog f) (hf : ∀ x ∈ l, Ct Tryz.prog f (.agg x.c.toArray :: cap) [H1, G1] (fun v Hs => v = .bool (q x) ∧ Hs = [H1, G1])) : Ct Tryz.prog 73 [.slice p n c, .func (.func f) [].toArray cap.toArray] [H1, G1] (fun v Hs => v = .bool (l.any q) ∧ Hs = [H1, G1]) := by
  refine Ct.body Tryz.func73 rfl Tryz.ntmps73 rfl ?_
  intro E F
  refine q_sr (q_an ?_)
  refine q_sr (q_q q_mv (q_q q_mv ?_))
  refine q_e (q_c ent128 [1, 2] [1, 2] (ifRl_ct l H1 p c n hn hS f cap G1 q hent hf)) ?_
  rintro _ _ ⟨_, ⟨⟨r, rfl, hr⟩, rfl⟩, rfl⟩
  refine q_q (q_b BinV.geq) (q_an ?_)
  refine q_k [4] [0, 1, 2] ?_
  refine W.ret ?_
  exact q_r [1, 2] (.cons (.tmp rfl) .nil) rfl rfl rfl ⟨by show Value.bool _ = _; congr 1, rfl⟩
set_option maxRecDepth 100000 in
set_option maxHeartbeats 800000 in
theorem machines_ct (m : Md) (H1 : PH) (hM : m.In H1) (l : List Int) (p : Option Addr) (c : Nat) (hl : Sl H1 p c 1 (iz l)) : Ct Tryz.prog 127 [.agg [.slice m.psi m.si.length m.csi, .slice m.pfe m.fe.length m.cfe, .slice m.prk m.rk.length m.crk, .slice m.pmc m.mc.length m.cmc, .slice m.pln m.ln.length m.cln, .slice m.pis m.is.length m.cis, .int .i64 m.da, .int .i64 m.sl, .int .i64 m.re, .int .i64 m.fa, .slice m.prl m.rl.length m.crl].toArray, .slice p l.length c] [H1] (fun v Hs => v = .bool (pB (MsV m.mc.length l)) ∧ Hs = [H1]) := by
  refine Ct.body Tryz.func127 rfl Tryz.ntmps127 rfl ?_
  intro E F
  have hmxl := hl.len_le
  simp only [iz_len, maxLen] at hmxl
  refine q_sr ?_
  refine q_bx 102 fun b2 => ?_
  refine q_an ?_
  refine W.seq (q_sr (q_q q_mv (q_q (q_n u55) (q_q q_mv (q_nn (W.block ?_))))))
  refine W.loopK (ι := Nat) (fun j => (j ≤ l.length ∧ MsUp m.mc.length l j)) (fun j => [(9, .int .i64 (j : Nat))]) (fun j => []) (fun j => l.length - j) (.of [1, 2, 7, 8] rfl) (.of [0, 1, 102] rfl) 0 ?_ ?_ ?_ ?_
  · exact ⟨Nat.zero_le _, fun _ _ h => absurd h (Nat.not_lt_zero _)⟩
  · exact (q_a .nil)
  · exact .nil
  rintro j ⟨hj, hI⟩
  refine q_k [9, 1, 2, 7, 8] [0, 1, 102] ?_
  refine q_sr (q_q (q_b BinV.lss) (q_nn (W.seq ?_)))
  first | refine W.condD rfl (fun hc10 => ?_) (fun hc10 => ?_) | (refine W.cond rfl (fun hc10 => ?_) (fun hc10 => ?_) <;> try simp only [Bool.or_eq_true, Bool.and_eq_true, Bool.not_eq_true', Bool.not_eq_false', decide_eq_true_eq, Bool.or_eq_false_iff, Bool.and_eq_false_iff, decide_eq_false_iff_not, beq_iff_eq, beq_eq_false_iff_ne, ne_eq, Decidable.not_not] at hc10)
  ·
   obtain ⟨z, hz, hlz⟩ := iz_at (show j < l.length by omega)
   obtain ⟨y, hy⟩ : ∃ y, l[((j : Int) - 1).toNat]? = some y := ⟨_, List.getElem?_eq_getElem (by omega)⟩
   have hly : (iz l)[((j : Int) - 1).toNat]? = some [.int .i64 y] := iz_get hy
   have hyy : 0 < j → l[j - 1]? = some y := fun h => by rw [← hy]; congr 1; omega
   refine W.skip (N.next (W.seq (W.block (q_sr (q_q q_mv ?_)))))
   refine q_q (q_ix u55 sz3) ?_
   refine q_q (by first | exact (by first | exact q_r1 1 u3 | exact q_r1 102 u3) | exact (by first | exact q_rF 1 0 u3 | exact q_rF 102 0 u3)) ?_
   refine q_q q_as (q_an ?_)
   refine q_k [1, 2, 5, 6, 7, 8, 9] [0, 1, 102] ?_
   refine q_sr (q_q q_mv (q_q (q_fa fo29_3) (q_q (q_l 102 u24) (q_q (q_n u24) ?_))))
   refine q_e (q_c ent67 [] [] (within_ct z 1 m.mc.length)) ?_
   rintro _ _ ⟨_, ⟨rfl, rfl⟩, rfl⟩
   refine q_q Yld.nt (q_q q_mv ?_)
   refine' q_or 20 32 12 [1, 2, 5, 6, 7, 8, 9, 14, 15, 16, 17, 18, 19] [0, 1, 102] ?_ ?_ ?_
   rotate_left 1
   ·
    intro hg20
    refine q_g q_mv (q_g (q_b BinV.gtr) (q_g q_mv ?_))
    refine' q_and 23 31 8 [1, 2, 5, 6, 7, 8, 9, 14, 15, 16, 17, 18, 19, 20, 21, 22] [0, 1, 102] ?_ ?_ ?_
    rotate_left 1
    ·
     intro hg23
     have hg23 := of_decide_eq_true hg23
     refine q_g q_mv (q_g q_mv ?_)
     refine q_g q_sb ?_
     refine q_g (q_ix u55 sz3) ?_
     refine q_g (by first | exact (by first | exact q_r1 1 u3 | exact q_r1 102 u3) | exact (by first | exact q_rF 1 0 u3 | exact q_rF 102 0 u3)) ?_
     refine q_g q_mv (q_g (q_b BinV.geq) (q_g Yld.pk ?_))
     exact q_m
    ·
     intro hg23
     repeat refine q_gs ?_
     refine q_g Yld.pk ?_
     exact q_m
    refine q_q Yld.pk ?_
    exact q_m
   ·
    intro hg20
    repeat refine q_gs ?_
    refine RL.gskipU rfl rfl rfl ?_
    refine RL.gskipU rfl rfl rfl ?_
    refine RL.gskipU rfl rfl rfl ?_
    refine RL.gskipU rfl rfl rfl ?_
    refine RL.gskipU rfl rfl rfl ?_
    refine RL.gskipU rfl rfl rfl ?_
    refine RL.gskipU rfl rfl rfl (q_gs (q_q Yld.pk ?_))
    exact q_m
   refine q_nn (q_k [1, 2, 7, 8, 9, 32] [0, 1, 102] ?_)
   refine W.cond rfl (fun hc32 => ?_) (fun hc32 => ?_)
   ·
    have hnv : ¬ MsV m.mc.length l := fun h => by
      obtain ⟨h1, h2⟩ := h.2 j z (by omega) hz
      simp only [Bool.or_eq_true, Bool.and_eq_true, decide_eq_true_eq] at hc32
      rcases hc32 with h3 | ⟨h3, h4⟩
      · exact h3 h1
      · have := h2 (by omega) y (hyy (by omega)); omega
    refine q_sr (q_an ?_)
    refine q_k [4] [0, 1, 102] ?_
    refine W.ret (N.block_ret (N.then_ret (N.then_ret (N.block_ret (N.then_ret ?_)))))
    exact q_r [1] (.cons (.tmp rfl) .nil) rfl rfl rfl ⟨by rw [pB_not hnv]; rfl, rfl⟩
   ·
    simp only [Bool.or_eq_false_iff, Bool.and_eq_false_iff, decide_eq_false_iff_not, Classical.not_not] at hc32
    have hst : MsUp m.mc.length l (j + 1) := hI.step hz hc32.1 fun h0 w hw => by
      rw [hyy h0] at hw; cases hw
      have := hc32.2; omega
    refine W.skip (N.block_normal (N.next (W.region ?_)))
    refine q_q q_ad (q_q q_mv (RL.nil ?_))
    exact N.famK (j + 1) ⟨⟨by omega, hst⟩, by omega⟩ (q_a .nil) (.to rfl) .nil (.to rfl)
  ·
   refine W.exit (N.then_exit (N.then_exit (N.block_eq (N.next (q_k [1] [0, 1, 102] ?_)))))
   refine q_sr (q_q q_mv (q_q (q_n u55) (q_q (q_b BinV.gtr) (q_an ?_))))
   refine q_k [4] [0, 1, 102] ?_
   refine W.ret ?_
   exact q_r [1] (.cons (.tmp rfl) .nil) rfl rfl rfl ⟨by show Value.bool _ = Value.bool _; congr 1; rw [Bool.eq_iff_iff]; rw [pB_iff, decide_eq_true_eq]; exact ⟨fun h => ⟨by omega, by rw [← show j = l.length by omega]; exact hI⟩, fun h => by have := h.1; omega⟩, rfl⟩
set_option maxRecDepth 100000 in
set_option maxHeartbeats 400000 in
theorem itC1_ct (b : Nat) (x : It) : Ct Tryz.prog 124 [.pointer (some ⟨b, 0, none⟩)] [single b (.cells [.string x.nm, .int .i64 x.kd, .int .i64 x.cnt, .int .i64 x.ld, .int .i64 x.sz, .int .i64 x.sh, .slice x.po x.on.length x.co].toArray 64 (0, 0))] (fun v Hs => v = .bool (decide (x.cnt ∈ [(1 : Int), 3, 5]) && decide (x.cnt = x.on.length)) ∧ Hs = [single b (.cells [.string x.nm, .int .i64 x.kd, .int .i64 x.cnt, .int .i64 x.ld, .int .i64 x.sz, .int .i64 x.sh, .slice x.po x.on.length x.co].toArray 64 (0, 0))]) := by
  refine Ct.body Tryz.func124 rfl Tryz.ntmps124 rfl ?_
  intro E F
  refine q_sr (q_an ?_)
  refine q_sr ?_
  refine q_e (Eff.buildSlice 102 u55 sz3 zc3 rfl rfl (.cons rfl rfl (.cons rfl rfl (.cons rfl rfl .nil))) rfl) ?_
  rintro _ _ ⟨b2, rfl, rfl⟩
  refine q_q (q_fa fo64_2) (q_q (q_l 1 u3) ?_)
  refine q_e (Eff.call ent35 [102] [102] (.cons rfl (.cons rfl .nil)) (contains_ct [1, 3, 5] _ _ _ (Own.mk (e := 3) (n := 1) (c := 3) [] (by simp [iz, Value.oneCell']) (by simp) (by simp [maxLen]) (by rfl) (by rfl)).sl x.cnt) rfl rfl rfl rfl (by rintro _ _ ⟨_, rfl⟩; rfl)) ?_
  rintro _ _ ⟨_, ⟨rfl, rfl⟩, rfl⟩
  refine q_q q_mv ?_
  refine' q_and 6 13 7 [0, 1, 2, 3, 4, 5] [0, 1, 102] ?_ ?_ ?_
  rotate_left 1
  ·
   intro hg6
   refine q_g (q_fa fo64_2) (q_g (q_l 1 u3) (q_g (q_fa fo64_6) (q_g (q_l 1 u55) (q_g (q_n u55) (q_g (q_b BinV.eql) (q_q Yld.pk ?_))))))
   exact q_m
  ·
   intro hg6
   repeat refine q_gs ?_
   refine q_q Yld.pk ?_
   exact q_m
  refine q_an ?_
  refine q_k [1] [0, 1, 102] ?_
  refine W.ret ?_
  exact q_r [1] (.cons (.tmp rfl) .nil) rfl rfl rfl ⟨rfl, rfl⟩
set_option maxRecDepth 100000 in
set_option maxHeartbeats 400000 in
theorem itC2_ct (b : Nat) (x : It) : Ct Tryz.prog 125 [.pointer (some ⟨b, 0, none⟩)] [single b (.cells [.string x.nm, .int .i64 x.kd, .int .i64 x.cnt, .int .i64 x.ld, .int .i64 x.sz, .int .i64 x.sh, .slice x.po x.on.length x.co].toArray 64 (0, 0))] (fun v Hs => v = .bool (decide (InR x.cnt 1 8)) ∧ Hs = [single b (.cells [.string x.nm, .int .i64 x.kd, .int .i64 x.cnt, .int .i64 x.ld, .int .i64 x.sz, .int .i64 x.sh, .slice x.po x.on.length x.co].toArray 64 (0, 0))]) := by
  refine Ct.body Tryz.func125 rfl Tryz.ntmps125 rfl ?_
  intro E F
  refine q_sr (q_an ?_)
  refine q_sr (q_q (q_fa fo64_2) (q_q (q_l 1 u3) ?_))
  refine q_e (q_c ent67 [] [] (within_ct x.cnt 1 8)) ?_
  rintro _ _ ⟨_, ⟨rfl, rfl⟩, rfl⟩
  refine q_an ?_
  refine q_k [1] [0, 1] ?_
  refine W.ret ?_
  exact q_r [1] (.cons (.tmp rfl) .nil) rfl rfl rfl ⟨rfl, rfl⟩
set_option maxRecDepth 100000 in
set_option maxHeartbeats 400000 in
theorem itC3_ct (b : Nat) (x : It) : Ct Tryz.prog 126 [.pointer (some ⟨b, 0, none⟩)] [single b (.cells [.string x.nm, .int .i64 x.kd, .int .i64 x.cnt, .int .i64 x.ld, .int .i64 x.sz, .int .i64 x.sh, .slice x.po x.on.length x.co].toArray 64 (0, 0))] (fun v Hs => v = .bool (decide (x.cnt = 1) && decide ((x.on.length : Int) = 1)) ∧ Hs = [single b (.cells [.string x.nm, .int .i64 x.kd, .int .i64 x.cnt, .int .i64 x.ld, .int .i64 x.sz, .int .i64 x.sh, .slice x.po x.on.length x.co].toArray 64 (0, 0))]) := by
  refine Ct.body Tryz.func126 rfl Tryz.ntmps126 rfl ?_
  intro E F
  refine q_sr (q_an ?_)
  refine q_sr (q_q (q_fa fo64_2) (q_q (q_l 1 u3) (q_q (q_b BinV.eql) (q_q q_mv ?_))))
  refine' q_and 5 10 5 [0, 1, 2, 3, 4] [0, 1] ?_ ?_ ?_
  rotate_left 1
  ·
   intro hg5
   refine q_g (q_fa fo64_6) (q_g (q_l 1 u55) (q_g (q_n u55) (q_g (q_b BinV.eql) (q_q Yld.pk ?_))))
   exact q_m
  ·
   intro hg5
   repeat refine q_gs ?_
   refine q_q Yld.pk ?_
   exact q_m
  refine q_an ?_
  refine q_k [1] [0, 1] ?_
  refine W.ret ?_
  exact q_r [1] (.cons (.tmp rfl) .nil) rfl rfl rfl ⟨rfl, rfl⟩
set_option maxRecDepth 100000 in
set_option maxHeartbeats 1600000 in
theorem validItem0_ct (m : Md) (H1 : PH) (hM : m.In H1) (x : It) (hon : Sl H1 x.po x.co 1 (iz x.on)) (hk : x.kd = 0) : Ct Tryz.prog 72 [.agg [.slice m.psi m.si.length m.csi, .slice m.pfe m.fe.length m.cfe, .slice m.prk m.rk.length m.crk, .slice m.pmc m.mc.length m.cmc, .slice m.pln m.ln.length m.cln, .slice m.pis m.is.length m.cis, .int .i64 m.da, .int .i64 m.sl, .int .i64 m.re, .int .i64 m.fa, .slice m.prl m.rl.length m.crl].toArray, .agg [.string x.nm, .int .i64 x.kd, .int .i64 x.cnt, .int .i64 x.ld, .int .i64 x.sz, .int .i64 x.sh, .slice x.po x.on.length x.co].toArray] [H1] (fun v Hs => v = .bool (itB m x) ∧ Hs = [H1]) := by
  refine Ct.body Tryz.func72 rfl Tryz.ntmps72 rfl ?_
  intro E F
  have hcv : countV x = (decide (x.cnt ∈ [(1 : Int), 3, 5]) && decide (x.cnt = x.on.length)) := by unfold countV; rw [if_pos hk]
  have hM0 : MapP (fun a : Int => Value.int .i64 a) #[] 0 [] := MapP.empty _
  refine q_sr ?_
  refine q_bx 102 fun b2 => ?_
  refine q_bx 103 fun b3 => ?_
  refine q_an ?_
  refine q_sr ?_
  refine q_e (Eff.makeMap 107) ?_
  rintro _ _ ⟨b7, rfl, rfl⟩
  refine q_q (Yld.makeFunc eval0 (eval1 rfl)) ?_
  refine RL.e0 (Eff.insert (c := 107) u172 (keyInt u3) rfl rfl rfl rfl (by assumption)) ?_
  rintro _ _ ⟨es1, ck1, hM1, rfl⟩
  refine q_q (Yld.makeFunc eval0 (eval1 rfl)) ?_
  refine RL.e0 (Eff.insert (c := 107) u172 (keyInt u3) rfl rfl rfl rfl (by assumption)) ?_
  rintro _ _ ⟨es2, ck2, hM2, rfl⟩
  refine q_q (Yld.makeFunc eval0 (eval1 rfl)) ?_
  refine RL.e0 (Eff.insert (c := 107) u172 (keyInt u3) rfl rfl rfl rfl (by assumption)) ?_
  rintro _ _ ⟨es3, ck3, hM3, rfl⟩
  refine q_q q_mv (q_an ?_)
  refine q_k [2, 3, 5] [0, 1, 102, 103, 107] ?_
  refine q_sr (q_q q_mv (q_q (q_fa fo64_1) (q_q (q_l 103 u3) ?_)))
  refine q_q (Yld.eq (v' := .func (.func 124) [].toArray [Value.pointer (some ⟨b3, 0, none⟩)].toArray) (Yld.lookup (c := 107) u172 (keyInt u3) zv32 rfl rfl rfl (by assumption)) (by rw [mget_mset, mget_mset, mget_mset]; simp [hk]; try rfl)) (q_an ?_)
  refine q_k [2, 3, 6] [0, 1, 102, 103, 107] ?_
  refine q_sr (q_q q_mv ?_)
  refine q_q (by first | exact Yld.bin rfl rfl (BinV.neqFN u32) | exact Yld.bin rfl rfl (BinV.neqNN u32)) ?_
  refine q_q q_mv ?_
  first | refine RL.as (t := 18) rfl (boolT (by first | assumption | omega | (simp; done))) ?_ | refine RL.as (t := 18) (v := .bool true) rfl rfl ?_
  refine q_g q_mv ?_
  refine RL.ge rfl rfl (Eff.callV ent124 [103] [103] rfl .nil (itC1_ct b3 x) rfl rfl rfl rfl (by rintro _ _ ⟨_, rfl⟩; rfl)) rfl ?_
  rintro _ _ ⟨_, ⟨rfl, rfl⟩, rfl⟩
  refine q_q Yld.pk (q_q q_mv ?_)
  refine' q_and 22 27 5 [2, 3, 6, 16, 17, 18, 19, 20, 21] [0, 1, 102, 103, 107] ?_ ?_ ?_
  rotate_left 1
  ·
   intro hg22
   refine q_g (q_lw 102 u29 sz29) (q_g (q_fa fo64_6) (q_g (q_l 103 u55) ?_))
   refine RL.ge rfl rfl (q_c ent127 [1] [1] (machines_ct m H1 hM x.on _ _ hon)) rfl ?_
   rintro _ _ ⟨_, ⟨rfl, rfl⟩, rfl⟩
   refine q_q Yld.pk ?_
   exact q_m
  ·
   intro hg22
   repeat refine q_gs ?_
   refine q_q Yld.pk ?_
   exact q_m
  refine q_q q_mv ?_
  refine' q_and 28 32 4 [2, 3, 6, 16, 17, 18, 19, 20, 21, 27] [0, 1, 102, 103, 107] ?_ ?_ ?_
  rotate_left 1
  ·
   intro hg28
   refine q_g (q_fa fo64_3) (q_g (q_l 103 u3) ?_)
   refine RL.ge rfl rfl (q_c ent67 [] [] (within_ct x.ld 0 1048576)) rfl ?_
   rintro _ _ ⟨_, ⟨rfl, rfl⟩, rfl⟩
   refine q_q Yld.pk ?_
   exact q_m
  ·
   intro hg28
   repeat refine q_gs ?_
   refine q_q Yld.pk ?_
   exact q_m
  refine q_q q_mv ?_
  refine' q_and 33 37 4 [2, 3, 6, 16, 17, 18, 19, 20, 21, 27, 32] [0, 1, 102, 103, 107] ?_ ?_ ?_
  rotate_left 1
  ·
   intro hg33
   refine q_g (q_fa fo64_4) (q_g (q_l 103 u3) ?_)
   refine RL.ge rfl rfl (q_c ent67 [] [] (within_ct x.sz 0 1048576)) rfl ?_
   rintro _ _ ⟨_, ⟨rfl, rfl⟩, rfl⟩
   refine q_q Yld.pk ?_
   exact q_m
  ·
   intro hg33
   repeat refine q_gs ?_
   refine q_q Yld.pk ?_
   exact q_m
  refine q_q q_mv ?_
  refine' q_and 38 42 4 [2, 3, 6, 16, 17, 18, 19, 20, 21, 27, 32, 37] [0, 1, 102, 103, 107] ?_ ?_ ?_
  rotate_left 1
  ·
   intro hg38
   refine q_g (q_fa fo64_5) (q_g (q_l 103 u3) ?_)
   refine RL.ge rfl rfl (q_c ent67 [] [] (within_ct x.sh 1 1048576)) rfl ?_
   rintro _ _ ⟨_, ⟨rfl, rfl⟩, rfl⟩
   refine q_q Yld.pk ?_
   exact q_m
  ·
   intro hg38
   repeat refine q_gs ?_
   refine q_q Yld.pk ?_
   exact q_m
  refine q_an ?_
  refine q_k [4] [0, 1, 102, 103, 107] ?_
  refine W.ret ?_
  exact q_r [1] (.cons (.tmp rfl) .nil) rfl rfl rfl ⟨by unfold itB; rw [hcv]; rfl, rfl⟩
set_option maxRecDepth 100000 in
set_option maxHeartbeats 1600000 in
theorem validItem1_ct (m : Md) (H1 : PH) (hM : m.In H1) (x : It) (hon : Sl H1 x.po x.co 1 (iz x.on)) (hk : x.kd = 1) : Ct Tryz.prog 72 [.agg [.slice m.psi m.si.length m.csi, .slice m.pfe m.fe.length m.cfe, .slice m.prk m.rk.length m.crk, .slice m.pmc m.mc.length m.cmc, .slice m.pln m.ln.length m.cln, .slice m.pis m.is.length m.cis, .int .i64 m.da, .int .i64 m.sl, .int .i64 m.re, .int .i64 m.fa, .slice m.prl m.rl.length m.crl].toArray, .agg [.string x.nm, .int .i64 x.kd, .int .i64 x.cnt, .int .i64 x.ld, .int .i64 x.sz, .int .i64 x.sh, .slice x.po x.on.length x.co].toArray] [H1] (fun v Hs => v = .bool (itB m x) ∧ Hs = [H1]) := by
  refine Ct.body Tryz.func72 rfl Tryz.ntmps72 rfl ?_
  intro E F
  have hcv : countV x = (decide (InR x.cnt 1 8)) := by unfold countV; rw [if_neg (by omega), if_pos hk]
  have hM0 : MapP (fun a : Int => Value.int .i64 a) #[] 0 [] := MapP.empty _
  refine q_sr ?_
  refine q_bx 102 fun b2 => ?_
  refine q_bx 103 fun b3 => ?_
  refine q_an ?_
  refine q_sr ?_
  refine q_e (Eff.makeMap 107) ?_
  rintro _ _ ⟨b7, rfl, rfl⟩
  refine q_q (Yld.makeFunc eval0 (eval1 rfl)) ?_
  refine RL.e0 (Eff.insert (c := 107) u172 (keyInt u3) rfl rfl rfl rfl (by assumption)) ?_
  rintro _ _ ⟨es1, ck1, hM1, rfl⟩
  refine q_q (Yld.makeFunc eval0 (eval1 rfl)) ?_
  refine RL.e0 (Eff.insert (c := 107) u172 (keyInt u3) rfl rfl rfl rfl (by assumption)) ?_
  rintro _ _ ⟨es2, ck2, hM2, rfl⟩
  refine q_q (Yld.makeFunc eval0 (eval1 rfl)) ?_
  refine RL.e0 (Eff.insert (c := 107) u172 (keyInt u3) rfl rfl rfl rfl (by assumption)) ?_
  rintro _ _ ⟨es3, ck3, hM3, rfl⟩
  refine q_q q_mv (q_an ?_)
  refine q_k [2, 3, 5] [0, 1, 102, 103, 107] ?_
  refine q_sr (q_q q_mv (q_q (q_fa fo64_1) (q_q (q_l 103 u3) ?_)))
  refine q_q (Yld.eq (v' := .func (.func 125) [].toArray [Value.pointer (some ⟨b3, 0, none⟩)].toArray) (Yld.lookup (c := 107) u172 (keyInt u3) zv32 rfl rfl rfl (by assumption)) (by rw [mget_mset, mget_mset, mget_mset]; simp [hk]; try rfl)) (q_an ?_)
  refine q_k [2, 3, 6] [0, 1, 102, 103, 107] ?_
  refine q_sr (q_q q_mv ?_)
  refine q_q (by first | exact Yld.bin rfl rfl (BinV.neqFN u32) | exact Yld.bin rfl rfl (BinV.neqNN u32)) ?_
  refine q_q q_mv ?_
  first | refine RL.as (t := 18) rfl (boolT (by first | assumption | omega | (simp; done))) ?_ | refine RL.as (t := 18) (v := .bool true) rfl rfl ?_
  refine q_g q_mv ?_
  refine RL.ge rfl rfl (Eff.callV ent125 [103] [103] rfl .nil (itC2_ct b3 x) rfl rfl rfl rfl (by rintro _ _ ⟨_, rfl⟩; rfl)) rfl ?_
  rintro _ _ ⟨_, ⟨rfl, rfl⟩, rfl⟩
  refine q_q Yld.pk (q_q q_mv ?_)
  refine' q_and 22 27 5 [2, 3, 6, 16, 17, 18, 19, 20, 21] [0, 1, 102, 103, 107] ?_ ?_ ?_
  rotate_left 1
  ·
   intro hg22
   refine q_g (q_lw 102 u29 sz29) (q_g (q_fa fo64_6) (q_g (q_l 103 u55) ?_))
   refine RL.ge rfl rfl (q_c ent127 [1] [1] (machines_ct m H1 hM x.on _ _ hon)) rfl ?_
   rintro _ _ ⟨_, ⟨rfl, rfl⟩, rfl⟩
   refine q_q Yld.pk ?_
   exact q_m
  ·
   intro hg22
   repeat refine q_gs ?_
   refine q_q Yld.pk ?_
   exact q_m
  refine q_q q_mv ?_
  refine' q_and 28 32 4 [2, 3, 6, 16, 17, 18, 19, 20, 21, 27] [0, 1, 102, 103, 107] ?_ ?_ ?_
  rotate_left 1
  ·
   intro hg28
   refine q_g (q_fa fo64_3) (q_g (q_l 103 u3) ?_)
   refine RL.ge rfl rfl (q_c ent67 [] [] (within_ct x.ld 0 1048576)) rfl ?_
   rintro _ _ ⟨_, ⟨rfl, rfl⟩, rfl⟩
   refine q_q Yld.pk ?_
   exact q_m
  ·
   intro hg28
   repeat refine q_gs ?_
   refine q_q Yld.pk ?_
   exact q_m
  refine q_q q_mv ?_
  refine' q_and 33 37 4 [2, 3, 6, 16, 17, 18, 19, 20, 21, 27, 32] [0, 1, 102, 103, 107] ?_ ?_ ?_
  rotate_left 1
  ·
   intro hg33
   refine q_g (q_fa fo64_4) (q_g (q_l 103 u3) ?_)
   refine RL.ge rfl rfl (q_c ent67 [] [] (within_ct x.sz 0 1048576)) rfl ?_
   rintro _ _ ⟨_, ⟨rfl, rfl⟩, rfl⟩
   refine q_q Yld.pk ?_
   exact q_m
  ·
   intro hg33
   repeat refine q_gs ?_
   refine q_q Yld.pk ?_
   exact q_m
  refine q_q q_mv ?_
  refine' q_and 38 42 4 [2, 3, 6, 16, 17, 18, 19, 20, 21, 27, 32, 37] [0, 1, 102, 103, 107] ?_ ?_ ?_
  rotate_left 1
  ·
   intro hg38
   refine q_g (q_fa fo64_5) (q_g (q_l 103 u3) ?_)
   refine RL.ge rfl rfl (q_c ent67 [] [] (within_ct x.sh 1 1048576)) rfl ?_
   rintro _ _ ⟨_, ⟨rfl, rfl⟩, rfl⟩
   refine q_q Yld.pk ?_
   exact q_m
  ·
   intro hg38
   repeat refine q_gs ?_
   refine q_q Yld.pk ?_
   exact q_m
  refine q_an ?_
  refine q_k [4] [0, 1, 102, 103, 107] ?_
  refine W.ret ?_
  exact q_r [1] (.cons (.tmp rfl) .nil) rfl rfl rfl ⟨by unfold itB; rw [hcv]; rfl, rfl⟩
set_option maxRecDepth 100000 in
set_option maxHeartbeats 1600000 in
theorem validItem2_ct (m : Md) (H1 : PH) (hM : m.In H1) (x : It) (hon : Sl H1 x.po x.co 1 (iz x.on)) (hk : x.kd = 2) : Ct Tryz.prog 72 [.agg [.slice m.psi m.si.length m.csi, .slice m.pfe m.fe.length m.cfe, .slice m.prk m.rk.length m.crk, .slice m.pmc m.mc.length m.cmc, .slice m.pln m.ln.length m.cln, .slice m.pis m.is.length m.cis, .int .i64 m.da, .int .i64 m.sl, .int .i64 m.re, .int .i64 m.fa, .slice m.prl m.rl.length m.crl].toArray, .agg [.string x.nm, .int .i64 x.kd, .int .i64 x.cnt, .int .i64 x.ld, .int .i64 x.sz, .int .i64 x.sh, .slice x.po x.on.length x.co].toArray] [H1] (fun v Hs => v = .bool (itB m x) ∧ Hs = [H1]) := by
  refine Ct.body Tryz.func72 rfl Tryz.ntmps72 rfl ?_
  intro E F
  have hcv : countV x = (decide (x.cnt = 1) && decide ((x.on.length : Int) = 1)) := by unfold countV; rw [if_neg (by omega), if_neg (by omega), if_pos hk]
  have hM0 : MapP (fun a : Int => Value.int .i64 a) #[] 0 [] := MapP.empty _
  refine q_sr ?_
  refine q_bx 102 fun b2 => ?_
  refine q_bx 103 fun b3 => ?_
  refine q_an ?_
  refine q_sr ?_
  refine q_e (Eff.makeMap 107) ?_
  rintro _ _ ⟨b7, rfl, rfl⟩
  refine q_q (Yld.makeFunc eval0 (eval1 rfl)) ?_
  refine RL.e0 (Eff.insert (c := 107) u172 (keyInt u3) rfl rfl rfl rfl (by assumption)) ?_
  rintro _ _ ⟨es1, ck1, hM1, rfl⟩
  refine q_q (Yld.makeFunc eval0 (eval1 rfl)) ?_
  refine RL.e0 (Eff.insert (c := 107) u172 (keyInt u3) rfl rfl rfl rfl (by assumption)) ?_
  rintro _ _ ⟨es2, ck2, hM2, rfl⟩
  refine q_q (Yld.makeFunc eval0 (eval1 rfl)) ?_
  refine RL.e0 (Eff.insert (c := 107) u172 (keyInt u3) rfl rfl rfl rfl (by assumption)) ?_
  rintro _ _ ⟨es3, ck3, hM3, rfl⟩
  refine q_q q_mv (q_an ?_)
  refine q_k [2, 3, 5] [0, 1, 102, 103, 107] ?_
  refine q_sr (q_q q_mv (q_q (q_fa fo64_1) (q_q (q_l 103 u3) ?_)))
  refine q_q (Yld.eq (v' := .func (.func 126) [].toArray [Value.pointer (some ⟨b3, 0, none⟩)].toArray) (Yld.lookup (c := 107) u172 (keyInt u3) zv32 rfl rfl rfl (by assumption)) (by rw [mget_mset, mget_mset, mget_mset]; simp [hk]; try rfl)) (q_an ?_)
  refine q_k [2, 3, 6] [0, 1, 102, 103, 107] ?_
  refine q_sr (q_q q_mv ?_)
  refine q_q (by first | exact Yld.bin rfl rfl (BinV.neqFN u32) | exact Yld.bin rfl rfl (BinV.neqNN u32)) ?_
  refine q_q q_mv ?_
  first | refine RL.as (t := 18) rfl (boolT (by first | assumption | omega | (simp; done))) ?_ | refine RL.as (t := 18) (v := .bool true) rfl rfl ?_
  refine q_g q_mv ?_
  refine RL.ge rfl rfl (Eff.callV ent126 [103] [103] rfl .nil (itC3_ct b3 x) rfl rfl rfl rfl (by rintro _ _ ⟨_, rfl⟩; rfl)) rfl ?_
  rintro _ _ ⟨_, ⟨rfl, rfl⟩, rfl⟩
  refine q_q Yld.pk (q_q q_mv ?_)
  refine' q_and 22 27 5 [2, 3, 6, 16, 17, 18, 19, 20, 21] [0, 1, 102, 103, 107] ?_ ?_ ?_
  rotate_left 1
  ·
   intro hg22
   refine q_g (q_lw 102 u29 sz29) (q_g (q_fa fo64_6) (q_g (q_l 103 u55) ?_))
   refine RL.ge rfl rfl (q_c ent127 [1] [1] (machines_ct m H1 hM x.on _ _ hon)) rfl ?_
   rintro _ _ ⟨_, ⟨rfl, rfl⟩, rfl⟩
   refine q_q Yld.pk ?_
   exact q_m
  ·
   intro hg22
   repeat refine q_gs ?_
   refine q_q Yld.pk ?_
   exact q_m
  refine q_q q_mv ?_
  refine' q_and 28 32 4 [2, 3, 6, 16, 17, 18, 19, 20, 21, 27] [0, 1, 102, 103, 107] ?_ ?_ ?_
  rotate_left 1
  ·
   intro hg28
   refine q_g (q_fa fo64_3) (q_g (q_l 103 u3) ?_)
   refine RL.ge rfl rfl (q_c ent67 [] [] (within_ct x.ld 0 1048576)) rfl ?_
   rintro _ _ ⟨_, ⟨rfl, rfl⟩, rfl⟩
   refine q_q Yld.pk ?_
   exact q_m
  ·
   intro hg28
   repeat refine q_gs ?_
   refine q_q Yld.pk ?_
   exact q_m
  refine q_q q_mv ?_
  refine' q_and 33 37 4 [2, 3, 6, 16, 17, 18, 19, 20, 21, 27, 32] [0, 1, 102, 103, 107] ?_ ?_ ?_
  rotate_left 1
  ·
   intro hg33
   refine q_g (q_fa fo64_4) (q_g (q_l 103 u3) ?_)
   refine RL.ge rfl rfl (q_c ent67 [] [] (within_ct x.sz 0 1048576)) rfl ?_
   rintro _ _ ⟨_, ⟨rfl, rfl⟩, rfl⟩
   refine q_q Yld.pk ?_
   exact q_m
  ·
   intro hg33
   repeat refine q_gs ?_
   refine q_q Yld.pk ?_
   exact q_m
  refine q_q q_mv ?_
  refine' q_and 38 42 4 [2, 3, 6, 16, 17, 18, 19, 20, 21, 27, 32, 37] [0, 1, 102, 103, 107] ?_ ?_ ?_
  rotate_left 1
  ·
   intro hg38
   refine q_g (q_fa fo64_5) (q_g (q_l 103 u3) ?_)
   refine RL.ge rfl rfl (q_c ent67 [] [] (within_ct x.sh 1 1048576)) rfl ?_
   rintro _ _ ⟨_, ⟨rfl, rfl⟩, rfl⟩
   refine q_q Yld.pk ?_
   exact q_m
  ·
   intro hg38
   repeat refine q_gs ?_
   refine q_q Yld.pk ?_
   exact q_m
  refine q_an ?_
  refine q_k [4] [0, 1, 102, 103, 107] ?_
  refine W.ret ?_
  exact q_r [1] (.cons (.tmp rfl) .nil) rfl rfl rfl ⟨by unfold itB; rw [hcv]; rfl, rfl⟩
set_option maxRecDepth 100000 in
set_option maxHeartbeats 1600000 in
theorem validItem3_ct (m : Md) (H1 : PH) (hM : m.In H1) (x : It) (hon : Sl H1 x.po x.co 1 (iz x.on)) (hk : x.kd ≠ 0 ∧ x.kd ≠ 1 ∧ x.kd ≠ 2) : Ct Tryz.prog 72 [.agg [.slice m.psi m.si.length m.csi, .slice m.pfe m.fe.length m.cfe, .slice m.prk m.rk.length m.crk, .slice m.pmc m.mc.length m.cmc, .slice m.pln m.ln.length m.cln, .slice m.pis m.is.length m.cis, .int .i64 m.da, .int .i64 m.sl, .int .i64 m.re, .int .i64 m.fa, .slice m.prl m.rl.length m.crl].toArray, .agg [.string x.nm, .int .i64 x.kd, .int .i64 x.cnt, .int .i64 x.ld, .int .i64 x.sz, .int .i64 x.sh, .slice x.po x.on.length x.co].toArray] [H1] (fun v Hs => v = .bool (itB m x) ∧ Hs = [H1]) := by
  refine Ct.body Tryz.func72 rfl Tryz.ntmps72 rfl ?_
  intro E F
  have hcv : countV x = (false) := by unfold countV; rw [if_neg hk.1, if_neg hk.2.1, if_neg hk.2.2]
  have hM0 : MapP (fun a : Int => Value.int .i64 a) #[] 0 [] := MapP.empty _
  refine q_sr ?_
  refine q_bx 102 fun b2 => ?_
  refine q_bx 103 fun b3 => ?_
  refine q_an ?_
  refine q_sr ?_
  refine q_e (Eff.makeMap 107) ?_
  rintro _ _ ⟨b7, rfl, rfl⟩
  refine q_q (Yld.makeFunc eval0 (eval1 rfl)) ?_
  refine RL.e0 (Eff.insert (c := 107) u172 (keyInt u3) rfl rfl rfl rfl (by assumption)) ?_
  rintro _ _ ⟨es1, ck1, hM1, rfl⟩
  refine q_q (Yld.makeFunc eval0 (eval1 rfl)) ?_
  refine RL.e0 (Eff.insert (c := 107) u172 (keyInt u3) rfl rfl rfl rfl (by assumption)) ?_
  rintro _ _ ⟨es2, ck2, hM2, rfl⟩
  refine q_q (Yld.makeFunc eval0 (eval1 rfl)) ?_
  refine RL.e0 (Eff.insert (c := 107) u172 (keyInt u3) rfl rfl rfl rfl (by assumption)) ?_
  rintro _ _ ⟨es3, ck3, hM3, rfl⟩
  refine q_q q_mv (q_an ?_)
  refine q_k [2, 3, 5] [0, 1, 102, 103, 107] ?_
  refine q_sr (q_q q_mv (q_q (q_fa fo64_1) (q_q (q_l 103 u3) ?_)))
  refine q_q (Yld.eq (v' := .nilFunc) (Yld.lookup (c := 107) u172 (keyInt u3) zv32 rfl rfl rfl (by assumption)) (by rw [mget_mset, mget_mset, mget_mset, if_neg (Ne.symm hk.2.2), if_neg (Ne.symm hk.2.1), if_neg (Ne.symm hk.1)]; rfl)) (q_an ?_)
  refine q_k [2, 3, 6] [0, 1, 102, 103, 107] ?_
  refine q_sr (q_q q_mv ?_)
  refine q_q (by first | exact Yld.bin rfl rfl (BinV.neqFN u32) | exact Yld.bin rfl rfl (BinV.neqNN u32)) ?_
  refine q_q q_mv ?_
  first | refine RL.as (t := 18) rfl (boolF (by first | assumption | omega | (simp; done))) ?_ | refine RL.as (t := 18) (v := .bool false) rfl rfl ?_
  refine q_gs (q_gs (q_q Yld.pk (q_q q_mv ?_)))
  first | refine RL.as (t := 22) rfl (boolF (by first | assumption | omega | (simp; done))) ?_ | refine RL.as (t := 22) (v := .bool false) rfl rfl ?_
  repeat refine q_gs ?_
  refine q_q Yld.pk (q_q q_mv ?_)
  first | refine RL.as (t := 28) rfl (boolF (by first | assumption | omega | (simp; done))) ?_ | refine RL.as (t := 28) (v := .bool false) rfl rfl ?_
  repeat refine q_gs ?_
  refine q_q Yld.pk (q_q q_mv ?_)
  first | refine RL.as (t := 33) rfl (boolF (by first | assumption | omega | (simp; done))) ?_ | refine RL.as (t := 33) (v := .bool false) rfl rfl ?_
  repeat refine q_gs ?_
  refine q_q Yld.pk (q_q q_mv ?_)
  first | refine RL.as (t := 38) rfl (boolF (by first | assumption | omega | (simp; done))) ?_ | refine RL.as (t := 38) (v := .bool false) rfl rfl ?_
  repeat refine q_gs ?_
  refine q_q Yld.pk (q_an ?_)
  refine q_k [4] [0, 1, 102, 103, 107] ?_
  refine W.ret ?_
  exact q_r [1] (.cons (.tmp rfl) .nil) rfl rfl rfl ⟨by unfold itB; rw [hcv]; rfl, rfl⟩
theorem validItem_ct (m : Md) (H1 : PH) (hM : m.In H1) (x : It) (hon : Sl H1 x.po x.co 1 (iz x.on)) : Ct Tryz.prog 72 [.agg [.slice m.psi m.si.length m.csi, .slice m.pfe m.fe.length m.cfe, .slice m.prk m.rk.length m.crk, .slice m.pmc m.mc.length m.cmc, .slice m.pln m.ln.length m.cln, .slice m.pis m.is.length m.cis, .int .i64 m.da, .int .i64 m.sl, .int .i64 m.re, .int .i64 m.fa, .slice m.prl m.rl.length m.crl].toArray, .agg [.string x.nm, .int .i64 x.kd, .int .i64 x.cnt, .int .i64 x.ld, .int .i64 x.sz, .int .i64 x.sh, .slice x.po x.on.length x.co].toArray] [H1] (fun v Hs => v = .bool (itB m x) ∧ Hs = [H1]) := by
  by_cases h0 : x.kd = 0
  · exact validItem0_ct m H1 hM x hon h0
  by_cases h1 : x.kd = 1
  · exact validItem1_ct m H1 hM x hon h1
  by_cases h2 : x.kd = 2
  · exact validItem2_ct m H1 hM x hon h2
  exact validItem3_ct m H1 hM x hon ⟨h0, h1, h2⟩
end Go.Proofs.YtboapdcmaeojgaaGreatDoor
namespace Go.Proofs.YtboapdcmaeojgaaGreatDoor
open SL Cat
set_option linter.unusedVariables false
set_option linter.unusedSimpArgs false
theorem fo29_5 : fieldOff Tryz.prog 29 5 = some 5 := by kernel_rfl
theorem fo97_1 : fieldOff Tryz.prog 97 1 = some 1 := by kernel_rfl
theorem ent167 : Ent Tryz.prog 167 := ⟨_, _, Tryz.func167, by kernel_rfl, rfl⟩
theorem zc97 : zc Tryz.prog 97 [.int .i64 0, .int .i64 0, .int .i64 0, .int .i64 0, .int .i64 0, .bool false, .slice none 0 0] := (by kernel_rfl : ((Tryz.prog.info? 97).bind (·.zero)).map (fun v => v.cells.toList) = some [.int .i64 0, .int .i64 0, .int .i64 0, .int .i64 0, .int .i64 0, .bool false, .slice none 0 0])
theorem lay97 : layS Tryz.prog 97 = some ([.int .i64 0, .int .i64 0, .int .i64 0, .int .i64 0, .int .i64 0, .bool false, .slice none 0 0], [(0, 1), (1, 1), (2, 1), (3, 1), (4, 1), (5, 1), (6, 1)]) := by kernel_rfl
theorem fo97_3 : fieldOff Tryz.prog 97 3 = some 3 := by kernel_rfl
theorem fo97_5 : fieldOff Tryz.prog 97 5 = some 5 := by kernel_rfl
theorem fo97_4 : fieldOff Tryz.prog 97 4 = some 4 := by kernel_rfl
theorem fo97_6 : fieldOff Tryz.prog 97 6 = some 6 := by kernel_rfl
theorem fo97_2 : fieldOff Tryz.prog 97 2 = some 2 := by kernel_rfl
theorem ent181 : Ent Tryz.prog 181 := ⟨_, _, Tryz.func181, by kernel_rfl, rfl⟩
theorem ent166 : Ent Tryz.prog 166 := ⟨_, _, Tryz.func166, by kernel_rfl, rfl⟩
theorem ent168 : Ent Tryz.prog 168 := ⟨_, _, Tryz.func168, by kernel_rfl, rfl⟩
theorem ent169 : Ent Tryz.prog 169 := ⟨_, _, Tryz.func169, by kernel_rfl, rfl⟩
theorem ent170 : Ent Tryz.prog 170 := ⟨_, _, Tryz.func170, by kernel_rfl, rfl⟩
theorem ent171 : Ent Tryz.prog 171 := ⟨_, _, Tryz.func171, by kernel_rfl, rfl⟩
theorem ent172 : Ent Tryz.prog 172 := ⟨_, _, Tryz.func172, by kernel_rfl, rfl⟩
theorem ent173 : Ent Tryz.prog 173 := ⟨_, _, Tryz.func173, by kernel_rfl, rfl⟩
theorem ent174 : Ent Tryz.prog 174 := ⟨_, _, Tryz.func174, by kernel_rfl, rfl⟩
theorem ent175 : Ent Tryz.prog 175 := ⟨_, _, Tryz.func175, by kernel_rfl, rfl⟩
theorem ent176 : Ent Tryz.prog 176 := ⟨_, _, Tryz.func176, by kernel_rfl, rfl⟩
theorem ent177 : Ent Tryz.prog 177 := ⟨_, _, Tryz.func177, by kernel_rfl, rfl⟩
theorem ent178 : Ent Tryz.prog 178 := ⟨_, _, Tryz.func178, by kernel_rfl, rfl⟩
theorem ent179 : Ent Tryz.prog 179 := ⟨_, _, Tryz.func179, by kernel_rfl, rfl⟩
theorem ent180 : Ent Tryz.prog 180 := ⟨_, _, Tryz.func180, by kernel_rfl, rfl⟩
theorem lay176 : layS Tryz.prog 176 = some ([.nilFunc, .nilFunc], [(0, 1), (1, 1)]) := by kernel_rfl
abbrev u4 := @Tryz.underlying4
abbrev u178 := @Tryz.underlying178
set_option maxRecDepth 100000 in
set_option maxHeartbeats 400000 in
theorem item_ct (m : Md) (H1 : PH) (hM : m.In H1) (z : Int) : Ct Tryz.prog 167 [.agg [.slice m.psi m.si.length m.csi, .slice m.pfe m.fe.length m.cfe, .slice m.prk m.rk.length m.crk, .slice m.pmc m.mc.length m.cmc, .slice m.pln m.ln.length m.cln, .slice m.pis m.is.length m.cis, .int .i64 m.da, .int .i64 m.sl, .int .i64 m.re, .int .i64 m.fa, .slice m.prl m.rl.length m.crl].toArray, .int .i64 z] [H1] (fun v Hs => v = .bool (decide (InR z 1 m.is.length)) ∧ Hs = [H1]) := by
  refine Ct.body Tryz.func167 rfl Tryz.ntmps167 rfl ?_
  intro E F
  refine q_sr ?_
  refine q_bx 102 fun b2 => ?_
  refine q_an ?_
  refine q_sr (q_q q_mv (q_q (q_fa fo29_5) (q_q (q_l 102 u26) (q_q (q_n u26) ?_))))
  refine q_e (q_c ent67 [] [] (within_ct z 1 m.is.length)) ?_
  rintro _ _ ⟨_, ⟨rfl, rfl⟩, rfl⟩
  refine q_an ?_
  refine q_k [4] [0, 1, 102] ?_
  refine W.ret ?_
  exact q_r [1] (.cons (.tmp rfl) .nil) rfl rfl rfl ⟨rfl, rfl⟩
set_option maxRecDepth 100000 in
set_option maxHeartbeats 400000 in
theorem rok0_ct (m : Md) (H1 : PH) (hM : m.In H1) (x : Rl) (hms : Sl H1 x.pm x.cm 1 (iz x.ms)) : Ct Tryz.prog 166 [.agg [.slice m.psi m.si.length m.csi, .slice m.pfe m.fe.length m.cfe, .slice m.prk m.rk.length m.crk, .slice m.pmc m.mc.length m.cmc, .slice m.pln m.ln.length m.cln, .slice m.pis m.is.length m.cis, .int .i64 m.da, .int .i64 m.sl, .int .i64 m.re, .int .i64 m.fa, .slice m.prl m.rl.length m.crl].toArray, .agg [.int .i64 x.kd, .int .i64 x.it, .int .i64 x.ot, .int .i64 x.n, .int .i64 x.bq, .bool x.al, .slice x.pm x.ms.length x.cm].toArray] [H1] (fun v Hs => v = .bool (decide (InR x.it 1 m.is.length) && decide (kdOf m x.it = 0)) ∧ Hs = [H1]) := by
  refine Ct.body Tryz.func166 rfl Tryz.ntmps166 rfl ?_
  intro E F
  have hMis := hM.is
  have hmi := hM.is.len_le
  simp only [List.length_map, maxLen] at hmi
  refine q_sr ?_
  refine q_bx 102 fun b2 => ?_
  refine q_bx 103 fun b3 => ?_
  refine q_an ?_
  refine q_sr (q_q (q_lw 102 u29 sz29) (q_q (q_fa fo97_1) (q_q (q_l 103 u3) ?_)))
  refine q_e (q_c ent167 [1] [1] (item_ct m H1 hM x.it)) ?_
  rintro _ _ ⟨_, ⟨rfl, rfl⟩, rfl⟩
  refine q_q q_mv ?_
  refine' q_and 9 19 10 [0, 1, 2, 3, 4, 5, 6, 7, 8] [0, 1, 102, 103] ?_ ?_ ?_
  rotate_left 1
  ·
   intro hg9
   obtain ⟨hi1, hi2⟩ := of_decide_eq_true hg9
   obtain ⟨y, hy, hky⟩ := kdOf_in ⟨hi1, hi2⟩
   have hly : (m.is.map It.c)[(x.it - 1).toNat]? = some y.c := by rw [List.getElem?_map, hy]; rfl
   refine q_g (q_fa fo29_5) (q_g (q_l 102 u26) (q_g (q_fa fo97_1) (q_g (q_l 103 u3) ?_)))
   refine q_g q_sb ?_
   refine q_g (q_ix u26 sz64) (q_g (q_fa fo64_1) ?_)
   refine q_g (Yld.eq (v' := .int .i64 (kdOf m x.it)) (by first | exact q_rF 1 1 u3 | exact q_rF 103 1 u3 | exact q_rF 102 1 u3) (by rw [hky])) ?_
   refine q_g (q_b BinV.eql) (q_q Yld.pk ?_)
   exact q_m
  ·
   intro hg9
   repeat refine q_gs ?_
   refine q_q Yld.pk ?_
   exact q_m
  refine q_an ?_
  refine q_k [4] [0, 1, 102, 103] ?_
  refine W.ret ?_
  exact q_r [1] (.cons (.tmp rfl) .nil) rfl rfl rfl ⟨rfl, rfl⟩
set_option maxRecDepth 100000 in
set_option maxHeartbeats 400000 in
theorem ron0_ct (x : Rl) : Ct Tryz.prog 168 [.agg [.int .i64 x.kd, .int .i64 x.it, .int .i64 x.ot, .int .i64 x.n, .int .i64 x.bq, .bool x.al, .slice x.pm x.ms.length x.cm].toArray] [] (fun v Hs => v = .agg (Rl.c ⟨0, x.it, 0, 0, 0, false, none, [], 0⟩).toArray ∧ Hs = []) := by
  refine Ct.body Tryz.func168 rfl Tryz.ntmps168 rfl ?_
  intro E F
  refine q_sr ?_
  refine q_bx 101 fun b1 => ?_
  refine q_al 102 zc97 fun b2 => ?_
  refine q_nn (q_sr (q_q (q_fa fo97_1) (q_q (q_l 101 u3) ?_)))
  refine q_q (Yld.buildP lay97 (.cons rfl rfl .nil) rfl) (q_s 102 sz97 ?_)
  refine q_nn (q_k [2] [0, 101, 102] ?_)
  refine W.ret ?_
  exact q_r [] (.cons (q_rc 102 u97 sz97) .nil) rfl rfl rfl ⟨rfl, rfl⟩
set_option maxRecDepth 100000 in
set_option maxHeartbeats 400000 in
theorem rok1_ct (m : Md) (H1 : PH) (hM : m.In H1) (x : Rl) (hms : Sl H1 x.pm x.cm 1 (iz x.ms)) : Ct Tryz.prog 169 [.agg [.slice m.psi m.si.length m.csi, .slice m.pfe m.fe.length m.cfe, .slice m.prk m.rk.length m.crk, .slice m.pmc m.mc.length m.cmc, .slice m.pln m.ln.length m.cln, .slice m.pis m.is.length m.cis, .int .i64 m.da, .int .i64 m.sl, .int .i64 m.re, .int .i64 m.fa, .slice m.prl m.rl.length m.crl].toArray, .agg [.int .i64 x.kd, .int .i64 x.it, .int .i64 x.ot, .int .i64 x.n, .int .i64 x.bq, .bool x.al, .slice x.pm x.ms.length x.cm].toArray] [H1] (fun v Hs => v = .bool (decide (InR x.it 1 m.is.length) && decide (InR x.n 0 16)) ∧ Hs = [H1]) := by
  refine Ct.body Tryz.func169 rfl Tryz.ntmps169 rfl ?_
  intro E F
  have hMis := hM.is
  have hmi := hM.is.len_le
  simp only [List.length_map, maxLen] at hmi
  refine q_sr ?_
  refine q_bx 102 fun b2 => ?_
  refine q_bx 103 fun b3 => ?_
  refine q_an ?_
  refine q_sr (q_q (q_lw 102 u29 sz29) (q_q (q_fa fo97_1) (q_q (q_l 103 u3) ?_)))
  refine q_e (q_c ent167 [1] [1] (item_ct m H1 hM x.it)) ?_
  rintro _ _ ⟨_, ⟨rfl, rfl⟩, rfl⟩
  refine q_q q_mv ?_
  refine' q_and 9 13 4 [0, 1, 2, 3, 4, 5, 6, 7, 8] [0, 1, 102, 103] ?_ ?_ ?_
  rotate_left 1
  ·
   intro hg9
   refine q_g (q_fa fo97_3) (q_g (q_l 103 u3) ?_)
   refine RL.ge rfl rfl (q_c ent67 [] [] (within_ct x.n 0 16)) rfl ?_
   rintro _ _ ⟨_, ⟨rfl, rfl⟩, rfl⟩
   refine q_q Yld.pk ?_
   exact q_m
  ·
   intro hg9
   repeat refine q_gs ?_
   refine q_q Yld.pk ?_
   exact q_m
  refine q_an ?_
  refine q_k [4] [0, 1, 102, 103] ?_
  refine W.ret ?_
  exact q_r [1] (.cons (.tmp rfl) .nil) rfl rfl rfl ⟨rfl, rfl⟩
set_option maxRecDepth 100000 in
set_option maxHeartbeats 400000 in
theorem ron1_ct (x : Rl) : Ct Tryz.prog 170 [.agg [.int .i64 x.kd, .int .i64 x.it, .int .i64 x.ot, .int .i64 x.n, .int .i64 x.bq, .bool x.al, .slice x.pm x.ms.length x.cm].toArray] [] (fun v Hs => v = .agg (Rl.c ⟨0, x.it, 0, x.n, 0, x.al, none, [], 0⟩).toArray ∧ Hs = []) := by
  refine Ct.body Tryz.func170 rfl Tryz.ntmps170 rfl ?_
  intro E F
  refine q_sr ?_
  refine q_bx 101 fun b1 => ?_
  refine q_al 102 zc97 fun b2 => ?_
  refine q_nn (q_sr (q_q (q_fa fo97_1) (q_q (q_l 101 u3) (q_q (q_fa fo97_3) (q_q (q_l 101 u3) (q_q (q_fa fo97_5) (q_q (q_l 101 u4) ?_)))))))
  refine q_q (Yld.buildP lay97 (.cons rfl rfl (.cons rfl rfl (.cons rfl rfl .nil))) rfl) (q_s 102 sz97 ?_)
  refine q_nn (q_k [2] [0, 101, 102] ?_)
  refine W.ret ?_
  exact q_r [] (.cons (q_rc 102 u97 sz97) .nil) rfl rfl rfl ⟨rfl, rfl⟩
set_option maxRecDepth 100000 in
set_option maxHeartbeats 400000 in
theorem rok2_ct (m : Md) (H1 : PH) (hM : m.In H1) (x : Rl) (hms : Sl H1 x.pm x.cm 1 (iz x.ms)) : Ct Tryz.prog 171 [.agg [.slice m.psi m.si.length m.csi, .slice m.pfe m.fe.length m.cfe, .slice m.prk m.rk.length m.crk, .slice m.pmc m.mc.length m.cmc, .slice m.pln m.ln.length m.cln, .slice m.pis m.is.length m.cis, .int .i64 m.da, .int .i64 m.sl, .int .i64 m.re, .int .i64 m.fa, .slice m.prl m.rl.length m.crl].toArray, .agg [.int .i64 x.kd, .int .i64 x.it, .int .i64 x.ot, .int .i64 x.n, .int .i64 x.bq, .bool x.al, .slice x.pm x.ms.length x.cm].toArray] [H1] (fun v Hs => v = .bool (decide (InR x.it 1 m.is.length) && decide (InR x.n 0 16) && decide (x.bq ∈ [(2 : Int), 3, 4])) ∧ Hs = [H1]) := by
  refine Ct.body Tryz.func171 rfl Tryz.ntmps171 rfl ?_
  intro E F
  have hMis := hM.is
  have hmi := hM.is.len_le
  simp only [List.length_map, maxLen] at hmi
  refine q_sr ?_
  refine q_bx 102 fun b2 => ?_
  refine q_bx 103 fun b3 => ?_
  refine q_an ?_
  refine q_sr (q_q (q_lw 102 u29 sz29) (q_q (q_fa fo97_1) (q_q (q_l 103 u3) ?_)))
  refine q_e (q_c ent167 [1] [1] (item_ct m H1 hM x.it)) ?_
  rintro _ _ ⟨_, ⟨rfl, rfl⟩, rfl⟩
  refine q_q q_mv ?_
  refine' q_and 9 13 4 [0, 1, 2, 3, 4, 5, 6, 7, 8] [0, 1, 102, 103] ?_ ?_ ?_
  rotate_left 1
  ·
   intro hg9
   refine q_g (q_fa fo97_3) (q_g (q_l 103 u3) ?_)
   refine RL.ge rfl rfl (q_c ent67 [] [] (within_ct x.n 0 16)) rfl ?_
   rintro _ _ ⟨_, ⟨rfl, rfl⟩, rfl⟩
   refine q_q Yld.pk ?_
   exact q_m
  ·
   intro hg9
   repeat refine q_gs ?_
   refine q_q Yld.pk ?_
   exact q_m
  refine q_q q_mv ?_
  refine' q_and 14 19 5 [0, 1, 2, 3, 4, 5, 6, 7, 8, 13] [0, 1, 102, 103] ?_ ?_ ?_
  rotate_left 1
  ·
   intro hg14
   refine RL.ge rfl rfl (Eff.buildSlice 115 u55 sz3 zc3 rfl rfl (.cons rfl rfl (.cons rfl rfl (.cons rfl rfl .nil))) rfl) rfl ?_
   rintro _ _ ⟨b15, rfl, rfl⟩
   refine q_g (q_fa fo97_4) (q_g (q_l 103 u3) ?_)
   refine RL.ge rfl rfl (Eff.call ent35 [115] [115] (.cons rfl (.cons rfl .nil)) (contains_ct [2, 3, 4] _ _ _ (Own.mk (e := 3) (n := 1) (c := 3) [] (by simp [iz, Value.oneCell']) (by simp) (by simp [maxLen]) (by rfl) (by rfl)).sl x.bq) rfl rfl rfl rfl (by rintro _ _ ⟨_, rfl⟩; rfl)) rfl ?_
   rintro _ _ ⟨_, ⟨rfl, rfl⟩, rfl⟩
   refine q_q Yld.pk ?_
   exact q_m
  ·
   intro hg14
   repeat refine q_gs ?_
   refine q_q Yld.pk ?_
   exact q_m
  refine q_an ?_
  refine q_k [4] [0, 1, 102, 103] ?_
  refine W.ret ?_
  exact q_r [1] (.cons (.tmp rfl) .nil) rfl rfl rfl ⟨rfl, rfl⟩
set_option maxRecDepth 100000 in
set_option maxHeartbeats 400000 in
theorem ron2_ct (x : Rl) : Ct Tryz.prog 172 [.agg [.int .i64 x.kd, .int .i64 x.it, .int .i64 x.ot, .int .i64 x.n, .int .i64 x.bq, .bool x.al, .slice x.pm x.ms.length x.cm].toArray] [] (fun v Hs => v = .agg (Rl.c ⟨0, x.it, 0, x.n, x.bq, false, none, [], 0⟩).toArray ∧ Hs = []) := by
  refine Ct.body Tryz.func172 rfl Tryz.ntmps172 rfl ?_
  intro E F
  refine q_sr ?_
  refine q_bx 101 fun b1 => ?_
  refine q_al 102 zc97 fun b2 => ?_
  refine q_nn (q_sr (q_q (q_fa fo97_1) (q_q (q_l 101 u3) (q_q (q_fa fo97_3) (q_q (q_l 101 u3) (q_q (q_fa fo97_4) (q_q (q_l 101 u3) ?_)))))))
  refine q_q (Yld.buildP lay97 (.cons rfl rfl (.cons rfl rfl (.cons rfl rfl .nil))) rfl) (q_s 102 sz97 ?_)
  refine q_nn (q_k [2] [0, 101, 102] ?_)
  refine W.ret ?_
  exact q_r [] (.cons (q_rc 102 u97 sz97) .nil) rfl rfl rfl ⟨rfl, rfl⟩
set_option maxRecDepth 100000 in
set_option maxHeartbeats 400000 in
theorem rok3_ct (m : Md) (H1 : PH) (hM : m.In H1) (x : Rl) (hms : Sl H1 x.pm x.cm 1 (iz x.ms)) : Ct Tryz.prog 173 [.agg [.slice m.psi m.si.length m.csi, .slice m.pfe m.fe.length m.cfe, .slice m.prk m.rk.length m.crk, .slice m.pmc m.mc.length m.cmc, .slice m.pln m.ln.length m.cln, .slice m.pis m.is.length m.cis, .int .i64 m.da, .int .i64 m.sl, .int .i64 m.re, .int .i64 m.fa, .slice m.prl m.rl.length m.crl].toArray, .agg [.int .i64 x.kd, .int .i64 x.it, .int .i64 x.ot, .int .i64 x.n, .int .i64 x.bq, .bool x.al, .slice x.pm x.ms.length x.cm].toArray] [H1] (fun v Hs => v = .bool (decide (InR x.it 1 m.is.length) && pB (MsV m.mc.length x.ms)) ∧ Hs = [H1]) := by
  refine Ct.body Tryz.func173 rfl Tryz.ntmps173 rfl ?_
  intro E F
  have hMis := hM.is
  have hmi := hM.is.len_le
  simp only [List.length_map, maxLen] at hmi
  refine q_sr ?_
  refine q_bx 102 fun b2 => ?_
  refine q_bx 103 fun b3 => ?_
  refine q_an ?_
  refine q_sr (q_q (q_lw 102 u29 sz29) (q_q (q_fa fo97_1) (q_q (q_l 103 u3) ?_)))
  refine q_e (q_c ent167 [1] [1] (item_ct m H1 hM x.it)) ?_
  rintro _ _ ⟨_, ⟨rfl, rfl⟩, rfl⟩
  refine q_q q_mv ?_
  refine' q_and 9 14 5 [0, 1, 2, 3, 4, 5, 6, 7, 8] [0, 1, 102, 103] ?_ ?_ ?_
  rotate_left 1
  ·
   intro hg9
   refine q_g (q_lw 102 u29 sz29) (q_g (q_fa fo97_6) (q_g (q_l 103 u55) ?_))
   refine RL.ge rfl rfl (q_c ent127 [1] [1] (machines_ct m H1 hM x.ms _ _ hms)) rfl ?_
   rintro _ _ ⟨_, ⟨rfl, rfl⟩, rfl⟩
   refine q_q Yld.pk ?_
   exact q_m
  ·
   intro hg9
   repeat refine q_gs ?_
   refine q_q Yld.pk ?_
   exact q_m
  refine q_an ?_
  refine q_k [4] [0, 1, 102, 103] ?_
  refine W.ret ?_
  exact q_r [1] (.cons (.tmp rfl) .nil) rfl rfl rfl ⟨rfl, rfl⟩
set_option maxRecDepth 100000 in
set_option maxHeartbeats 400000 in
theorem ron3_ct (x : Rl) : Ct Tryz.prog 174 [.agg [.int .i64 x.kd, .int .i64 x.it, .int .i64 x.ot, .int .i64 x.n, .int .i64 x.bq, .bool x.al, .slice x.pm x.ms.length x.cm].toArray] [] (fun v Hs => v = .agg (Rl.c ⟨0, x.it, 0, 0, 0, false, x.pm, x.ms, x.cm⟩).toArray ∧ Hs = []) := by
  refine Ct.body Tryz.func174 rfl Tryz.ntmps174 rfl ?_
  intro E F
  refine q_sr ?_
  refine q_bx 101 fun b1 => ?_
  refine q_al 102 zc97 fun b2 => ?_
  refine q_nn (q_sr (q_q (q_fa fo97_1) (q_q (q_l 101 u3) (q_q (q_fa fo97_6) (q_q (q_l 101 u55) ?_)))))
  refine q_q (Yld.buildP lay97 (.cons rfl rfl (.cons rfl rfl .nil)) rfl) (q_s 102 sz97 ?_)
  refine q_nn (q_k [2] [0, 101, 102] ?_)
  refine W.ret ?_
  exact q_r [] (.cons (q_rc 102 u97 sz97) .nil) rfl rfl rfl ⟨rfl, rfl⟩
set_option maxRecDepth 100000 in
set_option maxHeartbeats 400000 in
theorem rok4_ct (m : Md) (H1 : PH) (hM : m.In H1) (x : Rl) (hms : Sl H1 x.pm x.cm 1 (iz x.ms)) : Ct Tryz.prog 175 [.agg [.slice m.psi m.si.length m.csi, .slice m.pfe m.fe.length m.cfe, .slice m.prk m.rk.length m.crk, .slice m.pmc m.mc.length m.cmc, .slice m.pln m.ln.length m.cln, .slice m.pis m.is.length m.cis, .int .i64 m.da, .int .i64 m.sl, .int .i64 m.re, .int .i64 m.fa, .slice m.prl m.rl.length m.crl].toArray, .agg [.int .i64 x.kd, .int .i64 x.it, .int .i64 x.ot, .int .i64 x.n, .int .i64 x.bq, .bool x.al, .slice x.pm x.ms.length x.cm].toArray] [H1] (fun v Hs => v = .bool (decide (InR x.it 1 m.is.length) && decide (InR x.ot 1 m.is.length) && decide (x.it ≠ x.ot)) ∧ Hs = [H1]) := by
  refine Ct.body Tryz.func175 rfl Tryz.ntmps175 rfl ?_
  intro E F
  have hMis := hM.is
  have hmi := hM.is.len_le
  simp only [List.length_map, maxLen] at hmi
  refine q_sr ?_
  refine q_bx 102 fun b2 => ?_
  refine q_bx 103 fun b3 => ?_
  refine q_an ?_
  refine q_sr (q_q (q_lw 102 u29 sz29) (q_q (q_fa fo97_1) (q_q (q_l 103 u3) ?_)))
  refine q_e (q_c ent167 [1] [1] (item_ct m H1 hM x.it)) ?_
  rintro _ _ ⟨_, ⟨rfl, rfl⟩, rfl⟩
  refine q_q q_mv ?_
  refine' q_and 9 14 5 [0, 1, 2, 3, 4, 5, 6, 7, 8] [0, 1, 102, 103] ?_ ?_ ?_
  rotate_left 1
  ·
   intro hg9
   refine q_g (q_lw 102 u29 sz29) (q_g (q_fa fo97_2) (q_g (q_l 103 u3) ?_))
   refine RL.ge rfl rfl (q_c ent167 [1] [1] (item_ct m H1 hM x.ot)) rfl ?_
   rintro _ _ ⟨_, ⟨rfl, rfl⟩, rfl⟩
   refine q_q Yld.pk ?_
   exact q_m
  ·
   intro hg9
   repeat refine q_gs ?_
   refine q_q Yld.pk ?_
   exact q_m
  refine q_q q_mv ?_
  refine' q_and 15 21 6 [0, 1, 2, 3, 4, 5, 6, 7, 8, 14] [0, 1, 102, 103] ?_ ?_ ?_
  rotate_left 1
  ·
   intro hg15
   refine q_g (q_fa fo97_1) (q_g (q_l 103 u3) (q_g (q_fa fo97_2) (q_g (q_l 103 u3) (q_g (q_b BinV.neq) (q_q Yld.pk ?_)))))
   exact q_m
  ·
   intro hg15
   repeat refine q_gs ?_
   refine q_q Yld.pk ?_
   exact q_m
  refine q_an ?_
  refine q_k [4] [0, 1, 102, 103] ?_
  refine W.ret ?_
  exact q_r [1] (.cons (.tmp rfl) .nil) rfl rfl rfl ⟨rfl, rfl⟩
set_option maxRecDepth 100000 in
set_option maxHeartbeats 400000 in
theorem ron4_ct (x : Rl) : Ct Tryz.prog 176 [.agg [.int .i64 x.kd, .int .i64 x.it, .int .i64 x.ot, .int .i64 x.n, .int .i64 x.bq, .bool x.al, .slice x.pm x.ms.length x.cm].toArray] [] (fun v Hs => v = .agg (Rl.c ⟨0, x.it, x.ot, 0, 0, false, none, [], 0⟩).toArray ∧ Hs = []) := by
  refine Ct.body Tryz.func176 rfl Tryz.ntmps176 rfl ?_
  intro E F
  refine q_sr ?_
  refine q_bx 101 fun b1 => ?_
  refine q_al 102 zc97 fun b2 => ?_
  refine q_nn (q_sr (q_q (q_fa fo97_1) (q_q (q_l 101 u3) (q_q (q_fa fo97_2) (q_q (q_l 101 u3) ?_)))))
  refine q_q (Yld.buildP lay97 (.cons rfl rfl (.cons rfl rfl .nil)) rfl) (q_s 102 sz97 ?_)
  refine q_nn (q_k [2] [0, 101, 102] ?_)
  refine W.ret ?_
  exact q_r [] (.cons (q_rc 102 u97 sz97) .nil) rfl rfl rfl ⟨rfl, rfl⟩
set_option maxRecDepth 100000 in
set_option maxHeartbeats 400000 in
theorem rok5_ct (m : Md) (H1 : PH) (hM : m.In H1) (x : Rl) (hms : Sl H1 x.pm x.cm 1 (iz x.ms)) : Ct Tryz.prog 177 [.agg [.slice m.psi m.si.length m.csi, .slice m.pfe m.fe.length m.cfe, .slice m.prk m.rk.length m.crk, .slice m.pmc m.mc.length m.cmc, .slice m.pln m.ln.length m.cln, .slice m.pis m.is.length m.cis, .int .i64 m.da, .int .i64 m.sl, .int .i64 m.re, .int .i64 m.fa, .slice m.prl m.rl.length m.crl].toArray, .agg [.int .i64 x.kd, .int .i64 x.it, .int .i64 x.ot, .int .i64 x.n, .int .i64 x.bq, .bool x.al, .slice x.pm x.ms.length x.cm].toArray] [H1] (fun v Hs => v = .bool (decide (InR x.n 0 200)) ∧ Hs = [H1]) := by
  refine Ct.body Tryz.func177 rfl Tryz.ntmps177 rfl ?_
  intro E F
  have hMis := hM.is
  have hmi := hM.is.len_le
  simp only [List.length_map, maxLen] at hmi
  refine q_sr ?_
  refine q_bx 102 fun b2 => ?_
  refine q_bx 103 fun b3 => ?_
  refine q_an ?_
  refine q_k [3] [0, 1, 102, 103] ?_
  refine q_sr (q_q (q_fa fo97_3) (q_q (q_l 103 u3) ?_))
  refine q_e (q_c ent67 [] [] (within_ct x.n 0 200)) ?_
  rintro _ _ ⟨_, ⟨rfl, rfl⟩, rfl⟩
  refine q_an ?_
  refine q_k [4] [0, 1, 102, 103] ?_
  refine W.ret ?_
  exact q_r [1] (.cons (.tmp rfl) .nil) rfl rfl rfl ⟨rfl, rfl⟩
set_option maxRecDepth 100000 in
set_option maxHeartbeats 400000 in
theorem ron5_ct (x : Rl) : Ct Tryz.prog 178 [.agg [.int .i64 x.kd, .int .i64 x.it, .int .i64 x.ot, .int .i64 x.n, .int .i64 x.bq, .bool x.al, .slice x.pm x.ms.length x.cm].toArray] [] (fun v Hs => v = .agg (Rl.c ⟨0, 0, 0, x.n, 0, false, none, [], 0⟩).toArray ∧ Hs = []) := by
  refine Ct.body Tryz.func178 rfl Tryz.ntmps178 rfl ?_
  intro E F
  refine q_sr ?_
  refine q_bx 101 fun b1 => ?_
  refine q_al 102 zc97 fun b2 => ?_
  refine q_nn (q_sr (q_q (q_fa fo97_3) (q_q (q_l 101 u3) ?_)))
  refine q_q (Yld.buildP lay97 (.cons rfl rfl .nil) rfl) (q_s 102 sz97 ?_)
  refine q_nn (q_k [2] [0, 101, 102] ?_)
  refine W.ret ?_
  exact q_r [] (.cons (q_rc 102 u97 sz97) .nil) rfl rfl rfl ⟨rfl, rfl⟩
set_option maxRecDepth 100000 in
set_option maxHeartbeats 400000 in
theorem rok6_ct (m : Md) (H1 : PH) (hM : m.In H1) (x : Rl) (hms : Sl H1 x.pm x.cm 1 (iz x.ms)) : Ct Tryz.prog 179 [.agg [.slice m.psi m.si.length m.csi, .slice m.pfe m.fe.length m.cfe, .slice m.prk m.rk.length m.crk, .slice m.pmc m.mc.length m.cmc, .slice m.pln m.ln.length m.cln, .slice m.pis m.is.length m.cis, .int .i64 m.da, .int .i64 m.sl, .int .i64 m.re, .int .i64 m.fa, .slice m.prl m.rl.length m.crl].toArray, .agg [.int .i64 x.kd, .int .i64 x.it, .int .i64 x.ot, .int .i64 x.n, .int .i64 x.bq, .bool x.al, .slice x.pm x.ms.length x.cm].toArray] [H1] (fun v Hs => v = .bool (decide (InR x.it 1 m.is.length) && decide (InR x.n 0 16)) ∧ Hs = [H1]) := by
  refine Ct.body Tryz.func179 rfl Tryz.ntmps179 rfl ?_
  intro E F
  have hMis := hM.is
  have hmi := hM.is.len_le
  simp only [List.length_map, maxLen] at hmi
  refine q_sr ?_
  refine q_bx 102 fun b2 => ?_
  refine q_bx 103 fun b3 => ?_
  refine q_an ?_
  refine q_sr (q_q (q_lw 102 u29 sz29) (q_q (q_fa fo97_1) (q_q (q_l 103 u3) ?_)))
  refine q_e (q_c ent167 [1] [1] (item_ct m H1 hM x.it)) ?_
  rintro _ _ ⟨_, ⟨rfl, rfl⟩, rfl⟩
  refine q_q q_mv ?_
  refine' q_and 9 13 4 [0, 1, 2, 3, 4, 5, 6, 7, 8] [0, 1, 102, 103] ?_ ?_ ?_
  rotate_left 1
  ·
   intro hg9
   refine q_g (q_fa fo97_3) (q_g (q_l 103 u3) ?_)
   refine RL.ge rfl rfl (q_c ent67 [] [] (within_ct x.n 0 16)) rfl ?_
   rintro _ _ ⟨_, ⟨rfl, rfl⟩, rfl⟩
   refine q_q Yld.pk ?_
   exact q_m
  ·
   intro hg9
   repeat refine q_gs ?_
   refine q_q Yld.pk ?_
   exact q_m
  refine q_an ?_
  refine q_k [4] [0, 1, 102, 103] ?_
  refine W.ret ?_
  exact q_r [1] (.cons (.tmp rfl) .nil) rfl rfl rfl ⟨rfl, rfl⟩
set_option maxRecDepth 100000 in
set_option maxHeartbeats 400000 in
theorem ron6_ct (x : Rl) : Ct Tryz.prog 180 [.agg [.int .i64 x.kd, .int .i64 x.it, .int .i64 x.ot, .int .i64 x.n, .int .i64 x.bq, .bool x.al, .slice x.pm x.ms.length x.cm].toArray] [] (fun v Hs => v = .agg (Rl.c ⟨0, x.it, 0, x.n, 0, false, none, [], 0⟩).toArray ∧ Hs = []) := by
  refine Ct.body Tryz.func180 rfl Tryz.ntmps180 rfl ?_
  intro E F
  refine q_sr ?_
  refine q_bx 101 fun b1 => ?_
  refine q_al 102 zc97 fun b2 => ?_
  refine q_nn (q_sr (q_q (q_fa fo97_1) (q_q (q_l 101 u3) (q_q (q_fa fo97_3) (q_q (q_l 101 u3) ?_)))))
  refine q_q (Yld.buildP lay97 (.cons rfl rfl (.cons rfl rfl .nil)) rfl) (q_s 102 sz97 ?_)
  refine q_nn (q_k [2] [0, 101, 102] ?_)
  refine W.ret ?_
  exact q_r [] (.cons (q_rc 102 u97 sz97) .nil) rfl rfl rfl ⟨rfl, rfl⟩
set_option maxRecDepth 100000 in
set_option maxHeartbeats 800000 in
theorem sameR_ct (x y : Rl) (H1 : PH) (hx : Sl H1 x.pm x.cm 1 (iz x.ms)) (hy : Sl H1 y.pm y.cm 1 (iz y.ms)) : Ct Tryz.prog 130 [.agg [.int .i64 x.kd, .int .i64 x.it, .int .i64 x.ot, .int .i64 x.n, .int .i64 x.bq, .bool x.al, .slice x.pm x.ms.length x.cm].toArray, .agg [.int .i64 y.kd, .int .i64 y.it, .int .i64 y.ot, .int .i64 y.n, .int .i64 y.bq, .bool y.al, .slice y.pm y.ms.length y.cm].toArray] [H1] (fun v Hs => v = .bool (sameV x y) ∧ Hs = [H1]) := by
  refine Ct.body Tryz.func130 rfl Tryz.ntmps130 rfl ?_
  intro E F
  refine q_sr ?_
  refine q_bx 102 fun b2 => ?_
  refine q_bx 103 fun b3 => ?_
  refine q_an ?_
  refine q_sr (q_q (q_fa fo97_1) (q_q (q_l 102 u3) (q_q (q_fa fo97_1) (q_q (q_l 103 u3) (q_q (q_b BinV.eql) (q_q q_mv ?_))))))
  refine' q_and 10 16 6 [0, 1, 2, 3, 4, 5, 6, 7, 8, 9] [0, 1, 102, 103] ?_ ?_ ?_
  rotate_left 1
  ·
   intro hg10
   refine q_g (q_fa fo97_2) (q_g (q_l 102 u3) (q_g (q_fa fo97_2) (q_g (q_l 103 u3) (q_g (q_b BinV.eql) (q_q Yld.pk ?_)))))
   exact q_m
  ·
   intro hg10
   repeat refine q_gs ?_
   refine q_q Yld.pk ?_
   exact q_m
  refine q_q q_mv ?_
  refine' q_and 17 23 6 [0, 1, 2, 3, 4, 5, 6, 7, 8, 9, 16] [0, 1, 102, 103] ?_ ?_ ?_
  rotate_left 1
  ·
   intro hg17
   refine q_g (q_fa fo97_3) (q_g (q_l 102 u3) (q_g (q_fa fo97_3) (q_g (q_l 103 u3) (q_g (q_b BinV.eql) (q_q Yld.pk ?_)))))
   exact q_m
  ·
   intro hg17
   repeat refine q_gs ?_
   refine q_q Yld.pk ?_
   exact q_m
  refine q_q q_mv ?_
  refine' q_and 24 30 6 [0, 1, 2, 3, 4, 5, 6, 7, 8, 9, 16, 23] [0, 1, 102, 103] ?_ ?_ ?_
  rotate_left 1
  ·
   intro hg24
   refine q_g (q_fa fo97_4) (q_g (q_l 102 u3) (q_g (q_fa fo97_4) (q_g (q_l 103 u3) (q_g (q_b BinV.eql) (q_q Yld.pk ?_)))))
   exact q_m
  ·
   intro hg24
   repeat refine q_gs ?_
   refine q_q Yld.pk ?_
   exact q_m
  refine q_q q_mv ?_
  refine' q_and 31 37 6 [0, 1, 2, 3, 4, 5, 6, 7, 8, 9, 16, 23, 30] [0, 1, 102, 103] ?_ ?_ ?_
  rotate_left 1
  ·
   intro hg31
   refine q_g (q_fa fo97_5) (q_g (q_l 102 u4) (q_g (q_fa fo97_5) (q_g (q_l 103 u4) ?_)))
   refine q_g (Yld.bin rfl rfl (BinV.eqlB u4)) (q_q Yld.pk ?_)
   exact q_m
  ·
   intro hg31
   repeat refine q_gs ?_
   refine q_q Yld.pk ?_
   exact q_m
  refine q_q q_mv ?_
  refine' q_and 38 44 6 [0, 1, 2, 3, 4, 5, 6, 7, 8, 9, 16, 23, 30, 37] [0, 1, 102, 103] ?_ ?_ ?_
  rotate_left 1
  ·
   intro hg38
   refine q_g (q_fa fo97_6) (q_g (q_l 102 u55) (q_g (q_fa fo97_6) (q_g (q_l 103 u55) ?_)))
   refine RL.ge rfl rfl (q_c ent181 [1] [1] (equalI_ct x.ms y.ms _ _ _ _ _ hx hy)) rfl ?_
   rintro _ _ ⟨_, ⟨rfl, rfl⟩, rfl⟩
   refine q_q Yld.pk ?_
   exact q_m
  ·
   intro hg38
   repeat refine q_gs ?_
   refine q_q Yld.pk ?_
   exact q_m
  refine q_an ?_
  refine q_k [4] [0, 1, 102, 103] ?_
  refine W.ret ?_
  exact q_r [1] (.cons (.tmp rfl) .nil) rfl rfl rfl ⟨by first | rfl | (show Value.bool _ = Value.bool _; congr 1; rw [Bool.eq_iff_iff]; unfold sameV; simp), rfl⟩
def Cat.formsM : List (Int × Value) := (mset (mset (mset (mset (mset (mset (mset ([] : List (Int × Value)) 0 (.agg [.func (.func 166) [].toArray [].toArray, .func (.func 168) [].toArray [].toArray].toArray)) 1 (.agg [.func (.func 169) [].toArray [].toArray, .func (.func 170) [].toArray [].toArray].toArray)) 2 (.agg [.func (.func 171) [].toArray [].toArray, .func (.func 172) [].toArray [].toArray].toArray)) 3 (.agg [.func (.func 173) [].toArray [].toArray, .func (.func 174) [].toArray [].toArray].toArray)) 4 (.agg [.func (.func 175) [].toArray [].toArray, .func (.func 176) [].toArray [].toArray].toArray)) 5 (.agg [.func (.func 177) [].toArray [].toArray, .func (.func 178) [].toArray [].toArray].toArray)) 6 (.agg [.func (.func 179) [].toArray [].toArray, .func (.func 180) [].toArray [].toArray].toArray))
theorem sl_nil1 (H : PH) : Sl H none 0 1 (iz []) := (Own.nil 3 1).sl.mono (fun _ _ h => nomatch h)
set_option maxRecDepth 100000 in
set_option maxHeartbeats 1600000 in
theorem forms_ct  : Ct Tryz.prog 129 [] [] (fun v Hs => ∃ b es ck, v = .map (some b) ∧ MapP (fun a : Int => Value.int .i64 a) es ck formsM ∧ Hs = [single b (.map es ck)]) := by
  refine Ct.body Tryz.func129 rfl Tryz.ntmps129 rfl ?_
  intro E F
  have hM0 : MapP (fun a : Int => Value.int .i64 a) #[] 0 [] := MapP.empty _
  refine q_sr (q_an ?_)
  refine q_sr ?_
  refine q_e (Eff.makeMap 101) ?_
  rintro _ _ ⟨b1, rfl, rfl⟩
  refine q_q (Yld.buildP lay176 (.cons rfl rfl (.cons rfl rfl .nil)) rfl) ?_
  refine RL.e0 (Eff.insert (c := 101) u178 (keyInt u3) rfl rfl rfl rfl (by assumption)) ?_
  rintro _ _ ⟨es1, ck1, hM1, rfl⟩
  refine q_q (Yld.buildP lay176 (.cons rfl rfl (.cons rfl rfl .nil)) rfl) ?_
  refine RL.e0 (Eff.insert (c := 101) u178 (keyInt u3) rfl rfl rfl rfl (by assumption)) ?_
  rintro _ _ ⟨es2, ck2, hM2, rfl⟩
  refine q_q (Yld.buildP lay176 (.cons rfl rfl (.cons rfl rfl .nil)) rfl) ?_
  refine RL.e0 (Eff.insert (c := 101) u178 (keyInt u3) rfl rfl rfl rfl (by assumption)) ?_
  rintro _ _ ⟨es3, ck3, hM3, rfl⟩
  refine q_q (Yld.buildP lay176 (.cons rfl rfl (.cons rfl rfl .nil)) rfl) ?_
  refine RL.e0 (Eff.insert (c := 101) u178 (keyInt u3) rfl rfl rfl rfl (by assumption)) ?_
  rintro _ _ ⟨es4, ck4, hM4, rfl⟩
  refine q_q (Yld.buildP lay176 (.cons rfl rfl (.cons rfl rfl .nil)) rfl) ?_
  refine RL.e0 (Eff.insert (c := 101) u178 (keyInt u3) rfl rfl rfl rfl (by assumption)) ?_
  rintro _ _ ⟨es5, ck5, hM5, rfl⟩
  refine q_q (Yld.buildP lay176 (.cons rfl rfl (.cons rfl rfl .nil)) rfl) ?_
  refine RL.e0 (Eff.insert (c := 101) u178 (keyInt u3) rfl rfl rfl rfl (by assumption)) ?_
  rintro _ _ ⟨es6, ck6, hM6, rfl⟩
  refine q_q (Yld.buildP lay176 (.cons rfl rfl (.cons rfl rfl .nil)) rfl) ?_
  refine RL.e0 (Eff.insert (c := 101) u178 (keyInt u3) rfl rfl rfl rfl (by assumption)) ?_
  rintro _ _ ⟨es7, ck7, hM7, rfl⟩
  refine q_q q_mv (q_an ?_)
  refine q_k [0] [0, 101] ?_
  refine W.ret ?_
  exact q_r [101] (.cons (.tmp rfl) .nil) rfl rfl rfl ⟨_, _, _, rfl, (by assumption), rfl⟩
end Go.Proofs.YtboapdcmaeojgaaGreatDoor
namespace Go.Proofs.YtboapdcmaeojgaaGreatDoor
open SL Cat
set_option linter.unusedVariables false
set_option linter.unusedSimpArgs false
theorem fo97_0 : fieldOff Tryz.prog 97 0 = some 0 := by kernel_rfl
theorem ent129 : Ent Tryz.prog 129 := ⟨_, _, Tryz.func129, by kernel_rfl, rfl⟩
theorem zv176 : zv Tryz.prog 176 (.agg #[.nilFunc, .nilFunc]) := (by kernel_rfl : (Tryz.prog.info? 176).bind (·.zero) = some (.agg #[.nilFunc, .nilFunc]))
theorem zc176 : zc Tryz.prog 176 [.nilFunc, .nilFunc] := (by kernel_rfl : ((Tryz.prog.info? 176).bind (·.zero)).map (fun v => v.cells.toList) = some [.nilFunc, .nilFunc])
theorem sz176 : sz Tryz.prog 176 2 := (by kernel_rfl : (Tryz.prog.info? 176).map (·.size) = some 2)
theorem fo176_0 : fieldOff Tryz.prog 176 0 = some 0 := by kernel_rfl
theorem fo176_1 : fieldOff Tryz.prog 176 1 = some 1 := by kernel_rfl
theorem ent130 : Ent Tryz.prog 130 := ⟨_, _, Tryz.func130, by kernel_rfl, rfl⟩
abbrev u99 := @Tryz.underlying99
abbrev u174 := @Tryz.underlying174
set_option maxRecDepth 100000 in
set_option maxHeartbeats 3200000 in
theorem validRuleG_ct (m : Md) (H1 : PH) (hM : m.In H1) (x : Rl) (hms : Sl H1 x.pm x.cm 1 (iz x.ms)) (F1 F2 : Nat) (OK : Bool) (on : Rl) (hent1 : Ent Tryz.prog F1) (hent2 : Ent Tryz.prog F2) (h1 : Ct Tryz.prog F1 [.agg [.slice m.psi m.si.length m.csi, .slice m.pfe m.fe.length m.cfe, .slice m.prk m.rk.length m.crk, .slice m.pmc m.mc.length m.cmc, .slice m.pln m.ln.length m.cln, .slice m.pis m.is.length m.cis, .int .i64 m.da, .int .i64 m.sl, .int .i64 m.re, .int .i64 m.fa, .slice m.prl m.rl.length m.crl].toArray, .agg [.int .i64 x.kd, .int .i64 x.it, .int .i64 x.ot, .int .i64 x.n, .int .i64 x.bq, .bool x.al, .slice x.pm x.ms.length x.cm].toArray] [H1] (fun v Hs => v = .bool OK ∧ Hs = [H1])) (h2 : Ct Tryz.prog F2 [.agg [.int .i64 x.kd, .int .i64 x.it, .int .i64 x.ot, .int .i64 x.n, .int .i64 x.bq, .bool x.al, .slice x.pm x.ms.length x.cm].toArray] [] (fun v Hs => v = .agg on.c.toArray ∧ Hs = [])) (hso : Sl H1 on.pm on.cm 1 (iz on.ms)) (hlk : mget formsM x.kd = some (.agg [.func (.func F1) [].toArray [].toArray, .func (.func F2) [].toArray [].toArray].toArray)) (hrl : rlB m x = (OK && sameV x on)) : Ct Tryz.prog 75 [.agg [.slice m.psi m.si.length m.csi, .slice m.pfe m.fe.length m.cfe, .slice m.prk m.rk.length m.crk, .slice m.pmc m.mc.length m.cmc, .slice m.pln m.ln.length m.cln, .slice m.pis m.is.length m.cis, .int .i64 m.da, .int .i64 m.sl, .int .i64 m.re, .int .i64 m.fa, .slice m.prl m.rl.length m.crl].toArray, .agg [.int .i64 x.kd, .int .i64 x.it, .int .i64 x.ot, .int .i64 x.n, .int .i64 x.bq, .bool x.al, .slice x.pm x.ms.length x.cm].toArray] [H1] (fun v Hs => v = .bool (rlB m x) ∧ Hs = [H1]) := by
  refine Ct.body Tryz.func75 rfl Tryz.ntmps75 rfl ?_
  intro E F
  refine q_sr ?_
  refine q_bx 102 fun b2 => ?_
  refine q_bx 103 fun b3 => ?_
  refine q_an ?_
  refine W.seq ?_
  refine W.draw (.q 1 (.q 2 (.two 0 (.two 3 (.q 4 (.q 5 (.q 6 (.one 7 (.one 8 (.q 9 .done)))))) 7 (.one 3 (.q 4 (.q 5 (.q 6 (.one 8 (.q 9 .done))))))) 7 (.one 0 (.one 3 (.q 4 (.q 5 (.q 6 (.one 8 (.q 9 .done)))))))))) (.of [0, 1, 102, 103] rfl) mix (by kernel_rfl) (by kernel_rfl) (q_d rfl (q_fa fo97_0) (q_d rfl (q_l 103 u3) ?_))
  refine DL.two ?_ ?_
  ·
   refine q_o rfl (q_c ent129 [] [140] forms_ct) ?_
   rintro _ _ ⟨_, ⟨bm, esm, ckm, rfl, hMf, rfl⟩, rfl⟩
   refine DL.two ?_ ?_
   ·
    refine q_o rfl (Yld.eff (Yld.eq (v' := .tuple [.agg [.func (.func F1) [].toArray [].toArray, .func (.func F2) [].toArray [].toArray].toArray, .bool true].toArray) (Yld.lookupOk (c := 140) u178 (keyInt u3) zv176 rfl rfl rfl (by assumption)) (by rw [hlk]; rfl))) ?_
    rintro _ _ ⟨rfl, rfl⟩
    refine q_d rfl q_mv (q_d rfl q_x (q_d rfl q_x ?_))
    refine q_o rfl (Eff.alloc 105 zc176) ?_
    rintro _ _ ⟨b5, rfl, rfl⟩
    refine q_o0 rfl (q_st 105 sz176) ?_
    rintro _ _ rfl
    refine q_d rfl q_as (DL.done (N.next (q_k [2, 3, 5, 6] [0, 1, 102, 103, 105, 140] ?_)))
    refine W.seq ?_
    refine W.draw (.q 0 (.q 1 (.q 2 (.q 3 (.q 4 (.q 5 (.one 6 (.q 7 (.q 8 (.q 9 (.q 10 (.q 11 (.q 12 (.one 13 (.one 14 (.q 15 (.q 16 .done))))))))))))))))) (.of [0, 102, 103, 105, 140] rfl) mix (by kernel_rfl) (by kernel_rfl) (q_d rfl q_mv (q_d rfl q_mv ?_))
    first | refine DL.as (t := 15) rfl (boolT (by first | assumption | omega | (simp; done))) ?_ | refine DL.as (t := 15) (v := .bool true) rfl rfl ?_
    refine DL.gq rfl rfl rfl (q_fa fo176_0) rfl ?_
    refine DL.gq rfl rfl rfl (q_l 105 u99) rfl ?_
    refine DL.gq rfl rfl rfl (q_lw 102 u29 sz29) rfl ?_
    refine DL.gq rfl rfl rfl (q_lw 103 u97 sz97) rfl ?_
    refine DL.gone rfl rfl rfl (Eff.callV hent1 [1] [1] rfl (.cons rfl (.cons rfl .nil)) h1 rfl rfl rfl rfl (by rintro _ _ ⟨_, rfl⟩; rfl)) rfl (by rintro _ _ ⟨_, ⟨rfl, rfl⟩, rfl⟩; repeat (first | exact .nil | refine .cons rfl ?_)) ?_
    rintro _ _ ⟨_, ⟨rfl, rfl⟩, rfl⟩
    refine q_d rfl Yld.pk (q_d rfl q_mv ?_)
    refine' DL.and (t := 22) (d := 29) 7 rfl (.of [2, 3, 5, 6, 14, 15, 16, 17, 18, 19, 20, 21] rfl) (.of [0, 1, 102, 103, 105, 140] rfl) ?_ ?_ ?_
    rotate_left 1
    ·
     intro hg22
     refine DL.gq rfl rfl rfl (q_lw 103 u97 sz97) rfl ?_
     refine DL.gq rfl rfl rfl (q_fa fo176_1) rfl ?_
     refine DL.gq rfl rfl rfl (q_l 105 u174) rfl ?_
     refine DL.gq rfl rfl rfl (q_lw 103 u97 sz97) rfl ?_
     refine DL.gone rfl rfl rfl (Eff.callV hent2 [] [] rfl (.cons rfl .nil) h2 rfl rfl rfl rfl (by rintro _ _ ⟨_, rfl⟩; rfl)) rfl (by rintro _ _ ⟨_, ⟨rfl, rfl⟩, rfl⟩; repeat (first | exact .nil | refine .cons rfl ?_)) ?_
     rintro _ _ ⟨_, ⟨rfl, rfl⟩, rfl⟩
     refine DL.gone rfl rfl rfl (q_c ent130 [1] [1] (sameR_ct x on H1 hms hso)) rfl (by rintro _ _ ⟨_, ⟨rfl, rfl⟩, rfl⟩; repeat (first | exact .nil | refine .cons rfl ?_)) ?_
     rintro _ _ ⟨_, ⟨rfl, rfl⟩, rfl⟩
     refine q_d rfl Yld.pk ?_
     exact DL.meet (.to rfl) (.to rfl)
    ·
     intro hg22
     repeat refine q_ds ?_
     refine DL.gskip1 rfl rfl rfl rfl rfl ?_
     refine DL.gskip1 rfl rfl rfl rfl rfl (q_d rfl Yld.pk ?_)
     exact DL.meet (.to rfl) (.to rfl)
    refine q_d rfl q_as (DL.done (N.next (q_k [4] [0, 1, 102, 103, 105, 140] ?_)))
    refine W.ret ?_
    exact q_r [1] (.cons (.tmp rfl) .nil) rfl rfl rfl ⟨by rw [hrl]; rfl, rfl⟩
   ·
    refine q_o rfl (Eff.alloc 105 zc176) ?_
    rintro _ _ ⟨b5, rfl, rfl⟩
    refine q_o rfl (Yld.eff (Yld.eq (v' := .tuple [.agg [.func (.func F1) [].toArray [].toArray, .func (.func F2) [].toArray [].toArray].toArray, .bool true].toArray) (Yld.lookupOk (c := 140) u178 (keyInt u3) zv176 rfl rfl rfl (by assumption)) (by rw [hlk]; rfl))) ?_
    rintro _ _ ⟨rfl, rfl⟩
    refine q_d rfl q_mv (q_d rfl q_x (q_d rfl q_x ?_))
    refine q_o0 rfl (q_st 105 sz176) ?_
    rintro _ _ rfl
    refine q_d rfl q_as (DL.done (N.next (q_k [2, 3, 5, 6] [0, 1, 102, 103, 105, 140] ?_)))
    refine W.seq ?_
    refine W.draw (.q 0 (.q 1 (.q 2 (.q 3 (.q 4 (.q 5 (.one 6 (.q 7 (.q 8 (.q 9 (.q 10 (.q 11 (.q 12 (.one 13 (.one 14 (.q 15 (.q 16 .done))))))))))))))))) (.of [0, 102, 103, 105, 140] rfl) mix (by kernel_rfl) (by kernel_rfl) (q_d rfl q_mv (q_d rfl q_mv ?_))
    first | refine DL.as (t := 15) rfl (boolT (by first | assumption | omega | (simp; done))) ?_ | refine DL.as (t := 15) (v := .bool true) rfl rfl ?_
    refine DL.gq rfl rfl rfl (q_fa fo176_0) rfl ?_
    refine DL.gq rfl rfl rfl (q_l 105 u99) rfl ?_
    refine DL.gq rfl rfl rfl (q_lw 102 u29 sz29) rfl ?_
    refine DL.gq rfl rfl rfl (q_lw 103 u97 sz97) rfl ?_
    refine DL.gone rfl rfl rfl (Eff.callV hent1 [1] [1] rfl (.cons rfl (.cons rfl .nil)) h1 rfl rfl rfl rfl (by rintro _ _ ⟨_, rfl⟩; rfl)) rfl (by rintro _ _ ⟨_, ⟨rfl, rfl⟩, rfl⟩; repeat (first | exact .nil | refine .cons rfl ?_)) ?_
    rintro _ _ ⟨_, ⟨rfl, rfl⟩, rfl⟩
    refine q_d rfl Yld.pk (q_d rfl q_mv ?_)
    refine' DL.and (t := 22) (d := 29) 7 rfl (.of [2, 3, 5, 6, 14, 15, 16, 17, 18, 19, 20, 21] rfl) (.of [0, 1, 102, 103, 105, 140] rfl) ?_ ?_ ?_
    rotate_left 1
    ·
     intro hg22
     refine DL.gq rfl rfl rfl (q_lw 103 u97 sz97) rfl ?_
     refine DL.gq rfl rfl rfl (q_fa fo176_1) rfl ?_
     refine DL.gq rfl rfl rfl (q_l 105 u174) rfl ?_
     refine DL.gq rfl rfl rfl (q_lw 103 u97 sz97) rfl ?_
     refine DL.gone rfl rfl rfl (Eff.callV hent2 [] [] rfl (.cons rfl .nil) h2 rfl rfl rfl rfl (by rintro _ _ ⟨_, rfl⟩; rfl)) rfl (by rintro _ _ ⟨_, ⟨rfl, rfl⟩, rfl⟩; repeat (first | exact .nil | refine .cons rfl ?_)) ?_
     rintro _ _ ⟨_, ⟨rfl, rfl⟩, rfl⟩
     refine DL.gone rfl rfl rfl (q_c ent130 [1] [1] (sameR_ct x on H1 hms hso)) rfl (by rintro _ _ ⟨_, ⟨rfl, rfl⟩, rfl⟩; repeat (first | exact .nil | refine .cons rfl ?_)) ?_
     rintro _ _ ⟨_, ⟨rfl, rfl⟩, rfl⟩
     refine q_d rfl Yld.pk ?_
     exact DL.meet (.to rfl) (.to rfl)
    ·
     intro hg22
     repeat refine q_ds ?_
     refine DL.gskip1 rfl rfl rfl rfl rfl ?_
     refine DL.gskip1 rfl rfl rfl rfl rfl (q_d rfl Yld.pk ?_)
     exact DL.meet (.to rfl) (.to rfl)
    refine q_d rfl q_as (DL.done (N.next (q_k [4] [0, 1, 102, 103, 105, 140] ?_)))
    refine W.ret ?_
    exact q_r [1] (.cons (.tmp rfl) .nil) rfl rfl rfl ⟨by rw [hrl]; rfl, rfl⟩
  ·
   refine q_o rfl (Eff.alloc 105 zc176) ?_
   rintro _ _ ⟨b5, rfl, rfl⟩
   refine q_o rfl (q_c ent129 [] [140] forms_ct) ?_
   rintro _ _ ⟨_, ⟨bm, esm, ckm, rfl, hMf, rfl⟩, rfl⟩
   refine q_o rfl (Yld.eff (Yld.eq (v' := .tuple [.agg [.func (.func F1) [].toArray [].toArray, .func (.func F2) [].toArray [].toArray].toArray, .bool true].toArray) (Yld.lookupOk (c := 140) u178 (keyInt u3) zv176 rfl rfl rfl (by assumption)) (by rw [hlk]; rfl))) ?_
   rintro _ _ ⟨rfl, rfl⟩
   refine q_d rfl q_mv (q_d rfl q_x (q_d rfl q_x ?_))
   refine q_o0 rfl (q_st 105 sz176) ?_
   rintro _ _ rfl
   refine q_d rfl q_as (DL.done (N.next (q_k [2, 3, 5, 6] [0, 1, 102, 103, 105, 140] ?_)))
   refine W.seq ?_
   refine W.draw (.q 0 (.q 1 (.q 2 (.q 3 (.q 4 (.q 5 (.one 6 (.q 7 (.q 8 (.q 9 (.q 10 (.q 11 (.q 12 (.one 13 (.one 14 (.q 15 (.q 16 .done))))))))))))))))) (.of [0, 102, 103, 105, 140] rfl) mix (by kernel_rfl) (by kernel_rfl) (q_d rfl q_mv (q_d rfl q_mv ?_))
   first | refine DL.as (t := 15) rfl (boolT (by first | assumption | omega | (simp; done))) ?_ | refine DL.as (t := 15) (v := .bool true) rfl rfl ?_
   refine DL.gq rfl rfl rfl (q_fa fo176_0) rfl ?_
   refine DL.gq rfl rfl rfl (q_l 105 u99) rfl ?_
   refine DL.gq rfl rfl rfl (q_lw 102 u29 sz29) rfl ?_
   refine DL.gq rfl rfl rfl (q_lw 103 u97 sz97) rfl ?_
   refine DL.gone rfl rfl rfl (Eff.callV hent1 [1] [1] rfl (.cons rfl (.cons rfl .nil)) h1 rfl rfl rfl rfl (by rintro _ _ ⟨_, rfl⟩; rfl)) rfl (by rintro _ _ ⟨_, ⟨rfl, rfl⟩, rfl⟩; repeat (first | exact .nil | refine .cons rfl ?_)) ?_
   rintro _ _ ⟨_, ⟨rfl, rfl⟩, rfl⟩
   refine q_d rfl Yld.pk (q_d rfl q_mv ?_)
   refine' DL.and (t := 22) (d := 29) 7 rfl (.of [2, 3, 5, 6, 14, 15, 16, 17, 18, 19, 20, 21] rfl) (.of [0, 1, 102, 103, 105, 140] rfl) ?_ ?_ ?_
   rotate_left 1
   ·
    intro hg22
    refine DL.gq rfl rfl rfl (q_lw 103 u97 sz97) rfl ?_
    refine DL.gq rfl rfl rfl (q_fa fo176_1) rfl ?_
    refine DL.gq rfl rfl rfl (q_l 105 u174) rfl ?_
    refine DL.gq rfl rfl rfl (q_lw 103 u97 sz97) rfl ?_
    refine DL.gone rfl rfl rfl (Eff.callV hent2 [] [] rfl (.cons rfl .nil) h2 rfl rfl rfl rfl (by rintro _ _ ⟨_, rfl⟩; rfl)) rfl (by rintro _ _ ⟨_, ⟨rfl, rfl⟩, rfl⟩; repeat (first | exact .nil | refine .cons rfl ?_)) ?_
    rintro _ _ ⟨_, ⟨rfl, rfl⟩, rfl⟩
    refine DL.gone rfl rfl rfl (q_c ent130 [1] [1] (sameR_ct x on H1 hms hso)) rfl (by rintro _ _ ⟨_, ⟨rfl, rfl⟩, rfl⟩; repeat (first | exact .nil | refine .cons rfl ?_)) ?_
    rintro _ _ ⟨_, ⟨rfl, rfl⟩, rfl⟩
    refine q_d rfl Yld.pk ?_
    exact DL.meet (.to rfl) (.to rfl)
   ·
    intro hg22
    repeat refine q_ds ?_
    refine DL.gskip1 rfl rfl rfl rfl rfl ?_
    refine DL.gskip1 rfl rfl rfl rfl rfl (q_d rfl Yld.pk ?_)
    exact DL.meet (.to rfl) (.to rfl)
   refine q_d rfl q_as (DL.done (N.next (q_k [4] [0, 1, 102, 103, 105, 140] ?_)))
   refine W.ret ?_
   exact q_r [1] (.cons (.tmp rfl) .nil) rfl rfl rfl ⟨by rw [hrl]; rfl, rfl⟩
set_option maxRecDepth 100000 in
set_option maxHeartbeats 3200000 in
theorem validRule7_ct (m : Md) (H1 : PH) (hM : m.In H1) (x : Rl) (hms : Sl H1 x.pm x.cm 1 (iz x.ms)) (hk : ¬ (0 ≤ x.kd ∧ x.kd ≤ 6)) : Ct Tryz.prog 75 [.agg [.slice m.psi m.si.length m.csi, .slice m.pfe m.fe.length m.cfe, .slice m.prk m.rk.length m.crk, .slice m.pmc m.mc.length m.cmc, .slice m.pln m.ln.length m.cln, .slice m.pis m.is.length m.cis, .int .i64 m.da, .int .i64 m.sl, .int .i64 m.re, .int .i64 m.fa, .slice m.prl m.rl.length m.crl].toArray, .agg [.int .i64 x.kd, .int .i64 x.it, .int .i64 x.ot, .int .i64 x.n, .int .i64 x.bq, .bool x.al, .slice x.pm x.ms.length x.cm].toArray] [H1] (fun v Hs => v = .bool (rlB m x) ∧ Hs = [H1]) := by
  refine Ct.body Tryz.func75 rfl Tryz.ntmps75 rfl ?_
  intro E F
  have hrl : rlB m x = false := by unfold rlB; rw [decide_eq_false hk]; rfl
  refine q_sr ?_
  refine q_bx 102 fun b2 => ?_
  refine q_bx 103 fun b3 => ?_
  refine q_an ?_
  refine W.seq ?_
  refine W.draw (.q 1 (.q 2 (.two 0 (.two 3 (.q 4 (.q 5 (.q 6 (.one 7 (.one 8 (.q 9 .done)))))) 7 (.one 3 (.q 4 (.q 5 (.q 6 (.one 8 (.q 9 .done))))))) 7 (.one 0 (.one 3 (.q 4 (.q 5 (.q 6 (.one 8 (.q 9 .done)))))))))) (.of [0, 1, 102, 103] rfl) mix (by kernel_rfl) (by kernel_rfl) (q_d rfl (q_fa fo97_0) (q_d rfl (q_l 103 u3) ?_))
  refine DL.two ?_ ?_
  ·
   refine q_o rfl (q_c ent129 [] [140] forms_ct) ?_
   rintro _ _ ⟨_, ⟨bm, esm, ckm, rfl, hMf, rfl⟩, rfl⟩
   refine DL.two ?_ ?_
   ·
    refine q_o rfl (Yld.eff (Yld.eq (v' := .tuple [.agg [.nilFunc, .nilFunc].toArray, .bool false].toArray) (Yld.lookupOk (c := 140) u178 (keyInt u3) zv176 rfl rfl rfl (by assumption)) (by unfold formsM; rw [mget_mset, mget_mset, mget_mset, mget_mset, mget_mset, mget_mset, mget_mset, if_neg (show ¬ (6 : Int) = x.kd by omega), if_neg (show ¬ (5 : Int) = x.kd by omega), if_neg (show ¬ (4 : Int) = x.kd by omega), if_neg (show ¬ (3 : Int) = x.kd by omega), if_neg (show ¬ (2 : Int) = x.kd by omega), if_neg (show ¬ (1 : Int) = x.kd by omega), if_neg (show ¬ (0 : Int) = x.kd by omega)]; rfl))) ?_
    rintro _ _ ⟨rfl, rfl⟩
    refine q_d rfl q_mv (q_d rfl q_x (q_d rfl q_x ?_))
    refine q_o rfl (Eff.alloc 105 zc176) ?_
    rintro _ _ ⟨b5, rfl, rfl⟩
    refine q_o0 rfl (q_st 105 sz176) ?_
    rintro _ _ rfl
    refine q_d rfl q_as (DL.done (N.next (q_k [2, 3, 5, 6] [0, 1, 102, 103, 105, 140] ?_)))
    refine W.seq ?_
    refine W.draw (.q 0 (.q 1 (.q 2 (.q 3 (.q 4 (.q 5 (.one 6 (.q 7 (.q 8 (.q 9 (.q 10 (.q 11 (.q 12 (.one 13 (.one 14 (.q 15 (.q 16 .done))))))))))))))))) (.of [0, 102, 103, 105, 140] rfl) mix (by kernel_rfl) (by kernel_rfl) (q_d rfl q_mv (q_d rfl q_mv ?_))
    first | refine DL.as (t := 15) rfl (boolF (by first | assumption | omega | (simp; done))) ?_ | refine DL.as (t := 15) (v := .bool false) rfl rfl ?_
    repeat refine q_ds ?_
    refine DL.gskip1 rfl rfl rfl rfl rfl (q_d rfl Yld.pk (q_d rfl q_mv ?_))
    first | refine DL.as (t := 22) rfl (boolF (by first | assumption | omega | (simp; done))) ?_ | refine DL.as (t := 22) (v := .bool false) rfl rfl ?_
    repeat refine q_ds ?_
    refine DL.gskip1 rfl rfl rfl rfl rfl ?_
    refine DL.gskip1 rfl rfl rfl rfl rfl (q_d rfl Yld.pk (q_d rfl q_as (DL.done (N.next (q_k [4] [0, 1, 102, 103, 105, 140] ?_)))))
    refine W.ret ?_
    exact q_r [1] (.cons (.tmp rfl) .nil) rfl rfl rfl ⟨by rw [hrl]; rfl, rfl⟩
   ·
    refine q_o rfl (Eff.alloc 105 zc176) ?_
    rintro _ _ ⟨b5, rfl, rfl⟩
    refine q_o rfl (Yld.eff (Yld.eq (v' := .tuple [.agg [.nilFunc, .nilFunc].toArray, .bool false].toArray) (Yld.lookupOk (c := 140) u178 (keyInt u3) zv176 rfl rfl rfl (by assumption)) (by unfold formsM; rw [mget_mset, mget_mset, mget_mset, mget_mset, mget_mset, mget_mset, mget_mset, if_neg (show ¬ (6 : Int) = x.kd by omega), if_neg (show ¬ (5 : Int) = x.kd by omega), if_neg (show ¬ (4 : Int) = x.kd by omega), if_neg (show ¬ (3 : Int) = x.kd by omega), if_neg (show ¬ (2 : Int) = x.kd by omega), if_neg (show ¬ (1 : Int) = x.kd by omega), if_neg (show ¬ (0 : Int) = x.kd by omega)]; rfl))) ?_
    rintro _ _ ⟨rfl, rfl⟩
    refine q_d rfl q_mv (q_d rfl q_x (q_d rfl q_x ?_))
    refine q_o0 rfl (q_st 105 sz176) ?_
    rintro _ _ rfl
    refine q_d rfl q_as (DL.done (N.next (q_k [2, 3, 5, 6] [0, 1, 102, 103, 105, 140] ?_)))
    refine W.seq ?_
    refine W.draw (.q 0 (.q 1 (.q 2 (.q 3 (.q 4 (.q 5 (.one 6 (.q 7 (.q 8 (.q 9 (.q 10 (.q 11 (.q 12 (.one 13 (.one 14 (.q 15 (.q 16 .done))))))))))))))))) (.of [0, 102, 103, 105, 140] rfl) mix (by kernel_rfl) (by kernel_rfl) (q_d rfl q_mv (q_d rfl q_mv ?_))
    first | refine DL.as (t := 15) rfl (boolF (by first | assumption | omega | (simp; done))) ?_ | refine DL.as (t := 15) (v := .bool false) rfl rfl ?_
    repeat refine q_ds ?_
    refine DL.gskip1 rfl rfl rfl rfl rfl (q_d rfl Yld.pk (q_d rfl q_mv ?_))
    first | refine DL.as (t := 22) rfl (boolF (by first | assumption | omega | (simp; done))) ?_ | refine DL.as (t := 22) (v := .bool false) rfl rfl ?_
    repeat refine q_ds ?_
    refine DL.gskip1 rfl rfl rfl rfl rfl ?_
    refine DL.gskip1 rfl rfl rfl rfl rfl (q_d rfl Yld.pk (q_d rfl q_as (DL.done (N.next (q_k [4] [0, 1, 102, 103, 105, 140] ?_)))))
    refine W.ret ?_
    exact q_r [1] (.cons (.tmp rfl) .nil) rfl rfl rfl ⟨by rw [hrl]; rfl, rfl⟩
  ·
   refine q_o rfl (Eff.alloc 105 zc176) ?_
   rintro _ _ ⟨b5, rfl, rfl⟩
   refine q_o rfl (q_c ent129 [] [140] forms_ct) ?_
   rintro _ _ ⟨_, ⟨bm, esm, ckm, rfl, hMf, rfl⟩, rfl⟩
   refine q_o rfl (Yld.eff (Yld.eq (v' := .tuple [.agg [.nilFunc, .nilFunc].toArray, .bool false].toArray) (Yld.lookupOk (c := 140) u178 (keyInt u3) zv176 rfl rfl rfl (by assumption)) (by unfold formsM; rw [mget_mset, mget_mset, mget_mset, mget_mset, mget_mset, mget_mset, mget_mset, if_neg (show ¬ (6 : Int) = x.kd by omega), if_neg (show ¬ (5 : Int) = x.kd by omega), if_neg (show ¬ (4 : Int) = x.kd by omega), if_neg (show ¬ (3 : Int) = x.kd by omega), if_neg (show ¬ (2 : Int) = x.kd by omega), if_neg (show ¬ (1 : Int) = x.kd by omega), if_neg (show ¬ (0 : Int) = x.kd by omega)]; rfl))) ?_
   rintro _ _ ⟨rfl, rfl⟩
   refine q_d rfl q_mv (q_d rfl q_x (q_d rfl q_x ?_))
   refine q_o0 rfl (q_st 105 sz176) ?_
   rintro _ _ rfl
   refine q_d rfl q_as (DL.done (N.next (q_k [2, 3, 5, 6] [0, 1, 102, 103, 105, 140] ?_)))
   refine W.seq ?_
   refine W.draw (.q 0 (.q 1 (.q 2 (.q 3 (.q 4 (.q 5 (.one 6 (.q 7 (.q 8 (.q 9 (.q 10 (.q 11 (.q 12 (.one 13 (.one 14 (.q 15 (.q 16 .done))))))))))))))))) (.of [0, 102, 103, 105, 140] rfl) mix (by kernel_rfl) (by kernel_rfl) (q_d rfl q_mv (q_d rfl q_mv ?_))
   first | refine DL.as (t := 15) rfl (boolF (by first | assumption | omega | (simp; done))) ?_ | refine DL.as (t := 15) (v := .bool false) rfl rfl ?_
   repeat refine q_ds ?_
   refine DL.gskip1 rfl rfl rfl rfl rfl (q_d rfl Yld.pk (q_d rfl q_mv ?_))
   first | refine DL.as (t := 22) rfl (boolF (by first | assumption | omega | (simp; done))) ?_ | refine DL.as (t := 22) (v := .bool false) rfl rfl ?_
   repeat refine q_ds ?_
   refine DL.gskip1 rfl rfl rfl rfl rfl ?_
   refine DL.gskip1 rfl rfl rfl rfl rfl (q_d rfl Yld.pk (q_d rfl q_as (DL.done (N.next (q_k [4] [0, 1, 102, 103, 105, 140] ?_)))))
   refine W.ret ?_
   exact q_r [1] (.cons (.tmp rfl) .nil) rfl rfl rfl ⟨by rw [hrl]; rfl, rfl⟩
theorem validRule0_ct (m : Md) (H1 : PH) (hM : m.In H1) (x : Rl) (hms : Sl H1 x.pm x.cm 1 (iz x.ms)) (hk : x.kd = 0) : Ct Tryz.prog 75 [.agg [.slice m.psi m.si.length m.csi, .slice m.pfe m.fe.length m.cfe, .slice m.prk m.rk.length m.crk, .slice m.pmc m.mc.length m.cmc, .slice m.pln m.ln.length m.cln, .slice m.pis m.is.length m.cis, .int .i64 m.da, .int .i64 m.sl, .int .i64 m.re, .int .i64 m.fa, .slice m.prl m.rl.length m.crl].toArray, .agg [.int .i64 x.kd, .int .i64 x.it, .int .i64 x.ot, .int .i64 x.n, .int .i64 x.bq, .bool x.al, .slice x.pm x.ms.length x.cm].toArray] [H1] (fun v Hs => v = .bool (rlB m x) ∧ Hs = [H1]) := by
  have hok : okV m x = (decide (InR x.it 1 m.is.length) && decide (kdOf m x.it = 0)) := by unfold okV; rw [if_pos hk]
  have hon : onlyV x = ⟨0, x.it, 0, 0, 0, false, none, [], 0⟩ := by unfold onlyV; rw [if_pos hk]
  have hrl : rlB m x = (okV m x && sameV x (onlyV x)) := by unfold rlB; rw [decide_eq_true (show 0 ≤ x.kd ∧ x.kd ≤ 6 by omega)]; rfl
  exact validRuleG_ct m H1 hM x hms 166 168 _ ⟨0, x.it, 0, 0, 0, false, none, [], 0⟩ ent166 ent168 (rok0_ct m H1 hM x hms) (ron0_ct x) (sl_nil1 H1) (by unfold formsM; rw [mget_mset, mget_mset, mget_mset, mget_mset, mget_mset, mget_mset, mget_mset]; simp [hk]) (by rw [hrl, hok, hon])
theorem validRule1_ct (m : Md) (H1 : PH) (hM : m.In H1) (x : Rl) (hms : Sl H1 x.pm x.cm 1 (iz x.ms)) (hk : x.kd = 1) : Ct Tryz.prog 75 [.agg [.slice m.psi m.si.length m.csi, .slice m.pfe m.fe.length m.cfe, .slice m.prk m.rk.length m.crk, .slice m.pmc m.mc.length m.cmc, .slice m.pln m.ln.length m.cln, .slice m.pis m.is.length m.cis, .int .i64 m.da, .int .i64 m.sl, .int .i64 m.re, .int .i64 m.fa, .slice m.prl m.rl.length m.crl].toArray, .agg [.int .i64 x.kd, .int .i64 x.it, .int .i64 x.ot, .int .i64 x.n, .int .i64 x.bq, .bool x.al, .slice x.pm x.ms.length x.cm].toArray] [H1] (fun v Hs => v = .bool (rlB m x) ∧ Hs = [H1]) := by
  have hok : okV m x = (decide (InR x.it 1 m.is.length) && decide (InR x.n 0 16)) := by unfold okV; rw [if_neg (show ¬ x.kd = 0 by omega), if_pos hk]
  have hon : onlyV x = ⟨0, x.it, 0, x.n, 0, x.al, none, [], 0⟩ := by unfold onlyV; rw [if_neg (show ¬ x.kd = 0 by omega), if_pos hk]
  have hrl : rlB m x = (okV m x && sameV x (onlyV x)) := by unfold rlB; rw [decide_eq_true (show 0 ≤ x.kd ∧ x.kd ≤ 6 by omega)]; rfl
  exact validRuleG_ct m H1 hM x hms 169 170 _ ⟨0, x.it, 0, x.n, 0, x.al, none, [], 0⟩ ent169 ent170 (rok1_ct m H1 hM x hms) (ron1_ct x) (sl_nil1 H1) (by unfold formsM; rw [mget_mset, mget_mset, mget_mset, mget_mset, mget_mset, mget_mset, mget_mset]; simp [hk]) (by rw [hrl, hok, hon])
theorem validRule2_ct (m : Md) (H1 : PH) (hM : m.In H1) (x : Rl) (hms : Sl H1 x.pm x.cm 1 (iz x.ms)) (hk : x.kd = 2) : Ct Tryz.prog 75 [.agg [.slice m.psi m.si.length m.csi, .slice m.pfe m.fe.length m.cfe, .slice m.prk m.rk.length m.crk, .slice m.pmc m.mc.length m.cmc, .slice m.pln m.ln.length m.cln, .slice m.pis m.is.length m.cis, .int .i64 m.da, .int .i64 m.sl, .int .i64 m.re, .int .i64 m.fa, .slice m.prl m.rl.length m.crl].toArray, .agg [.int .i64 x.kd, .int .i64 x.it, .int .i64 x.ot, .int .i64 x.n, .int .i64 x.bq, .bool x.al, .slice x.pm x.ms.length x.cm].toArray] [H1] (fun v Hs => v = .bool (rlB m x) ∧ Hs = [H1]) := by
  have hok : okV m x = (decide (InR x.it 1 m.is.length) && decide (InR x.n 0 16) && decide (x.bq ∈ [(2 : Int), 3, 4])) := by unfold okV; rw [if_neg (show ¬ x.kd = 0 by omega), if_neg (show ¬ x.kd = 1 by omega), if_pos hk]
  have hon : onlyV x = ⟨0, x.it, 0, x.n, x.bq, false, none, [], 0⟩ := by unfold onlyV; rw [if_neg (show ¬ x.kd = 0 by omega), if_neg (show ¬ x.kd = 1 by omega), if_pos hk]
  have hrl : rlB m x = (okV m x && sameV x (onlyV x)) := by unfold rlB; rw [decide_eq_true (show 0 ≤ x.kd ∧ x.kd ≤ 6 by omega)]; rfl
  exact validRuleG_ct m H1 hM x hms 171 172 _ ⟨0, x.it, 0, x.n, x.bq, false, none, [], 0⟩ ent171 ent172 (rok2_ct m H1 hM x hms) (ron2_ct x) (sl_nil1 H1) (by unfold formsM; rw [mget_mset, mget_mset, mget_mset, mget_mset, mget_mset, mget_mset, mget_mset]; simp [hk]) (by rw [hrl, hok, hon])
theorem validRule3_ct (m : Md) (H1 : PH) (hM : m.In H1) (x : Rl) (hms : Sl H1 x.pm x.cm 1 (iz x.ms)) (hk : x.kd = 3) : Ct Tryz.prog 75 [.agg [.slice m.psi m.si.length m.csi, .slice m.pfe m.fe.length m.cfe, .slice m.prk m.rk.length m.crk, .slice m.pmc m.mc.length m.cmc, .slice m.pln m.ln.length m.cln, .slice m.pis m.is.length m.cis, .int .i64 m.da, .int .i64 m.sl, .int .i64 m.re, .int .i64 m.fa, .slice m.prl m.rl.length m.crl].toArray, .agg [.int .i64 x.kd, .int .i64 x.it, .int .i64 x.ot, .int .i64 x.n, .int .i64 x.bq, .bool x.al, .slice x.pm x.ms.length x.cm].toArray] [H1] (fun v Hs => v = .bool (rlB m x) ∧ Hs = [H1]) := by
  have hok : okV m x = (decide (InR x.it 1 m.is.length) && pB (MsV m.mc.length x.ms)) := by unfold okV; rw [if_neg (show ¬ x.kd = 0 by omega), if_neg (show ¬ x.kd = 1 by omega), if_neg (show ¬ x.kd = 2 by omega), if_pos hk]
  have hon : onlyV x = ⟨0, x.it, 0, 0, 0, false, x.pm, x.ms, x.cm⟩ := by unfold onlyV; rw [if_neg (show ¬ x.kd = 0 by omega), if_neg (show ¬ x.kd = 1 by omega), if_neg (show ¬ x.kd = 2 by omega), if_pos hk]
  have hrl : rlB m x = (okV m x && sameV x (onlyV x)) := by unfold rlB; rw [decide_eq_true (show 0 ≤ x.kd ∧ x.kd ≤ 6 by omega)]; rfl
  exact validRuleG_ct m H1 hM x hms 173 174 _ ⟨0, x.it, 0, 0, 0, false, x.pm, x.ms, x.cm⟩ ent173 ent174 (rok3_ct m H1 hM x hms) (ron3_ct x) hms (by unfold formsM; rw [mget_mset, mget_mset, mget_mset, mget_mset, mget_mset, mget_mset, mget_mset]; simp [hk]) (by rw [hrl, hok, hon])
theorem validRule4_ct (m : Md) (H1 : PH) (hM : m.In H1) (x : Rl) (hms : Sl H1 x.pm x.cm 1 (iz x.ms)) (hk : x.kd = 4) : Ct Tryz.prog 75 [.agg [.slice m.psi m.si.length m.csi, .slice m.pfe m.fe.length m.cfe, .slice m.prk m.rk.length m.crk, .slice m.pmc m.mc.length m.cmc, .slice m.pln m.ln.length m.cln, .slice m.pis m.is.length m.cis, .int .i64 m.da, .int .i64 m.sl, .int .i64 m.re, .int .i64 m.fa, .slice m.prl m.rl.length m.crl].toArray, .agg [.int .i64 x.kd, .int .i64 x.it, .int .i64 x.ot, .int .i64 x.n, .int .i64 x.bq, .bool x.al, .slice x.pm x.ms.length x.cm].toArray] [H1] (fun v Hs => v = .bool (rlB m x) ∧ Hs = [H1]) := by
  have hok : okV m x = (decide (InR x.it 1 m.is.length) && decide (InR x.ot 1 m.is.length) && decide (x.it ≠ x.ot)) := by unfold okV; rw [if_neg (show ¬ x.kd = 0 by omega), if_neg (show ¬ x.kd = 1 by omega), if_neg (show ¬ x.kd = 2 by omega), if_neg (show ¬ x.kd = 3 by omega), if_pos hk]
  have hon : onlyV x = ⟨0, x.it, x.ot, 0, 0, false, none, [], 0⟩ := by unfold onlyV; rw [if_neg (show ¬ x.kd = 0 by omega), if_neg (show ¬ x.kd = 1 by omega), if_neg (show ¬ x.kd = 2 by omega), if_neg (show ¬ x.kd = 3 by omega), if_pos hk]
  have hrl : rlB m x = (okV m x && sameV x (onlyV x)) := by unfold rlB; rw [decide_eq_true (show 0 ≤ x.kd ∧ x.kd ≤ 6 by omega)]; rfl
  exact validRuleG_ct m H1 hM x hms 175 176 _ ⟨0, x.it, x.ot, 0, 0, false, none, [], 0⟩ ent175 ent176 (rok4_ct m H1 hM x hms) (ron4_ct x) (sl_nil1 H1) (by unfold formsM; rw [mget_mset, mget_mset, mget_mset, mget_mset, mget_mset, mget_mset, mget_mset]; simp [hk]) (by rw [hrl, hok, hon])
theorem validRule5_ct (m : Md) (H1 : PH) (hM : m.In H1) (x : Rl) (hms : Sl H1 x.pm x.cm 1 (iz x.ms)) (hk : x.kd = 5) : Ct Tryz.prog 75 [.agg [.slice m.psi m.si.length m.csi, .slice m.pfe m.fe.length m.cfe, .slice m.prk m.rk.length m.crk, .slice m.pmc m.mc.length m.cmc, .slice m.pln m.ln.length m.cln, .slice m.pis m.is.length m.cis, .int .i64 m.da, .int .i64 m.sl, .int .i64 m.re, .int .i64 m.fa, .slice m.prl m.rl.length m.crl].toArray, .agg [.int .i64 x.kd, .int .i64 x.it, .int .i64 x.ot, .int .i64 x.n, .int .i64 x.bq, .bool x.al, .slice x.pm x.ms.length x.cm].toArray] [H1] (fun v Hs => v = .bool (rlB m x) ∧ Hs = [H1]) := by
  have hok : okV m x = (decide (InR x.n 0 200)) := by unfold okV; rw [if_neg (show ¬ x.kd = 0 by omega), if_neg (show ¬ x.kd = 1 by omega), if_neg (show ¬ x.kd = 2 by omega), if_neg (show ¬ x.kd = 3 by omega), if_neg (show ¬ x.kd = 4 by omega), if_pos hk]
  have hon : onlyV x = ⟨0, 0, 0, x.n, 0, false, none, [], 0⟩ := by unfold onlyV; rw [if_neg (show ¬ x.kd = 0 by omega), if_neg (show ¬ x.kd = 1 by omega), if_neg (show ¬ x.kd = 2 by omega), if_neg (show ¬ x.kd = 3 by omega), if_neg (show ¬ x.kd = 4 by omega), if_pos hk]
  have hrl : rlB m x = (okV m x && sameV x (onlyV x)) := by unfold rlB; rw [decide_eq_true (show 0 ≤ x.kd ∧ x.kd ≤ 6 by omega)]; rfl
  exact validRuleG_ct m H1 hM x hms 177 178 _ ⟨0, 0, 0, x.n, 0, false, none, [], 0⟩ ent177 ent178 (rok5_ct m H1 hM x hms) (ron5_ct x) (sl_nil1 H1) (by unfold formsM; rw [mget_mset, mget_mset, mget_mset, mget_mset, mget_mset, mget_mset, mget_mset]; simp [hk]) (by rw [hrl, hok, hon])
theorem validRule6_ct (m : Md) (H1 : PH) (hM : m.In H1) (x : Rl) (hms : Sl H1 x.pm x.cm 1 (iz x.ms)) (hk : x.kd = 6) : Ct Tryz.prog 75 [.agg [.slice m.psi m.si.length m.csi, .slice m.pfe m.fe.length m.cfe, .slice m.prk m.rk.length m.crk, .slice m.pmc m.mc.length m.cmc, .slice m.pln m.ln.length m.cln, .slice m.pis m.is.length m.cis, .int .i64 m.da, .int .i64 m.sl, .int .i64 m.re, .int .i64 m.fa, .slice m.prl m.rl.length m.crl].toArray, .agg [.int .i64 x.kd, .int .i64 x.it, .int .i64 x.ot, .int .i64 x.n, .int .i64 x.bq, .bool x.al, .slice x.pm x.ms.length x.cm].toArray] [H1] (fun v Hs => v = .bool (rlB m x) ∧ Hs = [H1]) := by
  have hok : okV m x = (decide (InR x.it 1 m.is.length) && decide (InR x.n 0 16)) := by unfold okV; rw [if_neg (show ¬ x.kd = 0 by omega), if_neg (show ¬ x.kd = 1 by omega), if_neg (show ¬ x.kd = 2 by omega), if_neg (show ¬ x.kd = 3 by omega), if_neg (show ¬ x.kd = 4 by omega), if_neg (show ¬ x.kd = 5 by omega)]
  have hon : onlyV x = ⟨0, x.it, 0, x.n, 0, false, none, [], 0⟩ := by unfold onlyV; rw [if_neg (show ¬ x.kd = 0 by omega), if_neg (show ¬ x.kd = 1 by omega), if_neg (show ¬ x.kd = 2 by omega), if_neg (show ¬ x.kd = 3 by omega), if_neg (show ¬ x.kd = 4 by omega), if_neg (show ¬ x.kd = 5 by omega)]
  have hrl : rlB m x = (okV m x && sameV x (onlyV x)) := by unfold rlB; rw [decide_eq_true (show 0 ≤ x.kd ∧ x.kd ≤ 6 by omega)]; rfl
  exact validRuleG_ct m H1 hM x hms 179 180 _ ⟨0, x.it, 0, x.n, 0, false, none, [], 0⟩ ent179 ent180 (rok6_ct m H1 hM x hms) (ron6_ct x) (sl_nil1 H1) (by unfold formsM; rw [mget_mset, mget_mset, mget_mset, mget_mset, mget_mset, mget_mset, mget_mset]; simp [hk]) (by rw [hrl, hok, hon])
theorem validRule_ct (m : Md) (H1 : PH) (hM : m.In H1) (x : Rl) (hms : Sl H1 x.pm x.cm 1 (iz x.ms)) : Ct Tryz.prog 75 [.agg [.slice m.psi m.si.length m.csi, .slice m.pfe m.fe.length m.cfe, .slice m.prk m.rk.length m.crk, .slice m.pmc m.mc.length m.cmc, .slice m.pln m.ln.length m.cln, .slice m.pis m.is.length m.cis, .int .i64 m.da, .int .i64 m.sl, .int .i64 m.re, .int .i64 m.fa, .slice m.prl m.rl.length m.crl].toArray, .agg [.int .i64 x.kd, .int .i64 x.it, .int .i64 x.ot, .int .i64 x.n, .int .i64 x.bq, .bool x.al, .slice x.pm x.ms.length x.cm].toArray] [H1] (fun v Hs => v = .bool (rlB m x) ∧ Hs = [H1]) := by
  by_cases h0 : x.kd = 0
  · exact validRule0_ct m H1 hM x hms h0
  by_cases h1 : x.kd = 1
  · exact validRule1_ct m H1 hM x hms h1
  by_cases h2 : x.kd = 2
  · exact validRule2_ct m H1 hM x hms h2
  by_cases h3 : x.kd = 3
  · exact validRule3_ct m H1 hM x hms h3
  by_cases h4 : x.kd = 4
  · exact validRule4_ct m H1 hM x hms h4
  by_cases h5 : x.kd = 5
  · exact validRule5_ct m H1 hM x hms h5
  by_cases h6 : x.kd = 6
  · exact validRule6_ct m H1 hM x hms h6
  exact validRule7_ct m H1 hM x hms (by omega)
end Go.Proofs.YtboapdcmaeojgaaGreatDoor
namespace Go.Proofs.YtboapdcmaeojgaaGreatDoor
open SL Cat
set_option linter.unusedVariables false
set_option linter.unusedSimpArgs false
theorem fo93_0 : fieldOff Tryz.prog 93 0 = some 0 := by kernel_rfl
theorem fo95_0 : fieldOff Tryz.prog 95 0 = some 0 := by kernel_rfl
theorem fo64_0 : fieldOff Tryz.prog 64 0 = some 0 := by kernel_rfl
theorem ent162 : Ent Tryz.prog 162 := ⟨_, _, Tryz.func162, by kernel_rfl, rfl⟩
theorem ent152 : Ent Tryz.prog 152 := ⟨_, _, Tryz.func152, by kernel_rfl, rfl⟩
theorem ent153 : Ent Tryz.prog 153 := ⟨_, _, Tryz.func153, by kernel_rfl, rfl⟩
theorem ent154 : Ent Tryz.prog 154 := ⟨_, _, Tryz.func154, by kernel_rfl, rfl⟩
theorem ent155 : Ent Tryz.prog 155 := ⟨_, _, Tryz.func155, by kernel_rfl, rfl⟩
theorem ent156 : Ent Tryz.prog 156 := ⟨_, _, Tryz.func156, by kernel_rfl, rfl⟩
theorem ent157 : Ent Tryz.prog 157 := ⟨_, _, Tryz.func157, by kernel_rfl, rfl⟩
theorem ent158 : Ent Tryz.prog 158 := ⟨_, _, Tryz.func158, by kernel_rfl, rfl⟩
theorem ent159 : Ent Tryz.prog 159 := ⟨_, _, Tryz.func159, by kernel_rfl, rfl⟩
theorem ent160 : Ent Tryz.prog 160 := ⟨_, _, Tryz.func160, by kernel_rfl, rfl⟩
theorem ent161 : Ent Tryz.prog 161 := ⟨_, _, Tryz.func161, by kernel_rfl, rfl⟩
theorem ent118 : Ent Tryz.prog 118 := ⟨_, _, Tryz.func118, by kernel_rfl, rfl⟩
theorem zc9 : zc Tryz.prog 9 [.string .empty] := (by kernel_rfl : ((Tryz.prog.info? 9).bind (·.zero)).map (fun v => v.cells.toList) = some [.string .empty])
theorem el9 : el Tryz.prog 9 1 16 := .mk (by kernel_rfl)
theorem sz22 : sz Tryz.prog 22 1 := (by kernel_rfl : (Tryz.prog.info? 22).map (·.size) = some 1)
theorem lay203 : layS Tryz.prog 203 = some ([.int .i64 0, .nilFunc, .nilFunc], [(0, 1), (1, 1), (2, 1)]) := by kernel_rfl
theorem sz203 : sz Tryz.prog 203 3 := (by kernel_rfl : (Tryz.prog.info? 203).map (·.size) = some 3)
theorem zc203 : zc Tryz.prog 203 [.int .i64 0, .nilFunc, .nilFunc] := (by kernel_rfl : ((Tryz.prog.info? 203).bind (·.zero)).map (fun v => v.cells.toList) = some [.int .i64 0, .nilFunc, .nilFunc])
theorem fo203_0 : fieldOff Tryz.prog 203 0 = some 0 := by kernel_rfl
theorem fo203_1 : fieldOff Tryz.prog 203 1 = some 1 := by kernel_rfl
theorem fo203_2 : fieldOff Tryz.prog 203 2 = some 2 := by kernel_rfl
theorem zc22 : zc Tryz.prog 22 [.slice none 0 0] := (by kernel_rfl : ((Tryz.prog.info? 22).bind (·.zero)).map (fun v => v.cells.toList) = some [.slice none 0 0])
theorem ent117 : Ent Tryz.prog 117 := ⟨_, _, Tryz.func117, by kernel_rfl, rfl⟩
abbrev u204 := @Tryz.underlying204
abbrev u203 := @Tryz.underlying203
abbrev u202 := @Tryz.underlying202
abbrev u85 := @Tryz.underlying85
set_option maxRecDepth 100000 in
set_option maxHeartbeats 400000 in
theorem each1_ct (m : Md) (H1 : PH) (hM : m.In H1) (b : Nat) (i : Nat) (x : Ky) (hx : m.si[i]? = some x) : Ct Tryz.prog 152 [.int .i64 i, .pointer (some ⟨b, 0, none⟩)] [H1, single b (.cells [.slice m.psi m.si.length m.csi, .slice m.pfe m.fe.length m.cfe, .slice m.prk m.rk.length m.crk, .slice m.pmc m.mc.length m.cmc, .slice m.pln m.ln.length m.cln, .slice m.pis m.is.length m.cis, .int .i64 m.da, .int .i64 m.sl, .int .i64 m.re, .int .i64 m.fa, .slice m.prl m.rl.length m.crl].toArray 29 (0, 0))] (fun v Hs => v = .string x ∧ Hs = [H1, single b (.cells [.slice m.psi m.si.length m.csi, .slice m.pfe m.fe.length m.cfe, .slice m.prk m.rk.length m.crk, .slice m.pmc m.mc.length m.cmc, .slice m.pln m.ln.length m.cln, .slice m.pis m.is.length m.cis, .int .i64 m.da, .int .i64 m.sl, .int .i64 m.re, .int .i64 m.fa, .slice m.prl m.rl.length m.crl].toArray 29 (0, 0))]) := by
  refine Ct.body Tryz.func152 rfl Tryz.ntmps152 rfl ?_
  intro E F
  have hSl := hM.si
  have hmx := hSl.len_le
  simp only [tz_len, List.length_map, maxLen] at hmx
  have hl := tz_get hx
  have hlt := (List.getElem?_eq_some_iff.1 hx).1
  refine q_sr (q_an ?_)
  refine q_sr (q_q (q_fa fo29_0) (q_q (q_l 2 u22) (q_q q_mv ?_)))
  refine q_q (q_ix u22 sz9) ?_
  refine q_q (by first | exact (by first | exact q_r1 1 u9 | exact q_r1 2 u9) | exact (by first | exact q_rF 1 0 u9 | exact q_rF 2 0 u9)) ?_
  refine q_an ?_
  refine q_k [3] [0, 1, 2] ?_
  refine W.ret ?_
  exact q_r [1, 2] (.cons (.tmp rfl) .nil) rfl rfl rfl ⟨rfl, rfl⟩
set_option maxRecDepth 100000 in
set_option maxHeartbeats 400000 in
theorem each3_ct (m : Md) (H1 : PH) (hM : m.In H1) (b : Nat) (i : Nat) (x : Ky) (hx : m.fe[i]? = some x) : Ct Tryz.prog 154 [.int .i64 i, .pointer (some ⟨b, 0, none⟩)] [H1, single b (.cells [.slice m.psi m.si.length m.csi, .slice m.pfe m.fe.length m.cfe, .slice m.prk m.rk.length m.crk, .slice m.pmc m.mc.length m.cmc, .slice m.pln m.ln.length m.cln, .slice m.pis m.is.length m.cis, .int .i64 m.da, .int .i64 m.sl, .int .i64 m.re, .int .i64 m.fa, .slice m.prl m.rl.length m.crl].toArray 29 (0, 0))] (fun v Hs => v = .string x ∧ Hs = [H1, single b (.cells [.slice m.psi m.si.length m.csi, .slice m.pfe m.fe.length m.cfe, .slice m.prk m.rk.length m.crk, .slice m.pmc m.mc.length m.cmc, .slice m.pln m.ln.length m.cln, .slice m.pis m.is.length m.cis, .int .i64 m.da, .int .i64 m.sl, .int .i64 m.re, .int .i64 m.fa, .slice m.prl m.rl.length m.crl].toArray 29 (0, 0))]) := by
  refine Ct.body Tryz.func154 rfl Tryz.ntmps154 rfl ?_
  intro E F
  have hSl := hM.fe
  have hmx := hSl.len_le
  simp only [tz_len, List.length_map, maxLen] at hmx
  have hl := tz_get hx
  have hlt := (List.getElem?_eq_some_iff.1 hx).1
  refine q_sr (q_an ?_)
  refine q_sr (q_q (q_fa fo29_1) (q_q (q_l 2 u22) (q_q q_mv ?_)))
  refine q_q (q_ix u22 sz9) ?_
  refine q_q (by first | exact (by first | exact q_r1 1 u9 | exact q_r1 2 u9) | exact (by first | exact q_rF 1 0 u9 | exact q_rF 2 0 u9)) ?_
  refine q_an ?_
  refine q_k [3] [0, 1, 2] ?_
  refine W.ret ?_
  exact q_r [1, 2] (.cons (.tmp rfl) .nil) rfl rfl rfl ⟨rfl, rfl⟩
set_option maxRecDepth 100000 in
set_option maxHeartbeats 400000 in
theorem each5_ct (m : Md) (H1 : PH) (hM : m.In H1) (b : Nat) (i : Nat) (x : Rk) (hx : m.rk[i]? = some x) : Ct Tryz.prog 156 [.int .i64 i, .pointer (some ⟨b, 0, none⟩)] [H1, single b (.cells [.slice m.psi m.si.length m.csi, .slice m.pfe m.fe.length m.cfe, .slice m.prk m.rk.length m.crk, .slice m.pmc m.mc.length m.cmc, .slice m.pln m.ln.length m.cln, .slice m.pis m.is.length m.cis, .int .i64 m.da, .int .i64 m.sl, .int .i64 m.re, .int .i64 m.fa, .slice m.prl m.rl.length m.crl].toArray 29 (0, 0))] (fun v Hs => v = .string x.nm ∧ Hs = [H1, single b (.cells [.slice m.psi m.si.length m.csi, .slice m.pfe m.fe.length m.cfe, .slice m.prk m.rk.length m.crk, .slice m.pmc m.mc.length m.cmc, .slice m.pln m.ln.length m.cln, .slice m.pis m.is.length m.cis, .int .i64 m.da, .int .i64 m.sl, .int .i64 m.re, .int .i64 m.fa, .slice m.prl m.rl.length m.crl].toArray 29 (0, 0))]) := by
  refine Ct.body Tryz.func156 rfl Tryz.ntmps156 rfl ?_
  intro E F
  have hSl := hM.rk
  have hmx := hSl.len_le
  simp only [tz_len, List.length_map, maxLen] at hmx
  have hl : (m.rk.map Rk.c)[i]? = some x.c := by simp [hx]
  have hlt := (List.getElem?_eq_some_iff.1 hx).1
  refine q_sr (q_an ?_)
  refine q_sr (q_q (q_fa fo29_2) (q_q (q_l 2 u23) (q_q q_mv ?_)))
  refine q_q (q_ix u23 sz93) (q_q (q_fa fo93_0) ?_)
  refine q_q (by first | exact (by first | exact q_r1 1 u9 | exact q_r1 2 u9) | exact (by first | exact q_rF 1 0 u9 | exact q_rF 2 0 u9)) ?_
  refine q_an ?_
  refine q_k [3] [0, 1, 2] ?_
  refine W.ret ?_
  exact q_r [1, 2] (.cons (.tmp rfl) .nil) rfl rfl rfl ⟨rfl, rfl⟩
set_option maxRecDepth 100000 in
set_option maxHeartbeats 400000 in
theorem each7_ct (m : Md) (H1 : PH) (hM : m.In H1) (b : Nat) (i : Nat) (x : Mc) (hx : m.mc[i]? = some x) : Ct Tryz.prog 158 [.int .i64 i, .pointer (some ⟨b, 0, none⟩)] [H1, single b (.cells [.slice m.psi m.si.length m.csi, .slice m.pfe m.fe.length m.cfe, .slice m.prk m.rk.length m.crk, .slice m.pmc m.mc.length m.cmc, .slice m.pln m.ln.length m.cln, .slice m.pis m.is.length m.cis, .int .i64 m.da, .int .i64 m.sl, .int .i64 m.re, .int .i64 m.fa, .slice m.prl m.rl.length m.crl].toArray 29 (0, 0))] (fun v Hs => v = .string x.nm ∧ Hs = [H1, single b (.cells [.slice m.psi m.si.length m.csi, .slice m.pfe m.fe.length m.cfe, .slice m.prk m.rk.length m.crk, .slice m.pmc m.mc.length m.cmc, .slice m.pln m.ln.length m.cln, .slice m.pis m.is.length m.cis, .int .i64 m.da, .int .i64 m.sl, .int .i64 m.re, .int .i64 m.fa, .slice m.prl m.rl.length m.crl].toArray 29 (0, 0))]) := by
  refine Ct.body Tryz.func158 rfl Tryz.ntmps158 rfl ?_
  intro E F
  have hSl := hM.mc
  have hmx := hSl.len_le
  simp only [tz_len, List.length_map, maxLen] at hmx
  have hl : (m.mc.map Mc.c)[i]? = some x.c := by simp [hx]
  have hlt := (List.getElem?_eq_some_iff.1 hx).1
  refine q_sr (q_an ?_)
  refine q_sr (q_q (q_fa fo29_3) (q_q (q_l 2 u24) (q_q q_mv ?_)))
  refine q_q (q_ix u24 sz95) (q_q (q_fa fo95_0) ?_)
  refine q_q (by first | exact (by first | exact q_r1 1 u9 | exact q_r1 2 u9) | exact (by first | exact q_rF 1 0 u9 | exact q_rF 2 0 u9)) ?_
  refine q_an ?_
  refine q_k [3] [0, 1, 2] ?_
  refine W.ret ?_
  exact q_r [1, 2] (.cons (.tmp rfl) .nil) rfl rfl rfl ⟨rfl, rfl⟩
set_option maxRecDepth 100000 in
set_option maxHeartbeats 400000 in
theorem each9_ct (m : Md) (H1 : PH) (hM : m.In H1) (b : Nat) (i : Nat) (x : It) (hx : m.is[i]? = some x) : Ct Tryz.prog 160 [.int .i64 i, .pointer (some ⟨b, 0, none⟩)] [H1, single b (.cells [.slice m.psi m.si.length m.csi, .slice m.pfe m.fe.length m.cfe, .slice m.prk m.rk.length m.crk, .slice m.pmc m.mc.length m.cmc, .slice m.pln m.ln.length m.cln, .slice m.pis m.is.length m.cis, .int .i64 m.da, .int .i64 m.sl, .int .i64 m.re, .int .i64 m.fa, .slice m.prl m.rl.length m.crl].toArray 29 (0, 0))] (fun v Hs => v = .string x.nm ∧ Hs = [H1, single b (.cells [.slice m.psi m.si.length m.csi, .slice m.pfe m.fe.length m.cfe, .slice m.prk m.rk.length m.crk, .slice m.pmc m.mc.length m.cmc, .slice m.pln m.ln.length m.cln, .slice m.pis m.is.length m.cis, .int .i64 m.da, .int .i64 m.sl, .int .i64 m.re, .int .i64 m.fa, .slice m.prl m.rl.length m.crl].toArray 29 (0, 0))]) := by
  refine Ct.body Tryz.func160 rfl Tryz.ntmps160 rfl ?_
  intro E F
  have hSl := hM.is
  have hmx := hSl.len_le
  simp only [tz_len, List.length_map, maxLen] at hmx
  have hl : (m.is.map It.c)[i]? = some x.c := by simp [hx]
  have hlt := (List.getElem?_eq_some_iff.1 hx).1
  refine q_sr (q_an ?_)
  refine q_sr (q_q (q_fa fo29_5) (q_q (q_l 2 u26) (q_q q_mv ?_)))
  refine q_q (q_ix u26 sz64) (q_q (q_fa fo64_0) ?_)
  refine q_q (by first | exact (by first | exact q_r1 1 u9 | exact q_r1 2 u9) | exact (by first | exact q_rF 1 0 u9 | exact q_rF 2 0 u9)) ?_
  refine q_an ?_
  refine q_k [3] [0, 1, 2] ?_
  refine W.ret ?_
  exact q_r [1, 2] (.cons (.tmp rfl) .nil) rfl rfl rfl ⟨rfl, rfl⟩
set_option maxRecDepth 100000 in
set_option maxHeartbeats 400000 in
theorem each2_ct (m : Md) (H1 : PH) (b : Nat) (z : Int) : Ct Tryz.prog 153 [.int .i64 z] [H1, single b (.cells [.slice m.psi m.si.length m.csi, .slice m.pfe m.fe.length m.cfe, .slice m.prk m.rk.length m.crk, .slice m.pmc m.mc.length m.cmc, .slice m.pln m.ln.length m.cln, .slice m.pis m.is.length m.cis, .int .i64 m.da, .int .i64 m.sl, .int .i64 m.re, .int .i64 m.fa, .slice m.prl m.rl.length m.crl].toArray 29 (0, 0))] (fun v Hs => (∃ y : Int, v = .int .i64 y) ∧ Hs = [H1, single b (.cells [.slice m.psi m.si.length m.csi, .slice m.pfe m.fe.length m.cfe, .slice m.prk m.rk.length m.crk, .slice m.pmc m.mc.length m.cmc, .slice m.pln m.ln.length m.cln, .slice m.pis m.is.length m.cis, .int .i64 m.da, .int .i64 m.sl, .int .i64 m.re, .int .i64 m.fa, .slice m.prl m.rl.length m.crl].toArray 29 (0, 0))]) := by
  refine Ct.body Tryz.func153 rfl Tryz.ntmps153 rfl ?_
  intro E F
  refine q_sr (q_an ?_)
  refine q_sr (q_an ?_)
  refine W.ret ?_
  exact q_r [1, 2] (.cons (.tmp rfl) .nil) rfl rfl rfl ⟨⟨_, rfl⟩, rfl⟩
set_option maxRecDepth 100000 in
set_option maxHeartbeats 400000 in
theorem each4_ct (m : Md) (H1 : PH) (b : Nat) (z : Int) : Ct Tryz.prog 155 [.int .i64 z] [H1, single b (.cells [.slice m.psi m.si.length m.csi, .slice m.pfe m.fe.length m.cfe, .slice m.prk m.rk.length m.crk, .slice m.pmc m.mc.length m.cmc, .slice m.pln m.ln.length m.cln, .slice m.pis m.is.length m.cis, .int .i64 m.da, .int .i64 m.sl, .int .i64 m.re, .int .i64 m.fa, .slice m.prl m.rl.length m.crl].toArray 29 (0, 0))] (fun v Hs => (∃ y : Int, v = .int .i64 y) ∧ Hs = [H1, single b (.cells [.slice m.psi m.si.length m.csi, .slice m.pfe m.fe.length m.cfe, .slice m.prk m.rk.length m.crk, .slice m.pmc m.mc.length m.cmc, .slice m.pln m.ln.length m.cln, .slice m.pis m.is.length m.cis, .int .i64 m.da, .int .i64 m.sl, .int .i64 m.re, .int .i64 m.fa, .slice m.prl m.rl.length m.crl].toArray 29 (0, 0))]) := by
  refine Ct.body Tryz.func155 rfl Tryz.ntmps155 rfl ?_
  intro E F
  refine q_sr (q_an ?_)
  refine q_sr (q_an ?_)
  refine W.ret ?_
  exact q_r [1, 2] (.cons (.tmp rfl) .nil) rfl rfl rfl ⟨⟨_, rfl⟩, rfl⟩
set_option maxRecDepth 100000 in
set_option maxHeartbeats 400000 in
theorem each6_ct (m : Md) (H1 : PH) (b : Nat) (z : Int) : Ct Tryz.prog 157 [.int .i64 z] [H1, single b (.cells [.slice m.psi m.si.length m.csi, .slice m.pfe m.fe.length m.cfe, .slice m.prk m.rk.length m.crk, .slice m.pmc m.mc.length m.cmc, .slice m.pln m.ln.length m.cln, .slice m.pis m.is.length m.cis, .int .i64 m.da, .int .i64 m.sl, .int .i64 m.re, .int .i64 m.fa, .slice m.prl m.rl.length m.crl].toArray 29 (0, 0))] (fun v Hs => (∃ y : Int, v = .int .i64 y) ∧ Hs = [H1, single b (.cells [.slice m.psi m.si.length m.csi, .slice m.pfe m.fe.length m.cfe, .slice m.prk m.rk.length m.crk, .slice m.pmc m.mc.length m.cmc, .slice m.pln m.ln.length m.cln, .slice m.pis m.is.length m.cis, .int .i64 m.da, .int .i64 m.sl, .int .i64 m.re, .int .i64 m.fa, .slice m.prl m.rl.length m.crl].toArray 29 (0, 0))]) := by
  refine Ct.body Tryz.func157 rfl Tryz.ntmps157 rfl ?_
  intro E F
  refine q_sr (q_an ?_)
  refine q_sr (q_an ?_)
  refine W.ret ?_
  exact q_r [1, 2] (.cons (.tmp rfl) .nil) rfl rfl rfl ⟨⟨_, rfl⟩, rfl⟩
set_option maxRecDepth 100000 in
set_option maxHeartbeats 400000 in
theorem each8_ct (m : Md) (H1 : PH) (b : Nat) (z : Int) : Ct Tryz.prog 159 [.int .i64 z] [H1, single b (.cells [.slice m.psi m.si.length m.csi, .slice m.pfe m.fe.length m.cfe, .slice m.prk m.rk.length m.crk, .slice m.pmc m.mc.length m.cmc, .slice m.pln m.ln.length m.cln, .slice m.pis m.is.length m.cis, .int .i64 m.da, .int .i64 m.sl, .int .i64 m.re, .int .i64 m.fa, .slice m.prl m.rl.length m.crl].toArray 29 (0, 0))] (fun v Hs => (∃ y : Int, v = .int .i64 y) ∧ Hs = [H1, single b (.cells [.slice m.psi m.si.length m.csi, .slice m.pfe m.fe.length m.cfe, .slice m.prk m.rk.length m.crk, .slice m.pmc m.mc.length m.cmc, .slice m.pln m.ln.length m.cln, .slice m.pis m.is.length m.cis, .int .i64 m.da, .int .i64 m.sl, .int .i64 m.re, .int .i64 m.fa, .slice m.prl m.rl.length m.crl].toArray 29 (0, 0))]) := by
  refine Ct.body Tryz.func159 rfl Tryz.ntmps159 rfl ?_
  intro E F
  refine q_sr (q_an ?_)
  refine q_sr (q_an ?_)
  refine W.ret ?_
  exact q_r [1, 2] (.cons (.tmp rfl) .nil) rfl rfl rfl ⟨⟨_, rfl⟩, rfl⟩
set_option maxRecDepth 100000 in
set_option maxHeartbeats 400000 in
theorem itemKind_ct (z : Int) : Ct Tryz.prog 162 [.int .i64 z] [] (fun v Hs => (∃ y : Int, v = .int .i64 y) ∧ Hs = []) := by
  refine Ct.body Tryz.func162 rfl Tryz.ntmps162 rfl ?_
  intro E F
  refine q_sr (q_an ?_)
  refine W.seq (q_sr (q_q q_mv (q_nn (W.block (q_sr (q_q (q_b BinV.eql) (q_an ?_)))))))
  first | refine W.condD rfl (fun hc4 => ?_) (fun hc4 => ?_) | (refine W.cond rfl (fun hc4 => ?_) (fun hc4 => ?_) <;> try simp only [Bool.or_eq_true, Bool.and_eq_true, Bool.not_eq_true', Bool.not_eq_false', decide_eq_true_eq, Bool.or_eq_false_iff, Bool.and_eq_false_iff, decide_eq_false_iff_not, beq_iff_eq, beq_eq_false_iff_ne, ne_eq, Decidable.not_not] at hc4)
  ·
   refine q_sr (q_an ?_)
   refine q_k [2] [0] ?_
   refine W.ret (N.block_ret (N.then_ret ?_))
   exact q_r [] (.cons (.tmp rfl) .nil) rfl rfl rfl ⟨⟨_, rfl⟩, rfl⟩
  ·
   refine q_sr (q_q (q_b BinV.eql) (q_an ?_))
   refine q_k [6] [0] ?_
   first | refine W.condD rfl (fun hc6 => ?_) (fun hc6 => ?_) | (refine W.cond rfl (fun hc6 => ?_) (fun hc6 => ?_) <;> try simp only [Bool.or_eq_true, Bool.and_eq_true, Bool.not_eq_true', Bool.not_eq_false', decide_eq_true_eq, Bool.or_eq_false_iff, Bool.and_eq_false_iff, decide_eq_false_iff_not, beq_iff_eq, beq_eq_false_iff_ne, ne_eq, Decidable.not_not] at hc6)
   ·
    refine q_sr (q_an ?_)
    refine W.ret (N.block_ret (N.then_ret ?_))
    exact q_r [] (.cons (.tmp rfl) .nil) rfl rfl rfl ⟨⟨_, rfl⟩, rfl⟩
   ·
    refine W.skip (N.block_normal (N.next (q_sr (q_an ?_))))
    refine W.ret ?_
    exact q_r [] (.cons (.tmp rfl) .nil) rfl rfl rfl ⟨⟨_, rfl⟩, rfl⟩
set_option maxRecDepth 100000 in
set_option maxHeartbeats 400000 in
theorem each10_ct (m : Md) (H1 : PH) (hM : m.In H1) (b : Nat) (i : Nat) (x : It) (hx : m.is[i]? = some x) : Ct Tryz.prog 161 [.int .i64 i, .pointer (some ⟨b, 0, none⟩)] [H1, single b (.cells [.slice m.psi m.si.length m.csi, .slice m.pfe m.fe.length m.cfe, .slice m.prk m.rk.length m.crk, .slice m.pmc m.mc.length m.cmc, .slice m.pln m.ln.length m.cln, .slice m.pis m.is.length m.cis, .int .i64 m.da, .int .i64 m.sl, .int .i64 m.re, .int .i64 m.fa, .slice m.prl m.rl.length m.crl].toArray 29 (0, 0))] (fun v Hs => (∃ y : Int, v = .int .i64 y) ∧ Hs = [H1, single b (.cells [.slice m.psi m.si.length m.csi, .slice m.pfe m.fe.length m.cfe, .slice m.prk m.rk.length m.crk, .slice m.pmc m.mc.length m.cmc, .slice m.pln m.ln.length m.cln, .slice m.pis m.is.length m.cis, .int .i64 m.da, .int .i64 m.sl, .int .i64 m.re, .int .i64 m.fa, .slice m.prl m.rl.length m.crl].toArray 29 (0, 0))]) := by
  refine Ct.body Tryz.func161 rfl Tryz.ntmps161 rfl ?_
  intro E F
  have hSl := hM.is
  have hmx := hSl.len_le
  simp only [List.length_map, maxLen] at hmx
  have hl : (m.is.map It.c)[i]? = some x.c := by simp [hx]
  have hlt := (List.getElem?_eq_some_iff.1 hx).1
  refine q_sr (q_an ?_)
  refine q_sr (q_q (q_fa fo29_5) (q_q (q_l 2 u26) (q_q q_mv ?_)))
  refine q_q (q_ix u26 sz64) (q_q (q_fa fo64_1) ?_)
  refine q_q (by first | exact q_rF 1 1 u3 | exact q_rF 2 1 u3) ?_
  refine q_e (q_c ent162 [] [] (itemKind_ct x.kd)) ?_
  rintro _ _ ⟨_, ⟨⟨y, rfl⟩, rfl⟩, rfl⟩
  refine q_an ?_
  refine q_k [3] [0, 1, 2] ?_
  refine W.ret ?_
  exact q_r [1, 2] (.cons (.tmp rfl) .nil) rfl rfl rfl ⟨⟨_, rfl⟩, rfl⟩
structure Cat.ER where
  f : Nat
  cf : List Value
  g : Nat
  cg : List Value
  n : Nat
  nm : List Ky
def Cat.ER.c (r : ER) : List Value := [.int .i64 r.n, .func (.func r.f) [].toArray r.cf.toArray, .func (.func r.g) [].toArray r.cg.toArray]
def Cat.eRows (m : Md) (b : Nat) : List ER := [⟨152, [.pointer (some ⟨b, 0, none⟩)], 153, [], m.si.length, m.si⟩, ⟨154, [.pointer (some ⟨b, 0, none⟩)], 155, [], m.fe.length, m.fe⟩, ⟨156, [.pointer (some ⟨b, 0, none⟩)], 157, [], m.rk.length, m.rk.map (·.nm)⟩, ⟨158, [.pointer (some ⟨b, 0, none⟩)], 159, [], m.mc.length, m.mc.map (·.nm)⟩, ⟨160, [.pointer (some ⟨b, 0, none⟩)], 161, [.pointer (some ⟨b, 0, none⟩)], m.is.length, m.is.map (·.nm)⟩]
structure Cat.ERok (m : Md) (H1 : PH) (b : Nat) (r : ER) : Prop where
  ef : Ent Tryz.prog r.f
  eg : Ent Tryz.prog r.g
  len : r.n = r.nm.length
  cf : ∀ (i : Nat) s, r.nm[i]? = some s → Ct Tryz.prog r.f (.int .i64 i :: r.cf) [H1, single b (.cells [.slice m.psi m.si.length m.csi, .slice m.pfe m.fe.length m.cfe, .slice m.prk m.rk.length m.crk, .slice m.pmc m.mc.length m.cmc, .slice m.pln m.ln.length m.cln, .slice m.pis m.is.length m.cis, .int .i64 m.da, .int .i64 m.sl, .int .i64 m.re, .int .i64 m.fa, .slice m.prl m.rl.length m.crl].toArray 29 (0, 0))] (fun v Hs => v = .string s ∧ Hs = [H1, single b (.cells [.slice m.psi m.si.length m.csi, .slice m.pfe m.fe.length m.cfe, .slice m.prk m.rk.length m.crk, .slice m.pmc m.mc.length m.cmc, .slice m.pln m.ln.length m.cln, .slice m.pis m.is.length m.cis, .int .i64 m.da, .int .i64 m.sl, .int .i64 m.re, .int .i64 m.fa, .slice m.prl m.rl.length m.crl].toArray 29 (0, 0))])
  cg : ∀ (i : Nat), i < r.nm.length → Ct Tryz.prog r.g (.int .i64 i :: r.cg) [H1, single b (.cells [.slice m.psi m.si.length m.csi, .slice m.pfe m.fe.length m.cfe, .slice m.prk m.rk.length m.crk, .slice m.pmc m.mc.length m.cmc, .slice m.pln m.ln.length m.cln, .slice m.pis m.is.length m.cis, .int .i64 m.da, .int .i64 m.sl, .int .i64 m.re, .int .i64 m.fa, .slice m.prl m.rl.length m.crl].toArray 29 (0, 0))] (fun v Hs => (∃ y : Int, v = .int .i64 y) ∧ Hs = [H1, single b (.cells [.slice m.psi m.si.length m.csi, .slice m.pfe m.fe.length m.cfe, .slice m.prk m.rk.length m.crk, .slice m.pmc m.mc.length m.cmc, .slice m.pln m.ln.length m.cln, .slice m.pis m.is.length m.cis, .int .i64 m.da, .int .i64 m.sl, .int .i64 m.re, .int .i64 m.fa, .slice m.prl m.rl.length m.crl].toArray 29 (0, 0))])
theorem Cat.flat_e (m : Md) (b : Nat) : (eRows m b).flatMap (·.nm) = namesOf m := by simp [eRows, namesOf]
theorem Cat.e_take {m : Md} {b k : Nat} {r : ER} (h : (eRows m b)[k]? = some r) : ((eRows m b).take (k + 1)).flatMap (·.nm) = ((eRows m b).take k).flatMap (·.nm) ++ r.nm := by
  rw [List.take_add_one, h, List.flatMap_append]; simp
theorem Cat.e_len {m : Md} {b k : Nat} : (((eRows m b).take k).flatMap (·.nm)).length ≤ (namesOf m).length := by
  rw [← flat_e m b]
  conv => rhs; rw [← List.take_append_drop k (eRows m b), List.flatMap_append, List.length_append]
  omega
theorem Cat.ns_len (m : Md) : (namesOf m).length = m.si.length + m.fe.length + m.rk.length + m.mc.length + m.is.length := by simp [namesOf]; omega
theorem nm_at {α : Type} {f : α → Ky} {l : List α} {i : Nat} {s : Ky} (h : (l.map f)[i]? = some s) : ∃ x, l[i]? = some x ∧ f x = s := by
  rw [List.getElem?_map] at h
  cases hx : l[i]? with
  | none => rw [hx] at h; cases h
  | some x => rw [hx] at h; exact ⟨x, rfl, Option.some.inj h⟩
theorem erows_ok (m : Md) (H1 : PH) (hM : m.In H1) (b : Nat) : ∀ r ∈ eRows m b, ERok m H1 b r := by
  intro r hr
  simp only [eRows, List.mem_cons, List.not_mem_nil, or_false] at hr
  rcases hr with rfl | rfl | rfl | rfl | rfl
  · exact ⟨ent152, ent153, (by simp), (fun i s h => each1_ct m H1 hM b i s h), (fun i hi => each2_ct m H1 b i)⟩
  · exact ⟨ent154, ent155, (by simp), (fun i s h => each3_ct m H1 hM b i s h), (fun i hi => each4_ct m H1 b i)⟩
  · exact ⟨ent156, ent157, (by simp), (fun i s h => by
    obtain ⟨x, hx, rfl⟩ := nm_at h
    exact each5_ct m H1 hM b i x hx), (fun i hi => each6_ct m H1 b i)⟩
  · exact ⟨ent158, ent159, (by simp), (fun i s h => by
    obtain ⟨x, hx, rfl⟩ := nm_at h
    exact each7_ct m H1 hM b i x hx), (fun i hi => each8_ct m H1 b i)⟩
  · exact ⟨ent160, ent161, (by simp), (fun i s h => by
    obtain ⟨x, hx, rfl⟩ := nm_at h
    exact each9_ct m H1 hM b i x hx), (fun i hi => each10_ct m H1 hM b i _ (List.getElem?_eq_getElem (by simpa using hi)))⟩
set_option maxRecDepth 100000 in
set_option maxHeartbeats 400000 in
theorem namesC_ct (bo : Nat) (out : List Ky) (HO : PH) (po : Option Addr) (co : Nat) (hO : Own HO po co 9 1 (tz out)) (hb : out.length ≤ 100000) (s : Ky) (y z : Int) : Ct Tryz.prog 118 [.string s, .int .i64 y, .int .i64 z, .pointer (some ⟨bo, 0, none⟩)] [single bo (.cells [.slice po out.length co].toArray 22 (0, 0)), HO] (fun v Hs => ∃ H' p' c', v = .bool false ∧ Own H' p' c' 9 1 (tz (out ++ [s])) ∧ Hs = [single bo (.cells [.slice p' (out ++ [s]).length c'].toArray 22 (0, 0)), H']) := by
  refine Ct.body Tryz.func118 rfl Tryz.ntmps118 rfl ?_
  intro E F
  refine q_sr (q_an ?_)
  refine q_sr (q_q (q_l 1 u22) (q_q q_mv ?_))
  refine q_e (Eff.buildSlice 110 u22 sz9 zc9 rfl rfl (.cons rfl rfl .nil) rfl) ?_
  rintro _ _ ⟨b10, rfl, rfl⟩
  refine q_e (Eff.appendE (tc := 2) (sc := 110) (ms := [s]) (fun s : Ky => [Value.string s]) u22 el9 rfl rfl rfl rfl hO rfl (Own.one (l := [Value.string s]) rfl (by simp [Value.oneCell']) rfl).sl rfl (tz_one1 _) (by decide) (by simp; omega) (by simp [maxLen]; omega)) ?_
  rintro _ _ ⟨Ha, pa, ca, rfl, hOa, rfl⟩
  refine q_s 1 sz22 ?_
  refine q_nn ?_
  refine W.keep .nil (.of [0, 1, 2, 110] rfl) (q_sr (q_an ?_))
  refine W.ret ?_
  exact q_r [1, 2] (.cons (.tmp rfl) .nil) rfl rfl rfl ⟨Ha, pa, ca, rfl, hOa, rfl⟩
structure Cat.EO where
  k : Nat
  H : PH
  p : Option Addr
  c : Nat
set_option maxRecDepth 100000 in
set_option maxHeartbeats 3200000 in
theorem each_ct (m : Md) (H1 : PH) (hM : m.In H1) (hn : (namesOf m).length ≤ 10000) (bo : Nat) (out : List Ky) (HO : PH) (po : Option Addr) (co : Nat) (hO : Own HO po co 9 1 (tz out)) (hb : out.length ≤ 1000) : Ct Tryz.prog 117 [.agg [.slice m.psi m.si.length m.csi, .slice m.pfe m.fe.length m.cfe, .slice m.prk m.rk.length m.crk, .slice m.pmc m.mc.length m.cmc, .slice m.pln m.ln.length m.cln, .slice m.pis m.is.length m.cis, .int .i64 m.da, .int .i64 m.sl, .int .i64 m.re, .int .i64 m.fa, .slice m.prl m.rl.length m.crl].toArray, .func (.func 118) [].toArray [.pointer (some ⟨bo, 0, none⟩)].toArray] [H1, single bo (.cells [.slice po out.length co].toArray 22 (0, 0)), HO] (fun v Hs => ∃ H' p' c', v = .tuple #[] ∧ Own H' p' c' 9 1 (tz (out ++ namesOf m)) ∧ Hs = [H1, single bo (.cells [.slice p' (out ++ namesOf m).length c'].toArray 22 (0, 0)), H']) := by
  refine Ct.body Tryz.func117 rfl Tryz.ntmps117 rfl ?_
  intro E F
  refine q_sr ?_
  refine q_bx 102 fun b2 => ?_
  refine q_nn (q_sr (q_q (q_fa fo29_0) (q_q (q_l 102 u22) (q_q (q_n u22) ?_))))
  refine q_q (Yld.makeFunc eval0 (eval1 rfl)) ?_
  refine q_q (Yld.buildP lay203 (.cons rfl rfl (.cons rfl rfl (.cons rfl rfl .nil))) rfl) (q_q (q_fa fo29_1) (q_q (q_l 102 u22) (q_q (q_n u22) ?_)))
  refine q_q (Yld.makeFunc eval0 (eval1 rfl)) ?_
  refine q_q (Yld.buildP lay203 (.cons rfl rfl (.cons rfl rfl (.cons rfl rfl .nil))) rfl) (q_q (q_fa fo29_2) (q_q (q_l 102 u23) (q_q (q_n u23) ?_)))
  refine q_q (Yld.makeFunc eval0 (eval1 rfl)) ?_
  refine q_q (Yld.buildP lay203 (.cons rfl rfl (.cons rfl rfl (.cons rfl rfl .nil))) rfl) (q_q (q_fa fo29_3) (q_q (q_l 102 u24) (q_q (q_n u24) ?_)))
  refine q_q (Yld.makeFunc eval0 (eval1 rfl)) ?_
  refine q_q (Yld.buildP lay203 (.cons rfl rfl (.cons rfl rfl (.cons rfl rfl .nil))) rfl) (q_q (q_fa fo29_5) (q_q (q_l 102 u26) (q_q (q_n u26) ?_)))
  refine q_q (Yld.makeFunc eval0 (eval1 rfl)) ?_
  refine q_q (Yld.makeFunc eval0 (eval1 rfl)) ?_
  refine q_q (Yld.buildP lay203 (.cons rfl rfl (.cons rfl rfl (.cons rfl rfl .nil))) rfl) ?_
  refine q_e (Eff.buildSlice 134 u204 sz203 zc203 rfl rfl (.cons rfl rfl (.cons rfl rfl (.cons rfl rfl (.cons rfl rfl (.cons rfl rfl .nil))))) rfl) ?_
  rintro _ _ ⟨b34, rfl, rfl⟩
  refine q_an ?_
  refine q_k [1, 4] [0, 1, 2, 3, 102, 134] ?_
  refine q_sr (q_q q_mv (q_q (q_n u204) (q_q q_mv (q_nn (W.block ?_)))))
  refine W.loopK (ι := EO) (fun x => (x.k ≤ 5 ∧ Own x.H x.p x.c 9 1 (tz (out ++ ((eRows m b2).take x.k).flatMap (·.nm))))) (fun x => [(37, .int .i64 (x.k : Nat))]) (fun x => [(2, single bo (.cells [.slice x.p (out ++ ((eRows m b2).take x.k).flatMap (·.nm)).length x.c].toArray 22 (0, 0))), (3, x.H)]) (fun x => 5 - x.k) (.of [1, 35, 36] rfl) (.of [0, 1, 102, 134] rfl) ⟨0, HO, po, co⟩ ?_ ?_ ?_ ?_
  · exact ⟨Nat.zero_le _, by rw [List.take_zero, List.flatMap_nil, List.append_nil]; exact hO⟩
  · exact (q_a .nil)
  · exact (.as rfl (by rw [List.take_zero, List.flatMap_nil, List.append_nil]) (.to rfl))
  rintro x ⟨hk, hOx⟩
  refine q_k [37, 1, 35, 36] [2, 3, 0, 1, 102, 134] ?_
  refine q_sr (q_q (q_b BinV.lss) (q_nn (W.seq ?_)))
  first | refine W.condD rfl (fun hc38 => ?_) (fun hc38 => ?_) | (refine W.cond rfl (fun hc38 => ?_) (fun hc38 => ?_) <;> try simp only [Bool.or_eq_true, Bool.and_eq_true, Bool.not_eq_true', Bool.not_eq_false', decide_eq_true_eq, Bool.or_eq_false_iff, Bool.and_eq_false_iff, decide_eq_false_iff_not, beq_iff_eq, beq_eq_false_iff_ne, ne_eq, Decidable.not_not] at hc38)
  ·
   have hk5 : x.k < 5 := by omega
   obtain ⟨r, hr⟩ : ∃ r, (eRows m b2)[x.k]? = some r := ⟨_, List.getElem?_eq_getElem (show x.k < (eRows m b2).length by simp [eRows]; omega)⟩
   have hlr : ((eRows m b2).map ER.c)[x.k]? = some r.c := by rw [List.getElem?_map, hr]; rfl
   have hRl : Sl (single b34 (.cells ((eRows m b2).map ER.c).flatten.toArray 203 (0, 0))) (some ⟨b34, 0, none⟩) 5 3 ((eRows m b2).map ER.c) := (Own.mk (e := 203) (n := 3) (c := 5) [] (by intro l hl; obtain ⟨r, _, rfl⟩ := List.mem_map.1 hl; exact ⟨rfl, by simp [ER.c, Value.oneCell']⟩) (by simp [eRows]) (by simp [maxLen]) (by rfl) (by rfl)).sl
   have hre5 : (eRows m b2).length = 5 := rfl
   have hok := erows_ok m H1 hM b2 r (List.mem_of_getElem? hr)
   have hrn := hok.len
   have hnx := e_take hr
   have hnx : out ++ ((eRows m b2).take (x.k + 1)).flatMap (·.nm) = (out ++ ((eRows m b2).take x.k).flatMap (·.nm)) ++ r.nm := by rw [hnx, List.append_assoc]
   have hel := e_len (m := m) (b := b2) (k := x.k + 1)
   have hll : (out ++ ((eRows m b2).take (x.k + 1)).flatMap (·.nm)).length ≤ 11000 := by rw [List.length_append]; omega
   rw [hnx, List.length_append] at hll
   refine W.skip (N.next (W.seq (W.block (q_sr ?_))))
   refine q_q (Yld.indexRow u204 sz203 rfl rfl hRl (by first | rfl | omega | (simp; done) | (simp; omega)) (by omega) (by first | omega | (simp; done) | (simp; omega))) ?_
   refine q_q (Yld.eq (v' := .agg r.c.toArray) (Yld.loadRow (cl := 134) u203 rfl sz203 rfl rfl hRl hlr) rfl) ?_
   refine q_al 106 zc203 fun b6 => ?_
   refine q_s 106 sz203 ?_
   refine q_nn (q_sr (q_q (q_fa fo203_0) (q_q (q_l 106 u3) (q_q q_mv (q_nn (q_k [1, 6, 35, 36, 37, 42, 43] [0, 1, 2, 3, 102, 106, 134] ?_))))))
   refine W.block ?_
   refine W.loopK (ι := EO) (fun y => (y.k ≤ r.nm.length ∧ Own y.H y.p y.c 9 1 (tz ((out ++ ((eRows m b2).take x.k).flatMap (·.nm)) ++ r.nm.take y.k)))) (fun y => [(43, .int .i64 (y.k : Nat))]) (fun y => [(2, single bo (.cells [.slice y.p ((out ++ ((eRows m b2).take x.k).flatMap (·.nm)) ++ r.nm.take y.k).length y.c].toArray 22 (0, 0))), (3, y.H)]) (fun y => r.nm.length - y.k) (.of [1, 6, 35, 36, 37, 42] rfl) (.of [0, 1, 102, 106, 134] rfl) ⟨0, x.H, x.p, x.c⟩ ?_ ?_ ?_ ?_
   · exact ⟨Nat.zero_le _, by rw [List.take_zero, List.append_nil]; exact hOx⟩
   · exact (q_a .nil)
   · exact (.as rfl (by rw [List.take_zero, List.append_nil]) (.to rfl))
   rintro y ⟨hy, hOy⟩
   refine q_k [43, 1, 6, 35, 36, 37, 42] [2, 3, 0, 1, 102, 106, 134] ?_
   refine q_sr (q_q (q_b BinV.lss) (q_nn (W.seq ?_)))
   first | refine W.condD rfl (fun hc44 => ?_) (fun hc44 => ?_) | (refine W.cond rfl (fun hc44 => ?_) (fun hc44 => ?_) <;> try simp only [Bool.or_eq_true, Bool.and_eq_true, Bool.not_eq_true', Bool.not_eq_false', decide_eq_true_eq, Bool.or_eq_false_iff, Bool.and_eq_false_iff, decide_eq_false_iff_not, beq_iff_eq, beq_eq_false_iff_ne, ne_eq, Decidable.not_not] at hc44)
   ·
    obtain ⟨sn, hsn⟩ : ∃ sn, r.nm[y.k]? = some sn := ⟨_, List.getElem?_eq_getElem (show y.k < r.nm.length by omega)⟩
    have hsx : (out ++ ((eRows m b2).take x.k).flatMap (·.nm)) ++ r.nm.take (y.k + 1) = ((out ++ ((eRows m b2).take x.k).flatMap (·.nm)) ++ r.nm.take y.k) ++ [sn] := by rw [List.take_add_one, hsn]; simp
    have hlo : ((out ++ ((eRows m b2).take x.k).flatMap (·.nm)) ++ r.nm.take y.k).length ≤ 11000 := by rw [List.length_append, List.length_take]; omega
    refine W.skip (N.next (W.seq (W.block (q_sr (q_q q_mv (q_an ?_))))))
    refine W.seq ?_
    refine W.draw (.q 0 (.q 1 (.q 2 (.q 3 (.q 5 (.q 6 (.q 7 (.q 9 (.q 10 (.one 4 (.one 8 (.one 11 .done)))))))))))) (.of [0, 1, 102, 106, 134] rfl) mix (by kernel_rfl) (by kernel_rfl) (q_d rfl q_mv (q_d rfl (q_fa fo203_1) (q_d rfl (q_l 106 u202) (q_d rfl q_mv (q_d rfl (q_fa fo203_2) (q_d rfl (q_l 106 u85) (q_d rfl q_mv (q_d rfl q_mv ?_))))))))
    refine q_d rfl q_ad ?_
    refine q_o rfl (Eff.callV hok.ef [1, 102] [1, 102] rfl (.cons rfl .nil) (hok.cf y.k sn hsn) rfl rfl rfl rfl (by rintro _ _ ⟨_, rfl⟩; rfl)) ?_
    rintro _ _ ⟨_, ⟨rfl, rfl⟩, rfl⟩
    refine q_o rfl (Eff.callV hok.eg [1, 102] [1, 102] rfl (.cons rfl .nil) (hok.cg y.k (List.getElem?_eq_some_iff.1 hsn).1) rfl rfl rfl rfl (by rintro _ _ ⟨_, rfl⟩; rfl)) ?_
    rintro _ _ ⟨_, ⟨⟨z, rfl⟩, rfl⟩, rfl⟩
    refine q_o rfl (Eff.callV ent118 [2, 3] [2, 3] rfl (.cons rfl (.cons rfl (.cons rfl .nil))) (namesC_ct bo _ y.H y.p y.c hOy (by omega) sn z _) rfl rfl rfl rfl (by rintro _ _ ⟨_, _, _, _, _, rfl⟩; rfl)) ?_
    rintro _ _ ⟨_, ⟨Hd, pd, cd, rfl, hOd, rfl⟩, rfl⟩
    refine DL.done (N.next (q_k [1, 6, 35, 36, 37, 42, 43, 57] [0, 1, 2, 3, 102, 106, 134] ?_))
    first | (refine W.as (t := 57) rfl (boolF (by first | assumption | omega | (simp; done))) ?_; refine W.condF rfl ?_) | refine W.condF rfl ?_
    refine W.skip (N.block_normal (N.next (W.region ?_)))
    refine q_q q_ad (q_q q_mv (RL.nil ?_))
    exact N.famK ⟨y.k + 1, Hd, pd, cd⟩ ⟨⟨by dsimp only; omega, by dsimp only; rw [hsx]; exact hOd⟩, by dsimp only; omega⟩ (q_a .nil) (.to rfl) (.as rfl (by rw [hsx]) (.to rfl)) (.to rfl)
   ·
    have hendy : y.k = r.nm.length := by omega
    rw [hendy, List.take_length] at hOy ⊢
    refine W.exit (N.then_exit (N.then_exit (N.block_eq (N.block_normal (N.next (q_k [1, 35, 36, 37] [0, 1, 2, 3, 102, 106, 134] ?_))))))
    refine W.region ?_
    refine q_q q_ad (q_q q_mv (RL.nil ?_))
    exact N.famK ⟨x.k + 1, y.H, y.p, y.c⟩ ⟨⟨by dsimp only; omega, by dsimp only; rw [hnx]; exact hOy⟩, by dsimp only; omega⟩ (q_a .nil) (.to rfl) (.as rfl (by rw [hnx]) (.to rfl)) (.to rfl)
  ·
   have hend : x.k = 5 := by omega
   have hfl : out ++ ((eRows m b2).take x.k).flatMap (·.nm) = out ++ namesOf m := by rw [hend, ← flat_e m b2]; rfl
   rw [hfl] at hOx ⊢
   refine W.exit (N.then_exit (N.then_exit (N.block_eq ?_)))
   exact N.endBy [1, 2, 3] .nil rfl rfl rfl rfl ⟨x.H, x.p, x.c, rfl, hOx, rfl⟩
set_option maxRecDepth 100000 in
set_option maxHeartbeats 400000 in
theorem names_ct (m : Md) (H1 : PH) (hM : m.In H1) (hn : (namesOf m).length ≤ 10000) : Ct Tryz.prog 68 [.agg [.slice m.psi m.si.length m.csi, .slice m.pfe m.fe.length m.cfe, .slice m.prk m.rk.length m.crk, .slice m.pmc m.mc.length m.cmc, .slice m.pln m.ln.length m.cln, .slice m.pis m.is.length m.cis, .int .i64 m.da, .int .i64 m.sl, .int .i64 m.re, .int .i64 m.fa, .slice m.prl m.rl.length m.crl].toArray] [H1] (fun v Hs => ∃ H' p' c', v = .slice p' (namesOf m).length c' ∧ Own H' p' c' 9 1 (tz (namesOf m)) ∧ Hs = [H1, H']) := by
  refine Ct.body Tryz.func68 rfl Tryz.ntmps68 rfl ?_
  intro E F
  refine q_sr ?_
  refine q_bx 101 fun b1 => ?_
  refine q_an ?_
  refine q_sr ?_
  refine q_al 103 zc22 fun b3 => ?_
  refine q_nn (W.seq ?_)
  refine W.imp (Imp.empty _ 160) (W.region (q_q (q_lw 101 u29 sz29) ?_))
  refine q_q (Yld.makeFunc eval0 (eval1 rfl)) ?_
  refine q_e (Eff.call ent117 [1, 103, 160] [1, 103, 160] (.cons rfl (.cons rfl .nil)) (each_ct m H1 hM hn b3 [] emp none 0 (Own.nil _ _) (by simp)) rfl rfl rfl rfl (by rintro _ _ ⟨_, _, _, _, _, rfl⟩; rfl)) ?_
  rintro _ _ ⟨_, ⟨Hn, pn, cn, rfl, hOn, rfl⟩, rfl⟩
  rw [List.nil_append] at hOn ⊢
  refine q_nn (q_k [3] [0, 1, 101, 103, 160] ?_)
  refine q_sr (q_q (q_l 103 u22) (q_an ?_))
  refine W.ret ?_
  exact q_r [1, 160] (.cons (.tmp rfl) .nil) rfl rfl rfl ⟨Hn, pn, cn, rfl, hOn, rfl⟩
end Go.Proofs.YtboapdcmaeojgaaGreatDoor
namespace Go.Proofs.YtboapdcmaeojgaaGreatDoor
open SL Cat
set_option linter.unusedVariables false
set_option linter.unusedSimpArgs false
theorem ent119 : Ent Tryz.prog 119 := ⟨_, _, Tryz.func119, by kernel_rfl, rfl⟩
theorem ent190 : Ent Tryz.prog 190 := ⟨_, _, Tryz.func190, by kernel_rfl, rfl⟩
theorem ent163 : Ent Tryz.prog 163 := ⟨_, _, Tryz.func163, by kernel_rfl, rfl⟩
set_option maxRecDepth 100000 in
set_option maxHeartbeats 400000 in
theorem oddC_ct (c : Int) : Ct Tryz.prog 119 [.int .i32 c] [] (fun v Hs => v = .bool (decide (¬ goodC c)) ∧ Hs = []) := by
  refine Ct.body Tryz.func119 rfl Tryz.ntmps119 rfl ?_
  intro E F
  refine q_sr (q_an ?_)
  refine q_sr (q_q q_mv (q_q (q_b BinV.lss) (q_q q_mv ?_)))
  refine' q_or 5 8 3 [0, 2, 3, 4] [0] ?_ ?_ ?_
  rotate_left 1
  ·
   intro hg5
   refine q_g q_mv (q_g (q_b BinV.gtr) (q_q Yld.pk ?_))
   exact q_m
  ·
   intro hg5
   refine q_gs (q_gs (q_q Yld.pk ?_))
   exact q_m
  refine q_q q_mv ?_
  refine' q_and 9 16 7 [0, 2, 3, 4, 8] [0] ?_ ?_ ?_
  rotate_left 1
  ·
   intro hg9
   refine q_g q_mv (q_g (q_b BinV.lss) (q_g q_mv ?_))
   refine' q_or 12 15 3 [0, 2, 3, 4, 8, 9, 10, 11] [0] ?_ ?_ ?_
   rotate_left 1
   ·
    intro hg12
    refine q_g q_mv (q_g (q_b BinV.gtr) (q_g Yld.pk ?_))
    exact q_m
   ·
    intro hg12
    refine q_gs (q_gs (q_g Yld.pk ?_))
    exact q_m
   refine q_q Yld.pk ?_
   exact q_m
  ·
   intro hg9
   repeat refine q_gs ?_
   refine RL.gskipU rfl rfl rfl ?_
   refine RL.gskipU rfl rfl rfl (q_gs (q_q Yld.pk ?_))
   exact q_m
  refine q_q q_mv ?_
  refine' q_and 17 20 3 [0, 2, 3, 4, 8, 16] [0] ?_ ?_ ?_
  rotate_left 1
  ·
   intro hg17
   refine q_g q_mv (q_g (q_b BinV.neq) (q_q Yld.pk ?_))
   exact q_m
  ·
   intro hg17
   refine q_gs (q_gs (q_q Yld.pk ?_))
   exact q_m
  refine q_an ?_
  refine q_k [2] [0] ?_
  refine W.ret ?_
  exact q_r [] (.cons (.tmp rfl) .nil) rfl rfl rfl ⟨by show Value.bool _ = Value.bool _; congr 1; rw [Bool.eq_iff_iff]; (try simp only [Bool.and_eq_true, Bool.or_eq_true, decide_eq_true_eq]); unfold goodC; omega, rfl⟩
set_option maxRecDepth 100000 in
set_option maxHeartbeats 400000 in
theorem indexFuncS_ct (s : Ky) (hs : s.size ≤ 9223372036854775807) : Ct Tryz.prog 190 [.string s, .func (.func 119) [].toArray [].toArray, .bool true] [] (fun v Hs => (∃ r : Int, v = .int .i64 r ∧ decide (0 ≤ r) = !pB (AllGood s s.size)) ∧ Hs = []) := by
  refine Ct.body Tryz.func190 rfl Tryz.ntmps190 rfl ?_
  intro E F
  refine q_sr (q_an ?_)
  refine W.seq (q_sr (q_q q_mv ?_))
  refine q_e (Eff.rangeS 110 u9 rfl) ?_
  rintro _ _ ⟨r10, rfl, rfl⟩
  refine q_nn (W.block ?_)
  refine W.loopK (ι := Nat) (fun p => (p ≤ s.size ∧ AllGood s p)) (fun p => []) (fun p => [(110, single r10 (.stringIter s p))]) (fun p => s.size - p) (.of [1, 2, 10] rfl) (.of [0] rfl) 0 ?_ ?_ ?_ ?_
  · exact ⟨Nat.zero_le _, fun _ h => absurd h (Nat.not_lt_zero _)⟩
  · exact .nil
  · exact (.to rfl)
  rintro p ⟨hp, hI⟩
  refine q_k [1, 2, 10] [110, 0] ?_
  refine q_sr ?_
  refine q_e (Eff.nextS (c := 110) rfl rfl) ?_
  rintro _ _ ⟨rfl, rfl⟩
  refine q_q (Yld.extract rfl (nxS_ok _ _)) (q_nn (W.seq ?_))
  refine W.cond rfl (fun hc12 => ?_) (fun hc12 => ?_)
  ·
   have hlt : p < s.size := of_decide_eq_true hc12
   refine W.skip (N.next (W.block (q_sr ?_)))
   refine q_q (Yld.extract rfl (nxS_at (by assumption))) ?_
   refine q_q (Yld.extract rfl (nxS_rune (by assumption))) (q_q q_as (q_an ?_))
   refine q_k [1, 2, 7, 8, 10] [0, 110] ?_
   refine q_sr (q_q q_mv (q_q q_mv ?_))
   refine q_e (Eff.callV ent119 [] [] rfl (.cons rfl .nil) (oddC_ct _) rfl rfl rfl rfl (by rintro _ _ ⟨_, rfl⟩; rfl)) ?_
   rintro _ _ ⟨_, ⟨rfl, rfl⟩, rfl⟩
   refine q_q q_mv ?_
   refine q_q (Yld.bin rfl rfl (BinV.eqlB u4)) (q_nn (q_k [1, 2, 7, 10, 19] [0, 110] ?_))
   refine W.cond rfl (fun hc19 => ?_) (fun hc19 => ?_)
   ·
    have hbad : ¬ AllGood s s.size := fun h => by
      have h1 := h p hlt
      have h2 := dec_lo (goodC_lt h1)
      rw [h2] at hc19
      have h3 : ¬ goodC (((s.get! p).toNat : Nat) : Int) := by simpa using hc19
      exact h3 h1
    refine q_sr (q_q q_mv (q_an ?_))
    refine q_k [6] [0, 110] ?_
    refine W.ret (N.block_ret (N.then_ret (N.block_ret (N.then_ret ?_))))
    exact q_r [] (.cons (.tmp rfl) .nil) rfl rfl rfl ⟨⟨_, rfl, by rw [decide_eq_true (show (0 : Int) ≤ p by omega), pB_not hbad]; rfl⟩, rfl⟩
   ·
    have hgr : goodC ((Utf8.decode s p).1 : Int) := by simpa using hc19
    have hlo : at_ s p < 128 := Classical.byContradiction fun h => by have := dec_hi h; have := goodC_lt hgr; omega
    have hd := dec_lo hlo
    have hg : goodC (at_ s p) := by rw [hd] at hgr; exact hgr
    have hdec : (Utf8.decode s p).2 = 1 := by rw [hd]
    refine W.skip (N.block_normal ?_)
    exact N.famK (p + 1) ⟨⟨by omega, hI.step hg⟩, by omega⟩ .nil (.to rfl) (.as rfl (by unfold nxP; rw [if_pos (by omega), hdec]) .nil) (.to rfl)
  ·
   have hend : p = s.size := by have := of_decide_eq_false hc12; omega
   refine W.exit (N.then_exit (N.then_exit (N.block_eq (N.next ?_))))
   refine W.keep .nil (.of [0, 110] rfl) (q_sr (q_an ?_))
   refine W.ret ?_
   exact q_r [] (.cons (.tmp rfl) .nil) rfl rfl rfl ⟨⟨_, rfl, by rw [pB_true (hend ▸ hI)]; rfl⟩, rfl⟩
set_option maxRecDepth 100000 in
set_option maxHeartbeats 400000 in
theorem indexFuncS1_ct (s : Ky) (hs : s.size ≤ 9223372036854775807) : Ct Tryz.prog 163 [.string s, .func (.func 119) [].toArray [].toArray] [] (fun v Hs => (∃ r : Int, v = .int .i64 r ∧ decide (0 ≤ r) = !pB (AllGood s s.size)) ∧ Hs = []) := by
  refine Ct.body Tryz.func163 rfl Tryz.ntmps163 rfl ?_
  intro E F
  refine q_sr (q_an ?_)
  refine q_sr (q_q q_mv (q_q q_mv ?_))
  refine q_e (q_c ent190 [] [] (indexFuncS_ct s hs)) ?_
  rintro _ _ ⟨_, ⟨⟨r, rfl, hr⟩, rfl⟩, rfl⟩
  refine q_an ?_
  refine q_k [4] [0] ?_
  refine W.ret ?_
  exact q_r [] (.cons (.tmp rfl) .nil) rfl rfl rfl ⟨⟨_, rfl, hr⟩, rfl⟩
set_option maxRecDepth 100000 in
set_option maxHeartbeats 400000 in
theorem containsFuncS_ct (s : Ky) (hs : s.size ≤ 9223372036854775807) : Ct Tryz.prog 120 [.string s, .func (.func 119) [].toArray [].toArray] [] (fun v Hs => v = .bool (!pB (AllGood s s.size)) ∧ Hs = []) := by
  refine Ct.body Tryz.func120 rfl Tryz.ntmps120 rfl ?_
  intro E F
  refine q_sr (q_an ?_)
  refine q_sr (q_q q_mv (q_q q_mv ?_))
  refine q_e (q_c ent163 [] [] (indexFuncS1_ct s hs)) ?_
  rintro _ _ ⟨_, ⟨⟨r, rfl, hr⟩, rfl⟩, rfl⟩
  refine q_q (q_b BinV.geq) (q_an ?_)
  refine q_k [4] [0] ?_
  refine W.ret ?_
  exact q_r [] (.cons (.tmp rfl) .nil) rfl rfl rfl ⟨by show Value.bool _ = _; congr 1, rfl⟩
end Go.Proofs.YtboapdcmaeojgaaGreatDoor
namespace Go.Proofs.YtboapdcmaeojgaaGreatDoor
open SL Cat
set_option linter.unusedVariables false
set_option linter.unusedSimpArgs false
theorem ent44 : Ent Tryz.prog 44 := ⟨_, _, Tryz.func44, by kernel_rfl, rfl⟩
theorem ent83 : Ent Tryz.prog 83 := ⟨_, _, Tryz.func83, by kernel_rfl, rfl⟩
theorem ent84 : Ent Tryz.prog 84 := ⟨_, _, Tryz.func84, by kernel_rfl, rfl⟩
theorem ent85 : Ent Tryz.prog 85 := ⟨_, _, Tryz.func85, by kernel_rfl, rfl⟩
set_option maxRecDepth 100000 in
set_option maxHeartbeats 1600000 in
theorem rracks_ct (m : Md) (H1 : PH) (hM : m.In H1) : Ct Tryz.prog 84 [.agg [.slice m.psi m.si.length m.csi, .slice m.pfe m.fe.length m.cfe, .slice m.prk m.rk.length m.crk, .slice m.pmc m.mc.length m.cmc, .slice m.pln m.ln.length m.cln, .slice m.pis m.is.length m.cis, .int .i64 m.da, .int .i64 m.sl, .int .i64 m.re, .int .i64 m.fa, .slice m.prl m.rl.length m.crl].toArray] [H1] (fun v Hs => v = .bool (pB (∀ (i : Nat) x, m.rk[i]? = some x → RkOK m i x)) ∧ Hs = [H1]) := by
  refine Ct.body Tryz.func84 rfl Tryz.ntmps84 rfl ?_
  intro E F
  have hSl := hM.rk
  have hmx := hSl.len_le
  simp only [List.length_map, maxLen] at hmx
  have hm0 := hM.si.len_le
  simp only [tz_len, maxLen] at hm0
  refine q_sr ?_
  refine q_bx 101 fun b1 => ?_
  refine q_an ?_
  refine W.seq (q_sr (q_an ?_))
  refine W.block ?_
  refine W.loopK (ι := Nat) (fun i => (i ≤ m.rk.length ∧ ∀ (k : Nat) x, k < i → m.rk[k]? = some x → RkOK m k x)) (fun i => [(3, .int .i64 (i : Nat))]) (fun i => []) (fun i => m.rk.length - i) (.of [1] rfl) (.of [0, 1, 101] rfl) 0 ?_ ?_ ?_ ?_
  · exact ⟨Nat.zero_le _, fun _ _ h => absurd h (Nat.not_lt_zero _)⟩
  · exact (q_a .nil)
  · exact .nil
  rintro i ⟨hi, hI⟩
  refine q_k [3, 1] [0, 1, 101] ?_
  refine W.seq (q_sr (q_q q_mv (q_q (q_fa fo29_2) (q_q (q_l 101 u23) (q_q (q_n u23) (q_q (q_b BinV.lss) (q_nn (q_k [1, 3, 10] [0, 1, 101] ?_))))))))
  first | refine W.condD rfl (fun hc10 => ?_) (fun hc10 => ?_) | (refine W.cond rfl (fun hc10 => ?_) (fun hc10 => ?_) <;> try simp only [Bool.or_eq_true, Bool.and_eq_true, Bool.not_eq_true', Bool.not_eq_false', decide_eq_true_eq, Bool.or_eq_false_iff, Bool.and_eq_false_iff, decide_eq_false_iff_not, beq_iff_eq, beq_eq_false_iff_ne, ne_eq, Decidable.not_not] at hc10)
  ·
   obtain ⟨x, hx⟩ : ∃ x, m.rk[i]? = some x := ⟨_, List.getElem?_eq_getElem (show i < m.rk.length by first | omega | (simp only [List.length_map] at *; omega))⟩
   have hlx : (m.rk.map Rk.c)[i]? = some x.c := by simp [hx]
   refine W.skip (N.next (W.seq (W.block (q_sr (q_q (q_fa fo29_2) (q_q (q_l 101 u23) (q_q q_mv ?_)))))))
   refine q_q (q_ix u23 sz93) ?_
   refine q_q (by first | exact q_rA 1 u93 sz93 | exact q_rA 101 u93 sz93) ?_
   refine q_al 104 zc93 fun b4 => ?_
   refine q_s 104 sz93 ?_
   refine q_nn (q_k [1, 3, 4] [0, 1, 101, 104] ?_)
   refine W.seq (q_sr (q_q (q_fa fo93_1) (q_q (q_l 104 u3) (q_q (q_fa fo29_0) (q_q (q_l 101 u22) (q_q (q_n u22) ?_))))))
   refine q_e (q_c ent44 [] [] (rexists_ct x.si m.si.length)) ?_
   rintro _ _ ⟨_, ⟨rfl, rfl⟩, rfl⟩
   refine q_q Yld.nt (q_q q_mv ?_)
   refine' q_or 25 33 8 [1, 3, 4, 18, 19, 20, 21, 22, 23, 24] [0, 1, 101, 104] ?_ ?_ ?_
   rotate_left 1
   ·
    intro hg25
    refine q_g (q_fa fo93_2) (q_g (q_l 104 u3) (q_g (q_fa fo29_1) (q_g (q_l 101 u22) (q_g (q_n u22) ?_))))
    refine RL.ge rfl rfl (q_c ent44 [] [] (rexists_ct x.fe m.fe.length)) rfl ?_
    rintro _ _ ⟨_, ⟨rfl, rfl⟩, rfl⟩
    refine q_g Yld.nt (q_q Yld.pk ?_)
    exact q_m
   ·
    intro hg25
    repeat refine q_gs ?_
    refine q_q Yld.pk ?_
    exact q_m
   refine q_nn (q_k [1, 3, 4, 33] [0, 1, 101, 104] ?_)
   refine W.cond rfl (fun hc33 => ?_) (fun hc33 => ?_)
   ·
    have hbad : ¬ RkOK m i x := fun h => by
      simp only [Bool.or_eq_true, Bool.and_eq_true, Bool.or_eq_false_iff, Bool.and_eq_false_iff, Bool.not_eq_true', Bool.not_eq_false', decide_eq_true_eq, decide_eq_false_iff_not, Classical.not_not, pB_iff, pB_f] at hc33
      exact hc33.elim (fun h' => h' h.1) (fun h' => h' h.2.1)
    refine q_sr (q_an ?_)
    refine q_k [2] [0, 1, 101, 104] ?_
    refine W.ret (N.then_ret (N.block_ret (N.then_ret (N.then_ret (N.block_ret (N.then_ret ?_))))))
    exact q_r [1] (.cons (.tmp rfl) .nil) rfl rfl rfl ⟨by rw [pB_not (fun h => hbad (h i x hx))]; rfl, rfl⟩
   ·
    simp only [Bool.or_eq_true, Bool.and_eq_true, Bool.or_eq_false_iff, Bool.and_eq_false_iff, Bool.not_eq_true', Bool.not_eq_false', decide_eq_true_eq, decide_eq_false_iff_not, Classical.not_not, pB_iff, pB_f] at hc33
    refine W.skip (N.next (q_sr (q_an ?_)))
    refine W.block ?_
    refine W.loopK (ι := Nat) (fun k => (k ≤ i ∧ ∀ (q : Nat) y, q < k → m.rk[q]? = some y → ¬ (y.fe = x.fe ∧ y.si ≠ x.si))) (fun k => [(5, .int .i64 (k : Nat))]) (fun k => []) (fun k => i - k) (.of [1, 3, 4] rfl) (.of [0, 1, 101, 104] rfl) 0 ?_ ?_ ?_ ?_
    · exact ⟨Nat.zero_le _, fun _ _ h => absurd h (Nat.not_lt_zero _)⟩
    · exact (q_a .nil)
    · exact .nil
    rintro k ⟨hk, hJ⟩
    refine q_k [5, 1, 3, 4] [0, 1, 101, 104] ?_
    refine W.seq (q_sr (q_q q_mv (q_q q_mv (q_q (q_b BinV.lss) (q_nn ?_)))))
    first | refine W.condD rfl (fun hc36 => ?_) (fun hc36 => ?_) | (refine W.cond rfl (fun hc36 => ?_) (fun hc36 => ?_) <;> try simp only [Bool.or_eq_true, Bool.and_eq_true, Bool.not_eq_true', Bool.not_eq_false', decide_eq_true_eq, Bool.or_eq_false_iff, Bool.and_eq_false_iff, decide_eq_false_iff_not, beq_iff_eq, beq_eq_false_iff_ne, ne_eq, Decidable.not_not] at hc36)
    ·
     obtain ⟨z, hz⟩ : ∃ z, m.rk[k]? = some z := ⟨_, List.getElem?_eq_getElem (show k < m.rk.length by first | omega | (simp only [List.length_map] at *; omega))⟩
     have hlz : (m.rk.map Rk.c)[k]? = some z.c := by simp [hz]
     refine W.skip (N.next (W.seq (W.block (W.seq ?_))))
     refine W.draw (.q 0 (.q 1 (.q 2 (.q 3 (.q 4 (.q 5 (.q 6 (.q 7 (.q 8 (.q 9 (.q 10 (.q 11 (.q 12 (.q 13 (.q 14 (.q 15 (.q 16 (.q 17 (.q 18 (.q 19 .done)))))))))))))))))))) (.of [0, 1, 101, 104] rfl) mix (by kernel_rfl) (by kernel_rfl) (q_d rfl (q_fa fo29_2) (q_d rfl (q_l 101 u23) (q_d rfl q_mv ?_)))
     refine q_d rfl (q_ix u23 sz93) (q_d rfl (q_fa fo93_2) ?_)
     refine q_d rfl (by first | exact q_rF 1 2 u3 | exact q_rF 101 2 u3 | exact q_rF 104 2 u3) ?_
     refine q_d rfl (q_fa fo93_2) (q_d rfl (q_l 104 u3) (q_d rfl (q_b BinV.eql) (q_d rfl q_mv ?_)))
     refine' DL.and (t := 48) (d := 58) 10 rfl (.of [1, 3, 4, 5, 34, 35, 36, 39, 40, 41, 42, 43, 44, 45, 46, 47] rfl) (.of [0, 1, 101, 104] rfl) ?_ ?_ ?_
     rotate_left 1
     ·
      intro hg48
      refine DL.gq rfl rfl rfl (q_fa fo29_2) rfl ?_
      refine DL.gq rfl rfl rfl (q_l 101 u23) rfl ?_
      refine DL.gq rfl rfl rfl q_mv rfl ?_
      refine DL.gq rfl rfl rfl (q_ix u23 sz93) rfl ?_
      refine DL.gq rfl rfl rfl (q_fa fo93_1) rfl ?_
      refine DL.gq rfl rfl rfl (by first | exact q_rF 1 1 u3 | exact q_rF 101 1 u3 | exact q_rF 104 1 u3) rfl ?_
      refine DL.gq rfl rfl rfl (q_fa fo93_1) rfl ?_
      refine DL.gq rfl rfl rfl (q_l 104 u3) rfl ?_
      refine DL.gq rfl rfl rfl (q_b BinV.neq) rfl (q_d rfl Yld.pk ?_)
      exact DL.meet (.to rfl) (.to rfl)
     ·
      intro hg48
      repeat refine q_ds ?_
      refine q_d rfl Yld.pk ?_
      exact DL.meet (.to rfl) (.to rfl)
     refine DL.done (N.next (q_k [1, 3, 4, 5, 58] [0, 1, 101, 104] ?_))
     refine W.cond rfl (fun hc58 => ?_) (fun hc58 => ?_)
     ·
      have hbad : ¬ RkOK m i x := fun h => h.2.2 k z (by omega) hz (by simpa using hc58)
      refine q_sr (q_an ?_)
      refine q_k [2] [0, 1, 101, 104] ?_
      refine W.ret (N.block_ret (N.then_ret (N.then_ret (N.block_ret (N.block_ret (N.then_ret (N.then_ret (N.block_ret (N.then_ret ?_)))))))))
      exact q_r [1] (.cons (.tmp rfl) .nil) rfl rfl rfl ⟨by rw [pB_not (fun h => hbad (h i x hx))]; rfl, rfl⟩
     ·
      have hc58 : ¬ (z.fe = x.fe ∧ z.si ≠ x.si) := by simpa using hc58
      refine W.skip (N.block_normal (N.next (W.region (q_q q_mv ?_))))
      refine q_q q_ad (q_q q_as (RL.nil ?_))
      exact N.famK (k + 1) ⟨⟨by omega, fun q y hq hy => (Nat.lt_succ_iff_lt_or_eq.1 hq).elim (fun h => hJ q y h hy) (fun e => by subst e; rw [hz] at hy; cases hy; exact hc58)⟩, by omega⟩ (q_a .nil) (.to rfl) .nil (.to rfl)
    ·
     have hend : k = i := by omega
     have hall : ∀ (q : Nat) y, q < i → m.rk[q]? = some y → ¬ (y.fe = x.fe ∧ y.si ≠ x.si) := by rw [← hend]; exact hJ
     refine W.exit (N.then_exit (N.then_exit (N.block_eq (N.block_normal (N.next (q_k [1, 3] [0, 1, 101, 104] ?_))))))
     refine W.region (q_q q_mv ?_)
     refine q_q q_ad (q_q q_as (RL.nil ?_))
     exact N.famK (i + 1) ⟨⟨by omega, fun q y hq hy => (Nat.lt_succ_iff_lt_or_eq.1 hq).elim (fun h => hI q y h hy) (fun e => by subst e; rw [hx] at hy; cases hy; exact ⟨hc33.1, hc33.2, hall⟩)⟩, by omega⟩ (q_a .nil) (.to rfl) .nil (.to rfl)
  ·
   refine W.exit (N.then_exit (N.then_exit (N.block_eq (N.next (q_sr (q_an ?_))))))
   refine W.ret ?_
   exact q_r [1] (.cons (.tmp rfl) .nil) rfl rfl rfl ⟨by rw [pB_true (fun k x hx => hI k x (by have := (List.getElem?_eq_some_iff.1 hx).1; omega) hx)]; rfl, rfl⟩
set_option maxRecDepth 100000 in
set_option maxHeartbeats 1600000 in
theorem rlinks_ct (m : Md) (H1 : PH) (hM : m.In H1) : Ct Tryz.prog 85 [.agg [.slice m.psi m.si.length m.csi, .slice m.pfe m.fe.length m.cfe, .slice m.prk m.rk.length m.crk, .slice m.pmc m.mc.length m.cmc, .slice m.pln m.ln.length m.cln, .slice m.pis m.is.length m.cis, .int .i64 m.da, .int .i64 m.sl, .int .i64 m.re, .int .i64 m.fa, .slice m.prl m.rl.length m.crl].toArray] [H1] (fun v Hs => v = .bool (pB (∀ (i : Nat) x, m.ln[i]? = some x → LnOK m i x)) ∧ Hs = [H1]) := by
  refine Ct.body Tryz.func85 rfl Tryz.ntmps85 rfl ?_
  intro E F
  have hSl := hM.ln
  have hmx := hSl.len_le
  simp only [List.length_map, maxLen] at hmx
  have hm0 := hM.si.len_le
  simp only [tz_len, maxLen] at hm0
  refine q_sr ?_
  refine q_bx 101 fun b1 => ?_
  refine q_an ?_
  refine W.seq (q_sr (q_an ?_))
  refine W.block ?_
  refine W.loopK (ι := Nat) (fun i => (i ≤ m.ln.length ∧ ∀ (k : Nat) x, k < i → m.ln[k]? = some x → LnOK m k x)) (fun i => [(3, .int .i64 (i : Nat))]) (fun i => []) (fun i => m.ln.length - i) (.of [1] rfl) (.of [0, 1, 101] rfl) 0 ?_ ?_ ?_ ?_
  · exact ⟨Nat.zero_le _, fun _ _ h => absurd h (Nat.not_lt_zero _)⟩
  · exact (q_a .nil)
  · exact .nil
  rintro i ⟨hi, hI⟩
  refine q_k [3, 1] [0, 1, 101] ?_
  refine W.seq (q_sr (q_q q_mv (q_q (q_fa fo29_4) (q_q (q_l 101 u25) (q_q (q_n u25) (q_q (q_b BinV.lss) (q_nn (q_k [1, 3, 10] [0, 1, 101] ?_))))))))
  first | refine W.condD rfl (fun hc10 => ?_) (fun hc10 => ?_) | (refine W.cond rfl (fun hc10 => ?_) (fun hc10 => ?_) <;> try simp only [Bool.or_eq_true, Bool.and_eq_true, Bool.not_eq_true', Bool.not_eq_false', decide_eq_true_eq, Bool.or_eq_false_iff, Bool.and_eq_false_iff, decide_eq_false_iff_not, beq_iff_eq, beq_eq_false_iff_ne, ne_eq, Decidable.not_not] at hc10)
  ·
   obtain ⟨x, hx⟩ : ∃ x, m.ln[i]? = some x := ⟨_, List.getElem?_eq_getElem (show i < m.ln.length by first | omega | (simp only [List.length_map] at *; omega))⟩
   have hlx : (m.ln.map Ln.c)[i]? = some x.c := by simp [hx]
   refine W.skip (N.next (W.seq (W.block (q_sr (q_q (q_fa fo29_4) (q_q (q_l 101 u25) (q_q q_mv ?_)))))))
   refine q_q (q_ix u25 sz162) ?_
   refine q_q (by first | exact q_rA 1 u162 sz162 | exact q_rA 101 u162 sz162) ?_
   refine q_al 104 zc162 fun b4 => ?_
   refine q_s 104 sz162 ?_
   refine q_nn (q_k [1, 3, 4] [0, 1, 101, 104] ?_)
   refine W.seq (q_sr (q_q (q_fa fo162_0) (q_q (q_l 104 u3) (q_q (q_b BinV.lss) (q_q q_mv ?_)))))
   refine' q_or 21 27 6 [1, 3, 4, 18, 19, 20] [0, 1, 101, 104] ?_ ?_ ?_
   rotate_left 1
   ·
    intro hg21
    refine q_g (q_fa fo162_0) (q_g (q_l 104 u3) (q_g (q_fa fo162_1) (q_g (q_l 104 u3) (q_g (q_b BinV.geq) (q_q Yld.pk ?_)))))
    exact q_m
   ·
    intro hg21
    repeat refine q_gs ?_
    refine q_q Yld.pk ?_
    exact q_m
   refine q_q q_mv ?_
   refine' q_or 28 35 7 [1, 3, 4, 18, 19, 20, 27] [0, 1, 101, 104] ?_ ?_ ?_
   rotate_left 1
   ·
    intro hg28
    refine q_g (q_fa fo162_1) (q_g (q_l 104 u3) (q_g (q_fa fo29_0) (q_g (q_l 101 u22) (q_g (q_n u22) (q_g (q_b BinV.gtr) (q_q Yld.pk ?_))))))
    exact q_m
   ·
    intro hg28
    repeat refine q_gs ?_
    refine q_q Yld.pk ?_
    exact q_m
   refine q_q q_mv ?_
   refine' q_or 36 41 5 [1, 3, 4, 18, 19, 20, 27, 35] [0, 1, 101, 104] ?_ ?_ ?_
   rotate_left 1
   ·
    intro hg36
    refine q_g (q_fa fo162_2) (q_g (q_l 104 u3) ?_)
    refine RL.ge rfl rfl (q_c ent83 [] [] (rnumber_ct x.cp)) rfl ?_
    rintro _ _ ⟨_, ⟨rfl, rfl⟩, rfl⟩
    refine q_g Yld.nt (q_q Yld.pk ?_)
    exact q_m
   ·
    intro hg36
    repeat refine q_gs ?_
    refine q_q Yld.pk ?_
    exact q_m
   refine q_nn (q_k [1, 3, 4, 41] [0, 1, 101, 104] ?_)
   refine W.cond rfl (fun hc41 => ?_) (fun hc41 => ?_)
   ·
    have hbad : ¬ LnOK m i x := fun h => by
      obtain ⟨h1, h2, h3, h4, _⟩ := h
      simp only [Bool.or_eq_true, Bool.and_eq_true, Bool.or_eq_false_iff, Bool.and_eq_false_iff, Bool.not_eq_true', Bool.not_eq_false', decide_eq_true_eq, decide_eq_false_iff_not, Classical.not_not, pB_iff, pB_f] at hc41
      rcases hc41 with ((h' | h') | h') | h'
      · omega
      · omega
      · omega
      · exact h' h4
    refine q_sr (q_an ?_)
    refine q_k [2] [0, 1, 101, 104] ?_
    refine W.ret (N.then_ret (N.block_ret (N.then_ret (N.then_ret (N.block_ret (N.then_ret ?_))))))
    exact q_r [1] (.cons (.tmp rfl) .nil) rfl rfl rfl ⟨by rw [pB_not (fun h => hbad (h i x hx))]; rfl, rfl⟩
   ·
    simp only [Bool.or_eq_true, Bool.and_eq_true, Bool.or_eq_false_iff, Bool.and_eq_false_iff, Bool.not_eq_true', Bool.not_eq_false', decide_eq_true_eq, decide_eq_false_iff_not, Classical.not_not, pB_iff, pB_f] at hc41
    refine W.skip (N.next (q_sr (q_an ?_)))
    refine W.block ?_
    refine W.loopK (ι := Nat) (fun k => (k ≤ i ∧ ∀ (q : Nat) y, q < k → m.ln[q]? = some y → ¬ (y.a = x.a ∧ y.b = x.b))) (fun k => [(5, .int .i64 (k : Nat))]) (fun k => []) (fun k => i - k) (.of [1, 3, 4] rfl) (.of [0, 1, 101, 104] rfl) 0 ?_ ?_ ?_ ?_
    · exact ⟨Nat.zero_le _, fun _ _ h => absurd h (Nat.not_lt_zero _)⟩
    · exact (q_a .nil)
    · exact .nil
    rintro k ⟨hk, hJ⟩
    refine q_k [5, 1, 3, 4] [0, 1, 101, 104] ?_
    refine W.seq (q_sr (q_q q_mv (q_q q_mv (q_q (q_b BinV.lss) (q_nn ?_)))))
    first | refine W.condD rfl (fun hc44 => ?_) (fun hc44 => ?_) | (refine W.cond rfl (fun hc44 => ?_) (fun hc44 => ?_) <;> try simp only [Bool.or_eq_true, Bool.and_eq_true, Bool.not_eq_true', Bool.not_eq_false', decide_eq_true_eq, Bool.or_eq_false_iff, Bool.and_eq_false_iff, decide_eq_false_iff_not, beq_iff_eq, beq_eq_false_iff_ne, ne_eq, Decidable.not_not] at hc44)
    ·
     obtain ⟨z, hz⟩ : ∃ z, m.ln[k]? = some z := ⟨_, List.getElem?_eq_getElem (show k < m.ln.length by first | omega | (simp only [List.length_map] at *; omega))⟩
     have hlz : (m.ln.map Ln.c)[k]? = some z.c := by simp [hz]
     refine W.skip (N.next (W.seq (W.block (W.seq ?_))))
     refine W.draw (.q 0 (.q 1 (.q 2 (.q 3 (.q 4 (.q 5 (.q 6 (.q 7 (.q 8 (.q 9 (.q 10 (.q 11 (.q 12 (.q 13 (.q 14 (.q 15 (.q 16 (.q 17 (.q 18 (.q 19 .done)))))))))))))))))))) (.of [0, 1, 101, 104] rfl) mix (by kernel_rfl) (by kernel_rfl) (q_d rfl (q_fa fo29_4) (q_d rfl (q_l 101 u25) (q_d rfl q_mv ?_)))
     refine q_d rfl (q_ix u25 sz162) (q_d rfl (q_fa fo162_0) ?_)
     refine q_d rfl (by first | exact (by first | exact q_r1 1 u3 | exact q_r1 101 u3 | exact q_r1 104 u3) | exact (by first | exact q_rF 1 0 u3 | exact q_rF 101 0 u3 | exact q_rF 104 0 u3)) ?_
     refine q_d rfl (q_fa fo162_0) (q_d rfl (q_l 104 u3) (q_d rfl (q_b BinV.eql) (q_d rfl q_mv ?_)))
     refine' DL.and (t := 56) (d := 66) 10 rfl (.of [1, 3, 4, 5, 42, 43, 44, 47, 48, 49, 50, 51, 52, 53, 54, 55] rfl) (.of [0, 1, 101, 104] rfl) ?_ ?_ ?_
     rotate_left 1
     ·
      intro hg56
      refine DL.gq rfl rfl rfl (q_fa fo29_4) rfl ?_
      refine DL.gq rfl rfl rfl (q_l 101 u25) rfl ?_
      refine DL.gq rfl rfl rfl q_mv rfl ?_
      refine DL.gq rfl rfl rfl (q_ix u25 sz162) rfl ?_
      refine DL.gq rfl rfl rfl (q_fa fo162_1) rfl ?_
      refine DL.gq rfl rfl rfl (by first | exact q_rF 1 1 u3 | exact q_rF 101 1 u3 | exact q_rF 104 1 u3) rfl ?_
      refine DL.gq rfl rfl rfl (q_fa fo162_1) rfl ?_
      refine DL.gq rfl rfl rfl (q_l 104 u3) rfl ?_
      refine DL.gq rfl rfl rfl (q_b BinV.eql) rfl (q_d rfl Yld.pk ?_)
      exact DL.meet (.to rfl) (.to rfl)
     ·
      intro hg56
      repeat refine q_ds ?_
      refine q_d rfl Yld.pk ?_
      exact DL.meet (.to rfl) (.to rfl)
     refine DL.done (N.next (q_k [1, 3, 4, 5, 66] [0, 1, 101, 104] ?_))
     refine W.cond rfl (fun hc66 => ?_) (fun hc66 => ?_)
     ·
      have hbad : ¬ LnOK m i x := fun h => h.2.2.2.2 k z (by omega) hz (by simpa using hc66)
      refine q_sr (q_an ?_)
      refine q_k [2] [0, 1, 101, 104] ?_
      refine W.ret (N.block_ret (N.then_ret (N.then_ret (N.block_ret (N.block_ret (N.then_ret (N.then_ret (N.block_ret (N.then_ret ?_)))))))))
      exact q_r [1] (.cons (.tmp rfl) .nil) rfl rfl rfl ⟨by rw [pB_not (fun h => hbad (h i x hx))]; rfl, rfl⟩
     ·
      have hc66 : ¬ (z.a = x.a ∧ z.b = x.b) := by simpa using hc66
      refine W.skip (N.block_normal (N.next (W.region (q_q q_mv ?_))))
      refine q_q q_ad (q_q q_as (RL.nil ?_))
      exact N.famK (k + 1) ⟨⟨by omega, fun q y hq hy => (Nat.lt_succ_iff_lt_or_eq.1 hq).elim (fun h => hJ q y h hy) (fun e => by subst e; rw [hz] at hy; cases hy; exact hc66)⟩, by omega⟩ (q_a .nil) (.to rfl) .nil (.to rfl)
    ·
     have hend : k = i := by omega
     have hall : ∀ (q : Nat) y, q < i → m.ln[q]? = some y → ¬ (y.a = x.a ∧ y.b = x.b) := by rw [← hend]; exact hJ
     refine W.exit (N.then_exit (N.then_exit (N.block_eq (N.block_normal (N.next (q_k [1, 3] [0, 1, 101, 104] ?_))))))
     refine W.region (q_q q_mv ?_)
     refine q_q q_ad (q_q q_as (RL.nil ?_))
     exact N.famK (i + 1) ⟨⟨by omega, fun q y hq hy => (Nat.lt_succ_iff_lt_or_eq.1 hq).elim (fun h => hI q y h hy) (fun e => by subst e; rw [hx] at hy; cases hy; exact ⟨by omega, by omega, by omega, hc41.2, hall⟩)⟩, by omega⟩ (q_a .nil) (.to rfl) .nil (.to rfl)
  ·
   refine W.exit (N.then_exit (N.then_exit (N.block_eq (N.next (q_sr (q_an ?_))))))
   refine W.ret ?_
   exact q_r [1] (.cons (.tmp rfl) .nil) rfl rfl rfl ⟨by rw [pB_true (fun k x hx => hI k x (by have := (List.getElem?_eq_some_iff.1 hx).1; omega) hx)]; rfl, rfl⟩
set_option maxRecDepth 100000 in
set_option maxHeartbeats 1600000 in
theorem rsite_ct (m : Md) (H1 : PH) (hM : m.In H1) : Ct Tryz.prog 40 [.agg [.slice m.psi m.si.length m.csi, .slice m.pfe m.fe.length m.cfe, .slice m.prk m.rk.length m.crk, .slice m.pmc m.mc.length m.cmc, .slice m.pln m.ln.length m.cln, .slice m.pis m.is.length m.cis, .int .i64 m.da, .int .i64 m.sl, .int .i64 m.re, .int .i64 m.fa, .slice m.prl m.rl.length m.crl].toArray] [H1] (fun v Hs => v = .bool (pB (SiteV m)) ∧ Hs = [H1]) := by
  refine Ct.body Tryz.func40 rfl Tryz.ntmps40 rfl ?_
  intro E F
  have hSl := hM.mc
  have hmx := hSl.len_le
  simp only [List.length_map, maxLen] at hmx
  have hm0 := hM.si.len_le
  simp only [tz_len, maxLen] at hm0
  refine q_sr ?_
  refine q_bx 101 fun b1 => ?_
  refine q_an ?_
  refine W.seq (q_sr (q_q (q_fa fo29_0) (q_q (q_l 101 u22) (q_q (q_n u22) (q_q (q_b BinV.lss) (q_q q_mv ?_))))))
  refine' q_or 8 13 5 [0, 1, 2, 4, 5, 6, 7] [0, 1, 101] ?_ ?_ ?_
  rotate_left 1
  ·
   intro hg8
   refine q_g (q_fa fo29_0) (q_g (q_l 101 u22) (q_g (q_n u22) (q_g (q_b BinV.gtr) (q_q Yld.pk ?_))))
   exact q_m
  ·
   intro hg8
   repeat refine q_gs ?_
   refine q_q Yld.pk ?_
   exact q_m
  refine q_q q_mv ?_
  refine' q_or 14 19 5 [0, 1, 2, 4, 5, 6, 7, 13] [0, 1, 101] ?_ ?_ ?_
  rotate_left 1
  ·
   intro hg14
   refine q_g (q_fa fo29_1) (q_g (q_l 101 u22) (q_g (q_n u22) (q_g (q_b BinV.gtr) (q_q Yld.pk ?_))))
   exact q_m
  ·
   intro hg14
   repeat refine q_gs ?_
   refine q_q Yld.pk ?_
   exact q_m
  refine q_q q_mv ?_
  refine' q_or 20 25 5 [0, 1, 2, 4, 5, 6, 7, 13, 19] [0, 1, 101] ?_ ?_ ?_
  rotate_left 1
  ·
   intro hg20
   refine q_g (q_fa fo29_2) (q_g (q_l 101 u23) (q_g (q_n u23) (q_g (q_b BinV.gtr) (q_q Yld.pk ?_))))
   exact q_m
  ·
   intro hg20
   repeat refine q_gs ?_
   refine q_q Yld.pk ?_
   exact q_m
  refine q_q q_mv ?_
  refine' q_or 26 31 5 [0, 1, 2, 4, 5, 6, 7, 13, 19, 25] [0, 1, 101] ?_ ?_ ?_
  rotate_left 1
  ·
   intro hg26
   refine q_g (q_fa fo29_3) (q_g (q_l 101 u24) (q_g (q_n u24) (q_g (q_b BinV.lss) (q_q Yld.pk ?_))))
   exact q_m
  ·
   intro hg26
   repeat refine q_gs ?_
   refine q_q Yld.pk ?_
   exact q_m
  refine q_q q_mv ?_
  refine' q_or 32 37 5 [0, 1, 2, 4, 5, 6, 7, 13, 19, 25, 31] [0, 1, 101] ?_ ?_ ?_
  rotate_left 1
  ·
   intro hg32
   refine q_g (q_fa fo29_3) (q_g (q_l 101 u24) (q_g (q_n u24) (q_g (q_b BinV.gtr) (q_q Yld.pk ?_))))
   exact q_m
  ·
   intro hg32
   repeat refine q_gs ?_
   refine q_q Yld.pk ?_
   exact q_m
  refine q_q q_mv ?_
  refine' q_or 38 43 5 [0, 1, 2, 4, 5, 6, 7, 13, 19, 25, 31, 37] [0, 1, 101] ?_ ?_ ?_
  rotate_left 1
  ·
   intro hg38
   refine q_g (q_fa fo29_4) (q_g (q_l 101 u25) (q_g (q_n u25) (q_g (q_b BinV.gtr) (q_q Yld.pk ?_))))
   exact q_m
  ·
   intro hg38
   repeat refine q_gs ?_
   refine q_q Yld.pk ?_
   exact q_m
  refine q_nn (q_k [1, 43] [0, 1, 101] ?_)
  refine W.cond rfl (fun hc43 => ?_) (fun hc43 => ?_)
  ·
   have hbad : ¬ SiteV m := fun h => by
     obtain ⟨⟨a, b⟩, c, d, ⟨e, f⟩, g, _⟩ := h
     simp only [Bool.or_eq_true, decide_eq_true_eq] at hc43
     omega
   refine q_sr (q_an ?_)
   refine W.ret (N.then_ret ?_)
   exact q_r [1] (.cons (.tmp rfl) .nil) rfl rfl rfl ⟨by rw [pB_not hbad]; rfl, rfl⟩
  ·
   simp only [Bool.or_eq_false_iff, decide_eq_false_iff_not] at hc43
   refine W.skip (N.next (W.seq (q_sr (q_an ?_))))
   refine W.block ?_
   refine W.loopK (ι := Nat) (fun i => (i ≤ m.mc.length ∧ ∀ (k : Nat) x, k < i → m.mc[k]? = some x → McOK m x)) (fun i => [(3, .int .i64 (i : Nat))]) (fun i => []) (fun i => m.mc.length - i) (.of [1] rfl) (.of [0, 1, 101] rfl) 0 ?_ ?_ ?_ ?_
   · exact ⟨Nat.zero_le _, fun _ _ h => absurd h (Nat.not_lt_zero _)⟩
   · exact (q_a .nil)
   · exact .nil
   rintro i ⟨hi, hI⟩
   refine q_k [3, 1] [0, 1, 101] ?_
   refine W.seq (q_sr (q_q q_mv (q_q (q_fa fo29_3) (q_q (q_l 101 u24) (q_q (q_n u24) (q_q (q_b BinV.lss) (q_nn (q_k [1, 3, 48] [0, 1, 101] ?_))))))))
   first | refine W.condD rfl (fun hc48 => ?_) (fun hc48 => ?_) | (refine W.cond rfl (fun hc48 => ?_) (fun hc48 => ?_) <;> try simp only [Bool.or_eq_true, Bool.and_eq_true, Bool.not_eq_true', Bool.not_eq_false', decide_eq_true_eq, Bool.or_eq_false_iff, Bool.and_eq_false_iff, decide_eq_false_iff_not, beq_iff_eq, beq_eq_false_iff_ne, ne_eq, Decidable.not_not] at hc48)
   ·
    obtain ⟨x, hx⟩ : ∃ x, m.mc[i]? = some x := ⟨_, List.getElem?_eq_getElem (show i < m.mc.length by first | omega | (simp only [List.length_map] at *; omega))⟩
    have hlx : (m.mc.map Mc.c)[i]? = some x.c := by simp [hx]
    refine W.skip (N.next (W.seq (W.block (W.seq ?_))))
    refine W.draw (.q 0 (.q 1 (.q 2 (.q 3 (.q 4 (.q 5 (.q 6 (.q 7 (.q 8 (.one 9 (.q 10 (.q 11 (.q 12 (.q 13 (.q 14 (.q 15 (.q 16 (.q 17 (.one 18 (.q 19 (.q 20 .done))))))))))))))))))))) (.of [0, 1, 101] rfl) mix (by kernel_rfl) (by kernel_rfl) (q_d rfl (q_fa fo29_3) (q_d rfl (q_l 101 u24) (q_d rfl q_mv ?_)))
    refine q_d rfl (q_ix u24 sz95) (q_d rfl (q_fa fo95_1) ?_)
    refine q_d rfl (by first | exact q_rF 1 1 u3 | exact q_rF 101 1 u3) ?_
    refine q_d rfl (q_fa fo29_2) (q_d rfl (q_l 101 u23) (q_d rfl (q_n u23) ?_))
    refine q_o rfl (q_c ent44 [] [] (rexists_ct x.rk m.rk.length)) ?_
    rintro _ _ ⟨_, ⟨rfl, rfl⟩, rfl⟩
    refine q_d rfl Yld.nt (q_d rfl q_mv ?_)
    refine' DL.or (t := 62) (d := 71) 9 rfl (.of [1, 3, 48, 51, 52, 53, 54, 55, 56, 57, 58, 59, 60, 61] rfl) (.of [0, 1, 101] rfl) ?_ ?_ ?_
    rotate_left 1
    ·
     intro hg62
     refine DL.gq rfl rfl rfl (q_fa fo29_3) rfl ?_
     refine DL.gq rfl rfl rfl (q_l 101 u24) rfl ?_
     refine DL.gq rfl rfl rfl q_mv rfl ?_
     refine DL.gq rfl rfl rfl (q_ix u24 sz95) rfl ?_
     refine DL.gq rfl rfl rfl (q_fa fo95_2) rfl ?_
     refine DL.gq rfl rfl rfl (by first | exact q_rF 1 2 u3 | exact q_rF 101 2 u3) rfl ?_
     refine DL.gone rfl rfl rfl (q_c ent83 [] [] (rnumber_ct x.cp)) rfl (by rintro _ _ ⟨_, ⟨rfl, rfl⟩, rfl⟩; repeat (first | exact .nil | refine .cons rfl ?_)) ?_
     rintro _ _ ⟨_, ⟨rfl, rfl⟩, rfl⟩
     refine DL.gq rfl rfl rfl Yld.nt rfl (q_d rfl Yld.pk ?_)
     exact DL.meet (.to rfl) (.to rfl)
    ·
     intro hg62
     repeat refine q_ds ?_
     refine DL.gskip1 rfl rfl rfl rfl rfl (q_ds ?_)
     refine q_d rfl Yld.pk ?_
     exact DL.meet (.to rfl) (.to rfl)
    refine DL.done (N.next (q_k [1, 3, 71] [0, 1, 101] ?_))
    refine W.cond rfl (fun hc71 => ?_) (fun hc71 => ?_)
    ·
     have hbad : ¬ SiteV m := fun h => by
       have h1 := h.mc i x hx
       simp only [Bool.or_eq_true, Bool.and_eq_true, Bool.or_eq_false_iff, Bool.and_eq_false_iff, Bool.not_eq_true', Bool.not_eq_false', decide_eq_true_eq, decide_eq_false_iff_not, Classical.not_not, pB_iff, pB_f] at hc71
       exact hc71.elim (fun h' => h' h1.1) (fun h' => h' h1.2)
     refine q_sr (q_an ?_)
     refine W.ret (N.block_ret (N.then_ret (N.then_ret (N.block_ret (N.then_ret ?_)))))
     exact q_r [1] (.cons (.tmp rfl) .nil) rfl rfl rfl ⟨by rw [pB_not hbad]; rfl, rfl⟩
    ·
     simp only [Bool.or_eq_true, Bool.and_eq_true, Bool.or_eq_false_iff, Bool.and_eq_false_iff, Bool.not_eq_true', Bool.not_eq_false', decide_eq_true_eq, decide_eq_false_iff_not, Classical.not_not, pB_iff, pB_f] at hc71
     refine W.skip (N.block_normal (N.next (W.region (q_q q_mv ?_))))
     refine q_q q_ad (q_q q_as (RL.nil ?_))
     exact N.famK (i + 1) ⟨⟨by omega, fun q y hq hy => (Nat.lt_succ_iff_lt_or_eq.1 hq).elim (fun h => hI q y h hy) (fun e => by subst e; rw [hx] at hy; cases hy; exact hc71)⟩, by omega⟩ (q_a .nil) (.to rfl) .nil (.to rfl)
   ·
    refine W.exit (N.then_exit (N.then_exit (N.block_eq (N.next (q_sr (q_q (q_lw 101 u29 sz29) ?_))))))
    refine q_e (q_c ent84 [1] [1] (rracks_ct m H1 hM)) ?_
    rintro _ _ ⟨_, ⟨rfl, rfl⟩, rfl⟩
    refine q_q q_mv ?_
    refine' q_and 74 77 3 [1, 3, 48, 72, 73] [0, 1, 101] ?_ ?_ ?_
    rotate_left 1
    ·
     intro hg74
     refine q_g (q_lw 101 u29 sz29) ?_
     refine RL.ge rfl rfl (q_c ent85 [1] [1] (rlinks_ct m H1 hM)) rfl ?_
     rintro _ _ ⟨_, ⟨rfl, rfl⟩, rfl⟩
     refine q_q Yld.pk ?_
     exact q_m
    ·
     intro hg74
     refine q_gs (q_gs (q_q Yld.pk ?_))
     exact q_m
    refine q_an ?_
    refine q_k [2] [0, 1, 101] ?_
    refine W.ret ?_
    exact q_r [1] (.cons (.tmp rfl) .nil) rfl rfl rfl ⟨by show Value.bool _ = Value.bool _; congr 1; rw [Bool.eq_iff_iff]; rw [Bool.and_eq_true, pB_iff, pB_iff, pB_iff]; exact ⟨fun ⟨a, b⟩ => ⟨⟨by omega, by omega⟩, by omega, by omega, ⟨by omega, by omega⟩, by omega, a, fun k x hx => hI k x (by have := (List.getElem?_eq_some_iff.1 hx).1; omega) hx, b⟩, fun h => ⟨h.rk, h.ln⟩⟩, rfl⟩
end Go.Proofs.YtboapdcmaeojgaaGreatDoor
namespace Go.Proofs.YtboapdcmaeojgaaGreatDoor.Cat
set_option linter.unusedVariables false
def kwText : ByteArray := ⟨#[97, 108, 119, 97, 121, 115, 32, 98, 101, 102, 111, 114, 101, 32, 98, 121, 32, 99, 97, 112, 97, 99, 105, 116, 121, 32, 100, 97, 114, 107, 32, 100, 105, 115, 116, 117, 114, 98, 32, 102, 97, 105, 108, 117, 114, 101, 115, 32, 102, 101, 101, 100, 32, 103, 114, 111, 117, 112, 32, 105, 110, 32, 106, 111, 98, 32, 107, 101, 101, 112, 32, 108, 105, 110, 107, 32, 108, 111, 97, 100, 32, 109, 97, 99, 104, 105, 110, 101, 32, 111, 110, 32, 111, 110, 108, 121, 32, 111, 114, 100, 101, 114, 32, 112, 111, 111, 108, 32, 113, 117, 111, 114, 117, 109, 32, 114, 97, 99, 107, 32, 114, 101, 115, 101, 114, 118, 101, 32, 115, 104, 97, 114, 101, 32, 115, 105, 108, 101, 110, 99, 101, 32, 115, 105, 116, 101, 32, 115, 105, 122, 101, 32, 115, 108, 111, 116, 115, 32, 115, 112, 114, 101, 97, 100]⟩
theorem kwText_ascii : ∀ (j : Nat) b, kwText.data.toList[j]? = some b → b.toNat < 128 := by
  intro j b h
  have hm := List.mem_of_getElem? h
  have : ∀ b ∈ kwText.data.toList, b.toNat < 128 := by decide +kernel
  exact this b hm
theorem kwText_fields : (Lib.fields kwText.data.toList).map (fun l => (⟨l.toArray⟩ : ByteArray)) = kws := by kernel_rfl
theorem kws_len : kws.length = 28 := by kernel_rfl
end Go.Proofs.YtboapdcmaeojgaaGreatDoor.Cat
namespace Go.Proofs.YtboapdcmaeojgaaGreatDoor
open SL Cat
set_option linter.unusedVariables false
set_option linter.unusedSimpArgs false
theorem ent133 : Ent Tryz.prog 133 := ⟨_, _, Tryz.func133, by kernel_rfl, rfl⟩
theorem ent134 : Ent Tryz.prog 134 := ⟨_, _, Tryz.func134, by kernel_rfl, rfl⟩
theorem ent88 : Ent Tryz.prog 88 := ⟨_, _, Tryz.func88, by kernel_rfl, rfl⟩
theorem ent135 : Ent Tryz.prog 135 := ⟨_, _, Tryz.func135, by kernel_rfl, rfl⟩
theorem ent86 : Ent Tryz.prog 86 := ⟨_, _, Tryz.func86, by kernel_rfl, rfl⟩
theorem ent87 : Ent Tryz.prog 87 := ⟨_, _, Tryz.func87, by kernel_rfl, rfl⟩
theorem Cat.bq3 {z : Int} : (2 ≤ z ∧ z ≤ 4) ↔ (z = 2 ∨ z = 3 ∨ z = 4) := by omega
theorem Cat.name_no1 {s : Ky} (h : (decide ((s.size : Int) < 1) || decide (31 < (s.size : Int)) || !(decide (97 ≤ at_ s 0) && decide (at_ s 0 ≤ 122)) || pB (s ∈ kws)) = true) : ¬ NameOK s := fun hn => by
  obtain ⟨h1, h2, ⟨h3, h4⟩, h5, _⟩ := hn
  rw [decide_eq_false (show ¬ (s.size : Int) < 1 by omega), decide_eq_false (show ¬ (31 : Int) < s.size by omega), decide_eq_true h3, decide_eq_true h4, pB_not h5] at h
  cases h
theorem Cat.name_yes1 {s : Ky} (h : (decide ((s.size : Int) < 1) || decide (31 < (s.size : Int)) || !(decide (97 ≤ at_ s 0) && decide (at_ s 0 ≤ 122)) || pB (s ∈ kws)) = false) : 1 ≤ s.size ∧ s.size ≤ 31 ∧ (97 ≤ at_ s 0 ∧ at_ s 0 ≤ 122) ∧ s ∉ kws := by
  simp only [Bool.or_eq_false_iff, Bool.not_eq_false', Bool.and_eq_true, decide_eq_true_eq, decide_eq_false_iff_not, pB_f] at h
  exact ⟨by omega, by omega, h.1.2, h.2⟩
theorem Cat.good_iff {c : Int} : (!(decide (97 ≤ c) && decide (c ≤ 122)) && !(decide (48 ≤ c) && decide (c ≤ 57)) && decide (c ≠ 95)) = decide (¬ goodC c) := by
  rw [Bool.eq_iff_iff]
  simp only [Bool.and_eq_true, Bool.not_eq_true', Bool.and_eq_false_iff, decide_eq_true_eq, decide_eq_false_iff_not]
  unfold goodC
  omega
set_option maxRecDepth 100000 in
set_option maxHeartbeats 400000 in
theorem letter_ct (c : Int) : Ct Tryz.prog 133 [.int .u8 c] [] (fun v Hs => v = .bool (decide (97 ≤ c) && decide (c ≤ 122)) ∧ Hs = []) := by
  refine Ct.body Tryz.func133 rfl Tryz.ntmps133 rfl ?_
  intro E F
  refine q_sr (q_an ?_)
  refine q_sr (q_q q_mv (q_q (q_b BinV.geq) (q_q q_mv ?_)))
  refine' q_and 5 8 3 [0, 2, 3, 4] [0] ?_ ?_ ?_
  rotate_left 1
  ·
   intro hg5
   refine q_g q_mv (q_g (q_b BinV.leq) (q_q Yld.pk ?_))
   exact q_m
  ·
   intro hg5
   refine q_gs (q_gs (q_q Yld.pk ?_))
   exact q_m
  refine q_an ?_
  refine q_k [2] [0] ?_
  refine W.ret ?_
  exact q_r [] (.cons (.tmp rfl) .nil) rfl rfl rfl ⟨rfl, rfl⟩
set_option maxRecDepth 100000 in
set_option maxHeartbeats 400000 in
theorem digit_ct (c : Int) : Ct Tryz.prog 135 [.int .u8 c] [] (fun v Hs => v = .bool (decide (48 ≤ c) && decide (c ≤ 57)) ∧ Hs = []) := by
  refine Ct.body Tryz.func135 rfl Tryz.ntmps135 rfl ?_
  intro E F
  refine q_sr (q_an ?_)
  refine q_sr (q_q q_mv (q_q (q_b BinV.geq) (q_q q_mv ?_)))
  refine' q_and 5 8 3 [0, 2, 3, 4] [0] ?_ ?_ ?_
  rotate_left 1
  ·
   intro hg5
   refine q_g q_mv (q_g (q_b BinV.leq) (q_q Yld.pk ?_))
   exact q_m
  ·
   intro hg5
   refine q_gs (q_gs (q_q Yld.pk ?_))
   exact q_m
  refine q_an ?_
  refine q_k [2] [0] ?_
  refine W.ret ?_
  exact q_r [] (.cons (.tmp rfl) .nil) rfl rfl rfl ⟨rfl, rfl⟩
set_option maxRecDepth 100000 in
set_option maxHeartbeats 1600000 in
theorem rkeywords_ct  : Ct Tryz.prog 134 [] [] (fun v Hs => ∃ H' p', v = .slice p' kws.length kws.length ∧ Sl H' p' kws.length 1 (tz kws) ∧ Hs = [H']) := by
  refine Ct.body Tryz.func134 rfl Tryz.ntmps134 rfl ?_
  intro E F
  refine q_sr (q_an ?_)
  refine q_sr ?_
  refine q_e (Eff.buildSlice 101 u22 sz9 zc9 rfl rfl (.cons rfl rfl (.cons rfl rfl (.cons rfl rfl (.cons rfl rfl (.cons rfl rfl (.cons rfl rfl (.cons rfl rfl (.cons rfl rfl (.cons rfl rfl (.cons rfl rfl (.cons rfl rfl (.cons rfl rfl (.cons rfl rfl (.cons rfl rfl (.cons rfl rfl (.cons rfl rfl (.cons rfl rfl (.cons rfl rfl (.cons rfl rfl (.cons rfl rfl (.cons rfl rfl (.cons rfl rfl (.cons rfl rfl (.cons rfl rfl (.cons rfl rfl (.cons rfl rfl (.cons rfl rfl (.cons rfl rfl .nil)))))))))))))))))))))))))))) rfl) ?_
  rintro _ _ ⟨b1, rfl, rfl⟩
  refine q_an ?_
  refine W.ret ?_
  exact q_r [101] (.cons (.tmp rfl) .nil) rfl rfl rfl ⟨_, _, rfl, (Own.mk (e := 9) (n := 1) (c := kws.length) (ls := tz kws) [] (by intro l hl; simp only [tz, List.mem_map] at hl; obtain ⟨s, _, rfl⟩ := hl; exact ⟨rfl, by simp [Value.oneCell']⟩) (Nat.le_refl _) (by rw [kws_len]; simp [maxLen]) (by kernel_rfl) (by kernel_rfl)).sl, rfl⟩
set_option maxRecDepth 100000 in
set_option maxHeartbeats 1600000 in
theorem risName_ct (s : Ky) : Ct Tryz.prog 87 [.string s] [] (fun v Hs => v = .bool (nameB s) ∧ Hs = []) := by
  refine Ct.body Tryz.func87 rfl Tryz.ntmps87 rfl ?_
  intro E F
  refine q_sr (q_an ?_)
  refine W.seq (q_sr (q_q q_mv (q_q (q_ns u9) (q_q (q_b BinV.lss) (q_q q_mv ?_)))))
  refine' q_or 7 11 4 [0, 2, 4, 5, 6] [0] ?_ ?_ ?_
  rotate_left 1
  ·
   intro hg7
   refine q_g q_mv (q_g (q_ns u9) (q_g (q_b BinV.gtr) (q_q Yld.pk ?_)))
   exact q_m
  ·
   intro hg7
   repeat refine q_gs ?_
   refine q_q Yld.pk ?_
   exact q_m
  refine q_q q_mv ?_
  refine' q_or 12 17 5 [0, 2, 4, 5, 6, 11] [0] ?_ ?_ ?_
  rotate_left 1
  ·
   intro hg12
   have hsz : 0 < s.size := by
     simp only [Bool.or_eq_false_iff, decide_eq_false_iff_not] at hg12
     omega
   refine q_g q_mv ?_
   refine q_g (Yld.indexS u9 rfl rfl (by first | rfl | omega) (by first | omega | assumption)) ?_
   refine RL.ge rfl rfl (q_c ent133 [] [] (letter_ct (at_ s 0))) rfl ?_
   rintro _ _ ⟨_, ⟨rfl, rfl⟩, rfl⟩
   refine q_g Yld.nt (q_q Yld.pk ?_)
   exact q_m
  ·
   intro hg12
   repeat refine q_gs ?_
   refine q_q Yld.pk ?_
   exact q_m
  refine q_q q_mv ?_
  refine' q_or 18 22 4 [0, 2, 4, 5, 6, 11, 17] [0] ?_ ?_ ?_
  rotate_left 1
  ·
   intro hg18
   refine RL.ge rfl rfl (q_c ent134 [] [160] rkeywords_ct) rfl ?_
   rintro _ _ ⟨_, ⟨Hk, pk, rfl, hSk, rfl⟩, rfl⟩
   refine q_g q_mv ?_
   refine RL.ge rfl rfl (q_c ent88 [160] [160] (rhas_ct kws Hk pk _ _ rfl hSk s)) rfl ?_
   rintro _ _ ⟨_, ⟨rfl, rfl⟩, rfl⟩
   refine q_q Yld.pk ?_
   exact q_m
  ·
   intro hg18
   repeat refine q_gs ?_
   refine q_q Yld.pk ?_
   exact q_m
  refine q_nn (q_k [0, 22] [0] ?_)
  refine W.cond rfl (fun hc22 => ?_) (fun hc22 => ?_)
  ·
   have hbad := name_no1 hc22
   refine q_sr (q_an ?_)
   refine W.ret (N.then_ret ?_)
   exact q_r [] (.cons (.tmp rfl) .nil) rfl rfl rfl ⟨by rw [nameB_not hbad]; rfl, rfl⟩
  ·
   have hgd := name_yes1 hc22
   refine W.skip (N.next (W.seq (q_sr (q_an ?_))))
   refine W.block ?_
   refine W.loopK (ι := Nat) (fun i => (i ≤ s.size ∧ AllGood s i)) (fun i => [(3, .int .i64 (i : Nat))]) (fun i => []) (fun i => s.size - i) (.of [0] rfl) (.of [0] rfl) 0 ?_ ?_ ?_ ?_
   · exact ⟨Nat.zero_le _, fun _ h => absurd h (Nat.not_lt_zero _)⟩
   · exact (q_a .nil)
   · exact .nil
   rintro i ⟨hi, hI⟩
   refine q_k [3, 0] [0] ?_
   refine W.seq (q_sr (q_q q_mv (q_q q_mv (q_q (q_ns u9) (q_q (q_b BinV.lss) (q_nn ?_))))))
   first | refine W.condD rfl (fun hc26 => ?_) (fun hc26 => ?_) | (refine W.cond rfl (fun hc26 => ?_) (fun hc26 => ?_) <;> try simp only [Bool.or_eq_true, Bool.and_eq_true, Bool.not_eq_true', Bool.not_eq_false', decide_eq_true_eq, Bool.or_eq_false_iff, Bool.and_eq_false_iff, decide_eq_false_iff_not, beq_iff_eq, beq_eq_false_iff_ne, ne_eq, Decidable.not_not] at hc26)
   ·
    refine W.skip (N.next (q_k [0, 3] [0] ?_))
    refine W.seq (W.block (q_sr (q_q q_mv (q_q q_mv ?_))))
    refine q_q (Yld.indexS u9 rfl rfl (by first | rfl | omega) (by first | omega | assumption)) ?_
    refine q_e (q_c ent133 [] [] (letter_ct (at_ s i))) ?_
    rintro _ _ ⟨_, ⟨rfl, rfl⟩, rfl⟩
    refine q_q Yld.nt (q_q q_mv ?_)
    refine' q_and 34 40 6 [0, 3, 29, 30, 31, 32, 33] [0] ?_ ?_ ?_
    rotate_left 1
    ·
     intro hg34
     refine q_g q_mv (q_g q_mv ?_)
     refine q_g (Yld.indexS u9 rfl rfl (by first | rfl | omega) (by first | omega | assumption)) ?_
     refine RL.ge rfl rfl (q_c ent135 [] [] (digit_ct (at_ s i))) rfl ?_
     rintro _ _ ⟨_, ⟨rfl, rfl⟩, rfl⟩
     refine q_g Yld.nt (q_q Yld.pk ?_)
     exact q_m
    ·
     intro hg34
     repeat refine q_gs ?_
     refine q_q Yld.pk ?_
     exact q_m
    refine q_q q_mv ?_
    refine' q_and 41 46 5 [0, 3, 29, 30, 31, 32, 33, 40] [0] ?_ ?_ ?_
    rotate_left 1
    ·
     intro hg41
     refine q_g q_mv (q_g q_mv ?_)
     refine q_g (Yld.indexS u9 rfl rfl (by first | rfl | omega) (by first | omega | assumption)) ?_
     refine q_g (q_b BinV.neq) (q_q Yld.pk ?_)
     exact q_m
    ·
     intro hg41
     repeat refine q_gs ?_
     refine q_q Yld.pk ?_
     exact q_m
    refine q_nn (q_k [0, 3, 46] [0] ?_)
    refine W.cond rfl (fun hc46 => ?_) (fun hc46 => ?_)
    ·
     have hbad : ¬ NameOK s := fun h => by
       have h1 : decide (¬ goodC (at_ s i)) = true := good_iff.symm.trans hc46
       exact of_decide_eq_true h1 (h.2.2.2.2 i (by omega))
     refine q_sr (q_an ?_)
     refine W.ret (N.block_ret (N.then_ret (N.then_ret (N.block_ret (N.then_ret ?_)))))
     exact q_r [] (.cons (.tmp rfl) .nil) rfl rfl rfl ⟨by rw [nameB_not hbad]; rfl, rfl⟩
    ·
     have hgc : goodC (at_ s i) := by
       have h1 : decide (¬ goodC (at_ s i)) = false := good_iff.symm.trans hc46
       exact Classical.not_not.1 (of_decide_eq_false h1)
     refine W.skip (N.block_normal (N.next (W.region (q_q q_mv ?_))))
     refine q_q q_ad (q_q q_as (RL.nil ?_))
     exact N.famK (i + 1) ⟨⟨by omega, hI.step hgc⟩, by omega⟩ (q_a .nil) (.to rfl) .nil (.to rfl)
   ·
    refine W.exit (N.then_exit (N.then_exit (N.block_eq (N.next ?_))))
    refine W.keep .nil (.of [0] rfl) (q_sr (q_an ?_))
    refine W.ret ?_
    exact q_r [] (.cons (.tmp rfl) .nil) rfl rfl rfl ⟨by rw [nameB_iff.2 ⟨hgd.1, hgd.2.1, hgd.2.2.1, hgd.2.2.2, by rw [show s.size = i by omega]; exact hI⟩]; rfl, rfl⟩
structure Cat.NI where
  k : Nat
  H : PH
  p : Option Addr
  c : Nat
set_option maxRecDepth 100000 in
set_option maxHeartbeats 3200000 in
theorem rnames_ct (m : Md) (H1 : PH) (hM : m.In H1) (hn : (namesOf m).length ≤ 10000) : Ct Tryz.prog 86 [.agg [.slice m.psi m.si.length m.csi, .slice m.pfe m.fe.length m.cfe, .slice m.prk m.rk.length m.crk, .slice m.pmc m.mc.length m.cmc, .slice m.pln m.ln.length m.cln, .slice m.pis m.is.length m.cis, .int .i64 m.da, .int .i64 m.sl, .int .i64 m.re, .int .i64 m.fa, .slice m.prl m.rl.length m.crl].toArray] [H1] (fun v Hs => ∃ H' p' c', v = .slice p' (namesOf m).length c' ∧ Own H' p' c' 9 1 (tz (namesOf m)) ∧ Hs = [H1, H']) := by
  refine Ct.body Tryz.func86 rfl Tryz.ntmps86 rfl ?_
  intro E F
  have hnl := ns_len m
  have hMrk := hM.rk
  have hMmc := hM.mc
  have hMis := hM.is
  have hm0 := hM.si.len_le
  simp only [tz_len, List.length_map, maxLen] at hm0
  have hm1 := hM.fe.len_le
  simp only [tz_len, List.length_map, maxLen] at hm1
  have hm2 := hM.rk.len_le
  simp only [tz_len, List.length_map, maxLen] at hm2
  have hm3 := hM.mc.len_le
  simp only [tz_len, List.length_map, maxLen] at hm3
  have hm4 := hM.is.len_le
  simp only [tz_len, List.length_map, maxLen] at hm4
  
  refine q_sr ?_
  refine q_bx 101 fun b1 => ?_
  refine q_an ?_
  refine W.seq ?_
  refine W.draw (.q 1 (.q 2 (.q 4 (.q 5 (.one 0 (.one 3 (.one 6 (.q 7 .done)))))))) (.of [0, 1, 101] rfl) mix (by kernel_rfl) (by kernel_rfl) (q_d rfl (q_fa fo29_0) (q_d rfl (q_l 101 u22) (q_d rfl (q_fa fo29_1) (q_d rfl (q_l 101 u22) ?_))))
  refine q_o rfl (Eff.buildSlice 107 u22 sz9 zc9 rfl rfl .nil rfl) ?_
  rintro _ _ ⟨b7, rfl, rfl⟩
  refine q_o rfl (Eff.appendE (tc := 107) (sc := 1) (ms := m.si) (ls := ([] : List Ky)) (fun s : Ky => [Value.string s]) u22 el9 rfl rfl rfl rfl (Own.none0 rfl : Own _ _ 0 9 1 (([] : List Ky).map (fun s : Ky => [Value.string s]))) rfl hM.si rfl (tz_one1 _) (by decide) (by simp; omega) (by simp [maxLen]; omega)) ?_
  rintro _ _ ⟨Ha, pa, ca, rfl, hOa, rfl⟩
  refine q_o rfl (Eff.appendE (tc := 107) (sc := 1) (ms := m.fe) (fun s : Ky => [Value.string s]) u22 el9 rfl rfl rfl rfl hOa rfl hM.fe rfl (tz_one1 _) (by decide) (by simp; omega) (by simp [maxLen]; omega)) ?_
  rintro _ _ ⟨Hb, pb, cb, rfl, hOb, rfl⟩
  refine q_d rfl q_as (DL.done (N.next (q_k [1, 3] [0, 1, 101, 107] ?_)))
  refine W.seq (q_sr (q_an ?_))
  refine W.block ?_
  refine W.loopK (ι := NI) (fun x => (x.k ≤ m.rk.length ∧ Own x.H x.p x.c 9 1 (tz ((m.si ++ m.fe) ++ (m.rk.take x.k).map (·.nm))))) (fun x => [(3, .slice x.p ((m.si ++ m.fe) ++ (m.rk.take x.k).map (·.nm)).length x.c), (4, .int .i64 (x.k : Nat))]) (fun x => [(107, x.H)]) (fun x => m.rk.length - x.k) (.of [1] rfl) (.of [0, 1, 101] rfl) ⟨0, Hb, pb, cb⟩ ?_ ?_ ?_ ?_
  · exact ⟨Nat.zero_le _, by rw [List.take_zero, List.map_nil, List.append_nil]; exact hOb⟩
  · exact (.as rfl (by simp) (q_a .nil))
  · exact (.to rfl)
  rintro x ⟨hk, hO⟩
  refine q_k [3, 4, 1] [107, 0, 1, 101] ?_
  refine W.seq (q_sr (q_q q_mv (q_q (q_fa fo29_2) (q_q (q_l 101 u23) (q_q (q_n u23) (q_q (q_b BinV.lss) (q_nn (q_k [1, 3, 4, 18] [0, 1, 101, 107] ?_))))))))
  first | refine W.condD rfl (fun hc18 => ?_) (fun hc18 => ?_) | (refine W.cond rfl (fun hc18 => ?_) (fun hc18 => ?_) <;> try simp only [Bool.or_eq_true, Bool.and_eq_true, Bool.not_eq_true', Bool.not_eq_false', decide_eq_true_eq, Bool.or_eq_false_iff, Bool.and_eq_false_iff, decide_eq_false_iff_not, beq_iff_eq, beq_eq_false_iff_ne, ne_eq, Decidable.not_not] at hc18)
  ·
   obtain ⟨x0, he⟩ : ∃ x0, m.rk[x.k]? = some x0 := ⟨_, List.getElem?_eq_getElem (show x.k < m.rk.length by first | omega | (simp only [List.length_map] at *; omega))⟩
   have hle : (m.rk.map Rk.c)[x.k]? = some x0.c := by simp [he]
   have hsx : (m.si ++ m.fe) ++ (m.rk.take (x.k + 1)).map (·.nm) = ((m.si ++ m.fe) ++ (m.rk.take x.k).map (·.nm)) ++ [x0.nm] := by rw [List.take_add_one, he]; simp
   have hlo : ((m.si ++ m.fe) ++ (m.rk.take x.k).map (·.nm)).length ≤ 10000 := by simp only [List.length_append, List.length_map, List.length_take]; omega
   refine W.skip (N.next (W.seq (W.block (W.region (q_q q_mv (q_q (q_fa fo29_2) (q_q (q_l 101 u23) (q_q q_mv ?_))))))))
   refine q_q (q_ix u23 sz93) (q_q (q_fa fo93_0) ?_)
   refine q_q (by first | exact (by first | exact q_r1 1 u9 | exact q_r1 101 u9 | exact q_r1 107 u9) | exact (by first | exact q_rF 1 0 u9 | exact q_rF 101 0 u9 | exact q_rF 107 0 u9)) ?_
   refine q_e (Eff.buildSlice 128 u22 sz9 zc9 rfl rfl (.cons rfl rfl .nil) rfl) ?_
   rintro _ _ ⟨b28, rfl, rfl⟩
   refine q_e (Eff.appendE (tc := 107) (sc := 128) (ms := [x0.nm]) (fun s : Ky => [Value.string s]) u22 el9 rfl rfl rfl rfl hO rfl (Own.one (l := [Value.string x0.nm]) rfl (by simp [Value.oneCell']) rfl).sl rfl (tz_one1 _) (by decide) (by simp; omega) (by simp [maxLen]; omega)) ?_
   rintro _ _ ⟨Ha, pa, ca, rfl, hOa, rfl⟩
   refine q_q q_as (RL.nil (N.block_normal (N.next (q_k [1, 3, 4] [0, 1, 101, 107, 128] ?_))))
   refine W.region (q_q q_mv ?_)
   refine q_q q_ad (q_q q_as (RL.nil ?_))
   exact N.famK ⟨x.k + 1, Ha, pa, ca⟩ ⟨⟨by dsimp only; omega, by dsimp only; rw [hsx]; exact hOa⟩, by dsimp only; omega⟩ (.as rfl (by rw [hsx]) (q_a .nil)) (.to rfl) (.to rfl) (.to rfl)
  ·
   have hend : x.k = m.rk.length := by omega
   rw [hend, List.take_length] at hO ⊢
   refine W.exit (N.then_exit (N.then_exit (N.block_eq (N.next (W.seq (q_sr (q_an ?_)))))))
   refine W.block ?_
   refine W.loopK (ι := NI) (fun y => (y.k ≤ m.mc.length ∧ Own y.H y.p y.c 9 1 (tz ((m.si ++ m.fe ++ m.rk.map (·.nm)) ++ (m.mc.take y.k).map (·.nm))))) (fun y => [(3, .slice y.p ((m.si ++ m.fe ++ m.rk.map (·.nm)) ++ (m.mc.take y.k).map (·.nm)).length y.c), (5, .int .i64 (y.k : Nat))]) (fun y => [(107, y.H)]) (fun y => m.mc.length - y.k) (.of [1] rfl) (.of [0, 1, 101] rfl) ⟨0, x.H, x.p, x.c⟩ ?_ ?_ ?_ ?_
   · exact ⟨Nat.zero_le _, by rw [List.take_zero, List.map_nil, List.append_nil]; exact hO⟩
   · exact (.as rfl (by simp) (q_a .nil))
   · exact (.to rfl)
   rintro y ⟨hk, hO⟩
   refine q_k [3, 5, 1] [107, 0, 1, 101] ?_
   refine W.seq (q_sr (q_q q_mv (q_q (q_fa fo29_3) (q_q (q_l 101 u24) (q_q (q_n u24) (q_q (q_b BinV.lss) (q_nn (q_k [1, 3, 5, 34] [0, 1, 101, 107] ?_))))))))
   first | refine W.condD rfl (fun hc34 => ?_) (fun hc34 => ?_) | (refine W.cond rfl (fun hc34 => ?_) (fun hc34 => ?_) <;> try simp only [Bool.or_eq_true, Bool.and_eq_true, Bool.not_eq_true', Bool.not_eq_false', decide_eq_true_eq, Bool.or_eq_false_iff, Bool.and_eq_false_iff, decide_eq_false_iff_not, beq_iff_eq, beq_eq_false_iff_ne, ne_eq, Decidable.not_not] at hc34)
   ·
    obtain ⟨y0, he⟩ : ∃ y0, m.mc[y.k]? = some y0 := ⟨_, List.getElem?_eq_getElem (show y.k < m.mc.length by first | omega | (simp only [List.length_map] at *; omega))⟩
    have hle : (m.mc.map Mc.c)[y.k]? = some y0.c := by simp [he]
    have hsx : (m.si ++ m.fe ++ m.rk.map (·.nm)) ++ (m.mc.take (y.k + 1)).map (·.nm) = ((m.si ++ m.fe ++ m.rk.map (·.nm)) ++ (m.mc.take y.k).map (·.nm)) ++ [y0.nm] := by rw [List.take_add_one, he]; simp
    have hlo : ((m.si ++ m.fe ++ m.rk.map (·.nm)) ++ (m.mc.take y.k).map (·.nm)).length ≤ 10000 := by simp only [List.length_append, List.length_map, List.length_take]; omega
    refine W.skip (N.next (W.seq (W.block (W.region (q_q q_mv (q_q (q_fa fo29_3) (q_q (q_l 101 u24) (q_q q_mv ?_))))))))
    refine q_q (q_ix u24 sz95) (q_q (q_fa fo95_0) ?_)
    refine q_q (by first | exact (by first | exact q_r1 1 u9 | exact q_r1 101 u9 | exact q_r1 107 u9) | exact (by first | exact q_rF 1 0 u9 | exact q_rF 101 0 u9 | exact q_rF 107 0 u9)) ?_
    refine q_e (Eff.buildSlice 144 u22 sz9 zc9 rfl rfl (.cons rfl rfl .nil) rfl) ?_
    rintro _ _ ⟨b44, rfl, rfl⟩
    refine q_e (Eff.appendE (tc := 107) (sc := 144) (ms := [y0.nm]) (fun s : Ky => [Value.string s]) u22 el9 rfl rfl rfl rfl hO rfl (Own.one (l := [Value.string y0.nm]) rfl (by simp [Value.oneCell']) rfl).sl rfl (tz_one1 _) (by decide) (by simp; omega) (by simp [maxLen]; omega)) ?_
    rintro _ _ ⟨Ha, pa, ca, rfl, hOa, rfl⟩
    refine q_q q_as (RL.nil (N.block_normal (N.next (q_k [1, 3, 5] [0, 1, 101, 107, 144] ?_))))
    refine W.region (q_q q_mv ?_)
    refine q_q q_ad (q_q q_as (RL.nil ?_))
    exact N.famK ⟨y.k + 1, Ha, pa, ca⟩ ⟨⟨by dsimp only; omega, by dsimp only; rw [hsx]; exact hOa⟩, by dsimp only; omega⟩ (.as rfl (by rw [hsx]) (q_a .nil)) (.to rfl) (.to rfl) (.to rfl)
   ·
    have hend : y.k = m.mc.length := by omega
    rw [hend, List.take_length] at hO ⊢
    refine W.exit (N.then_exit (N.then_exit (N.block_eq (N.next (W.seq (q_sr (q_an ?_)))))))
    refine W.block ?_
    refine W.loopK (ι := NI) (fun w => (w.k ≤ m.is.length ∧ Own w.H w.p w.c 9 1 (tz ((m.si ++ m.fe ++ m.rk.map (·.nm) ++ m.mc.map (·.nm)) ++ (m.is.take w.k).map (·.nm))))) (fun w => [(3, .slice w.p ((m.si ++ m.fe ++ m.rk.map (·.nm) ++ m.mc.map (·.nm)) ++ (m.is.take w.k).map (·.nm)).length w.c), (6, .int .i64 (w.k : Nat))]) (fun w => [(107, w.H)]) (fun w => m.is.length - w.k) (.of [1] rfl) (.of [0, 1, 101] rfl) ⟨0, y.H, y.p, y.c⟩ ?_ ?_ ?_ ?_
    · exact ⟨Nat.zero_le _, by rw [List.take_zero, List.map_nil, List.append_nil]; exact hO⟩
    · exact (.as rfl (by simp) (q_a .nil))
    · exact (.to rfl)
    rintro w ⟨hk, hO⟩
    refine q_k [3, 6, 1] [107, 0, 1, 101] ?_
    refine W.seq (q_sr (q_q q_mv (q_q (q_fa fo29_5) (q_q (q_l 101 u26) (q_q (q_n u26) (q_q (q_b BinV.lss) (q_nn (q_k [1, 3, 6, 50] [0, 1, 101, 107] ?_))))))))
    first | refine W.condD rfl (fun hc50 => ?_) (fun hc50 => ?_) | (refine W.cond rfl (fun hc50 => ?_) (fun hc50 => ?_) <;> try simp only [Bool.or_eq_true, Bool.and_eq_true, Bool.not_eq_true', Bool.not_eq_false', decide_eq_true_eq, Bool.or_eq_false_iff, Bool.and_eq_false_iff, decide_eq_false_iff_not, beq_iff_eq, beq_eq_false_iff_ne, ne_eq, Decidable.not_not] at hc50)
    ·
     obtain ⟨w0, he⟩ : ∃ w0, m.is[w.k]? = some w0 := ⟨_, List.getElem?_eq_getElem (show w.k < m.is.length by first | omega | (simp only [List.length_map] at *; omega))⟩
     have hle : (m.is.map It.c)[w.k]? = some w0.c := by simp [he]
     have hsx : (m.si ++ m.fe ++ m.rk.map (·.nm) ++ m.mc.map (·.nm)) ++ (m.is.take (w.k + 1)).map (·.nm) = ((m.si ++ m.fe ++ m.rk.map (·.nm) ++ m.mc.map (·.nm)) ++ (m.is.take w.k).map (·.nm)) ++ [w0.nm] := by rw [List.take_add_one, he]; simp
     have hlo : ((m.si ++ m.fe ++ m.rk.map (·.nm) ++ m.mc.map (·.nm)) ++ (m.is.take w.k).map (·.nm)).length ≤ 10000 := by simp only [List.length_append, List.length_map, List.length_take]; omega
     refine W.skip (N.next (W.seq (W.block (W.region (q_q q_mv (q_q (q_fa fo29_5) (q_q (q_l 101 u26) (q_q q_mv ?_))))))))
     refine q_q (q_ix u26 sz64) (q_q (q_fa fo64_0) ?_)
     refine q_q (by first | exact (by first | exact q_r1 1 u9 | exact q_r1 101 u9 | exact q_r1 107 u9) | exact (by first | exact q_rF 1 0 u9 | exact q_rF 101 0 u9 | exact q_rF 107 0 u9)) ?_
     refine q_e (Eff.buildSlice 160 u22 sz9 zc9 rfl rfl (.cons rfl rfl .nil) rfl) ?_
     rintro _ _ ⟨b60, rfl, rfl⟩
     refine q_e (Eff.appendE (tc := 107) (sc := 160) (ms := [w0.nm]) (fun s : Ky => [Value.string s]) u22 el9 rfl rfl rfl rfl hO rfl (Own.one (l := [Value.string w0.nm]) rfl (by simp [Value.oneCell']) rfl).sl rfl (tz_one1 _) (by decide) (by simp; omega) (by simp [maxLen]; omega)) ?_
     rintro _ _ ⟨Ha, pa, ca, rfl, hOa, rfl⟩
     refine q_q q_as (RL.nil (N.block_normal (N.next (q_k [1, 3, 6] [0, 1, 101, 107, 160] ?_))))
     refine W.region (q_q q_mv ?_)
     refine q_q q_ad (q_q q_as (RL.nil ?_))
     exact N.famK ⟨w.k + 1, Ha, pa, ca⟩ ⟨⟨by dsimp only; omega, by dsimp only; rw [hsx]; exact hOa⟩, by dsimp only; omega⟩ (.as rfl (by rw [hsx]) (q_a .nil)) (.to rfl) (.to rfl) (.to rfl)
    ·
     have hend : w.k = m.is.length := by omega
     rw [hend, List.take_length] at hO ⊢
     refine W.exit (N.then_exit (N.then_exit (N.block_eq (N.next (q_sr (q_q q_mv (q_an ?_)))))))
     refine q_k [2] [0, 1, 101, 107] ?_
     refine W.ret ?_
     exact q_r [1, 107] (.cons (.tmp rfl) .nil) rfl rfl rfl ⟨w.H, w.p, w.c, rfl, hO, rfl⟩
set_option maxRecDepth 100000 in
set_option maxHeartbeats 1600000 in
theorem rnamesV_ct (m : Md) (H1 : PH) (hM : m.In H1) (hn : (namesOf m).length ≤ 10000) : Ct Tryz.prog 41 [.agg [.slice m.psi m.si.length m.csi, .slice m.pfe m.fe.length m.cfe, .slice m.prk m.rk.length m.crk, .slice m.pmc m.mc.length m.cmc, .slice m.pln m.ln.length m.cln, .slice m.pis m.is.length m.cis, .int .i64 m.da, .int .i64 m.sl, .int .i64 m.re, .int .i64 m.fa, .slice m.prl m.rl.length m.crl].toArray] [H1] (fun v Hs => v = .bool (pB (NsV (namesOf m))) ∧ Hs = [H1]) := by
  refine Ct.body Tryz.func41 rfl Tryz.ntmps41 rfl ?_
  intro E F
  refine q_sr ?_
  refine q_bx 101 fun b1 => ?_
  refine q_an ?_
  refine q_sr (q_q (q_lw 101 u29 sz29) ?_)
  refine q_e (q_c ent86 [1] [1, 160] (rnames_ct m H1 hM hn)) ?_
  rintro _ _ ⟨_, ⟨Hn, pn, cn, rfl, hOn, rfl⟩, rfl⟩
  have hSn := hOn.sl
  have hcn := hSn.len_le
  simp only [tz_len, maxLen] at hcn
  refine q_an ?_
  refine q_k [3] [0, 1, 101, 160] ?_
  refine W.seq (q_sr (q_an ?_))
  refine W.block ?_
  refine W.loopK (ι := Nat) (fun j => (j ≤ (namesOf m).length ∧ NsUp (namesOf m) j)) (fun j => [(4, .int .i64 (j : Nat))]) (fun j => []) (fun j => (namesOf m).length - j) (.of [3] rfl) (.of [0, 1, 101, 160] rfl) 0 ?_ ?_ ?_ ?_
  · exact ⟨Nat.zero_le _, fun _ _ h => absurd h (Nat.not_lt_zero _)⟩
  · exact (q_a .nil)
  · exact .nil
  rintro j ⟨hj, hU⟩
  refine q_k [4, 3] [0, 1, 101, 160] ?_
  refine W.seq (q_sr (q_q q_mv (q_q q_mv (q_q (q_n u22) (q_q (q_b BinV.lss) (q_nn ?_))))))
  first | refine W.condD rfl (fun hc10 => ?_) (fun hc10 => ?_) | (refine W.cond rfl (fun hc10 => ?_) (fun hc10 => ?_) <;> try simp only [Bool.or_eq_true, Bool.and_eq_true, Bool.not_eq_true', Bool.not_eq_false', decide_eq_true_eq, Bool.or_eq_false_iff, Bool.and_eq_false_iff, decide_eq_false_iff_not, beq_iff_eq, beq_eq_false_iff_ne, ne_eq, Decidable.not_not] at hc10)
  ·
   obtain ⟨s, hs, hls⟩ := tz_at (show j < (namesOf m).length by omega)
   refine W.skip (N.next (q_k [3, 4] [0, 1, 101, 160] ?_))
   refine W.seq (W.block (W.seq ?_))
   refine W.draw (.q 0 (.q 1 (.q 2 (.q 3 (.one 4 (.q 5 (.q 6 (.q 7 (.q 8 (.q 9 (.q 10 (.q 11 (.q 12 (.q 13 (.one 14 (.q 15 .done)))))))))))))))) (.of [0, 1, 101, 160] rfl) mix (by kernel_rfl) (by kernel_rfl) (q_d rfl q_mv (q_d rfl q_mv ?_))
   refine q_d rfl (q_ix u22 sz9) ?_
   refine q_d rfl (by first | exact (by first | exact q_r1 1 u9 | exact q_r1 101 u9 | exact q_r1 160 u9) | exact (by first | exact q_rF 1 0 u9 | exact q_rF 101 0 u9 | exact q_rF 160 0 u9)) ?_
   refine q_o rfl (q_c ent87 [] [] (risName_ct s)) ?_
   rintro _ _ ⟨_, ⟨rfl, rfl⟩, rfl⟩
   refine q_d rfl Yld.nt (q_d rfl q_mv ?_)
   refine' DL.or (t := 19) (d := 28) 9 rfl (.of [3, 4, 13, 14, 15, 16, 17, 18] rfl) (.of [0, 1, 101, 160] rfl) ?_ ?_ ?_
   rotate_left 1
   ·
    intro hg19
    refine DL.gq rfl rfl rfl q_mv rfl ?_
    refine DL.gq rfl rfl rfl q_mv rfl ?_
    refine DL.gq rfl rfl rfl (Yld.sliceH u22 sz9 rfl rfl (by omega) (by first | omega | (simp; done) | (simp; omega))) rfl ?_
    refine DL.gq rfl rfl rfl q_mv rfl ?_
    refine DL.gq rfl rfl rfl q_mv rfl ?_
    refine DL.gq rfl rfl rfl (q_ix u22 sz9) rfl ?_
    refine DL.gq rfl rfl rfl (by first | exact (by first | exact q_r1 1 u9 | exact q_r1 101 u9 | exact q_r1 160 u9) | exact (by first | exact q_rF 1 0 u9 | exact q_rF 101 0 u9 | exact q_rF 160 0 u9)) rfl ?_
    refine DL.gone rfl rfl rfl (q_c ent88 [160] [160] (rhas_ct ((namesOf m).take j) Hn pn cn j (by rw [List.length_take]; omega) (by rw [tz, List.map_take]; exact hSn.take j) s)) rfl (by rintro _ _ ⟨_, ⟨rfl, rfl⟩, rfl⟩; repeat (first | exact .nil | refine .cons rfl ?_)) ?_
    rintro _ _ ⟨_, ⟨rfl, rfl⟩, rfl⟩
    refine q_d rfl Yld.pk ?_
    exact DL.meet (.to rfl) (.to rfl)
   ·
    intro hg19
    repeat refine q_ds ?_
    refine DL.gskip1 rfl rfl rfl rfl rfl (q_d rfl Yld.pk ?_)
    exact DL.meet (.to rfl) (.to rfl)
   refine DL.done (N.next (q_k [3, 4, 28] [0, 1, 101, 160] ?_))
   refine W.cond rfl (fun hc28 => ?_) (fun hc28 => ?_)
   ·
    have hbad : ¬ NsV (namesOf m) := fun h => by
      obtain ⟨h1, h2⟩ := h j s (List.getElem?_eq_some_iff.1 hs).1 hs
      rw [nameB_iff.2 h1, pB_not h2] at hc28
      cases hc28
    refine q_sr (q_an ?_)
    refine W.ret (N.block_ret (N.then_ret (N.then_ret (N.block_ret (N.then_ret ?_)))))
    exact q_r [1] (.cons (.tmp rfl) .nil) rfl rfl rfl ⟨by rw [pB_not hbad]; rfl, rfl⟩
   ·
    rw [Bool.or_eq_false_iff, Bool.not_eq_false', nameB_iff, pB_f] at hc28
    refine W.skip (N.block_normal (N.next (W.region (q_q q_mv ?_))))
    refine q_q q_ad (q_q q_as (RL.nil ?_))
    exact N.famK (j + 1) ⟨⟨by omega, hU.step hs hc28.1 hc28.2⟩, by omega⟩ (q_a .nil) (.to rfl) .nil (.to rfl)
  ·
   refine W.exit (N.then_exit (N.then_exit (N.block_eq (N.next ?_))))
   refine W.keep .nil (.of [0, 1, 101, 160] rfl) (q_sr (q_an ?_))
   refine W.ret ?_
   exact q_r [1] (.cons (.tmp rfl) .nil) rfl rfl rfl ⟨by rw [pB_true (show NsV (namesOf m) by unfold NsV; rw [← show j = (namesOf m).length by omega]; exact hU)]; rfl, rfl⟩
end Go.Proofs.YtboapdcmaeojgaaGreatDoor
