/- First. Written by program (walk.py). -/
import Derived.Test.YtbgppnkccbhbpaaL11
namespace Go.Proofs.Ytbgppnkccbhbpaa
open SL HistLaw Cfg
set_option linter.unusedVariables false
set_option linter.unusedSimpArgs false
theorem ent10 : Ent Try.prog 10 := ⟨_, _, Try.func10, by kernel_rfl, rfl⟩
theorem ent40 : Ent Try.prog 40 := ⟨_, _, Try.func40, by kernel_rfl, rfl⟩
theorem ent41 : Ent Try.prog 41 := ⟨_, _, Try.func41, by kernel_rfl, rfl⟩
noncomputable def HistLaw.chk (l : List O) : Int := if @decide (Valid l) (Classical.propDecidable _) = true then (if allLiveB l = true then 0 else 13) else 1
theorem HistLaw.CheckP.code {l : List O} {q : Option Addr} {n c : Nat} {e : Int} {H : PH} (h : CheckP l q n c e H) : e = chk l := by
  obtain ⟨h1, h2, h3⟩ := h
  unfold chk
  by_cases hv : Valid l
  · rw [if_pos (@decide_eq_true _ (Classical.propDecidable _) hv)]
    by_cases ha : AllLive l
    · rw [if_pos (allLiveB_iff.2 ha)]; exact (h2 hv ha).1
    · rw [if_neg (fun e => ha (allLiveB_iff.1 e))]; exact (h3 hv ha).2.2.2
  · rw [if_neg (fun e => hv (@of_decide_eq_true _ (Classical.propDecidable _) e))]; exact (h1 hv).2.2.2
def HistLaw.endsL (l : List O) : List Int := (l.filter fun o => decide (0 ≤ o.rsp)).map (·.rsp)
theorem HistLaw.ends_take {l : List O} {i : Nat} {o : O} (h : l[i]? = some o) : endsL (l.take (i + 1)) = if 0 ≤ o.rsp then endsL (l.take i) ++ [o.rsp] else endsL (l.take i) := by
  unfold endsL
  rw [List.take_add_one, h, List.filter_append]
  by_cases e : 0 ≤ o.rsp <;> simp [e]
theorem HistLaw.ends_len (l : List O) : (endsL l).length ≤ l.length := by unfold endsL; rw [List.length_map]; exact List.length_filter_le _ _
/-- the result of First, told by what it tries -/
def HistLaw.FirstP (l : List O) (r : Int) : Prop := (chk l ≠ 13 → r = -1) ∧ (chk l = 13 → (r = -1 ∧ ∀ e ∈ srt (endsL l), chk (prefixL (w64 (e + 1)) l) ≠ 13) ∨ ∃ i : Nat, (srt (endsL l))[i]? = some r ∧ chk (prefixL (w64 (r + 1)) l) = 13 ∧ ∀ (j : Nat) e, j < i → (srt (endsL l))[j]? = some e → chk (prefixL (w64 (e + 1)) l) ≠ 13)
theorem HistLaw.prefix_len (n : Int) (l : List O) : (prefixL n l).length ≤ l.length := by unfold prefixL; rw [List.length_map]; exact List.length_filter_le _ _

set_option maxRecDepth 100000 in
set_option maxHeartbeats 3200000 in
theorem first_ct (l : List O) (hl60 : l.length ≤ 60) (H1 : PH) (p : Option Addr) (c : Nat) (hS : Sl H1 p c 12 (l.map O.c)) : Ct Try.prog 20 [.slice p (l.map O.c).length c] [H1] (fun v Hs => ∃ r : Int, v = .int .i64 r ∧ FirstP l r ∧ Hs = [H1]) := by
  refine Ct.body Try.func20 rfl Try.ntmps20 rfl ?_
  intro E F
  have hmax := hS.len_le
  simp only [maxLen] at hmax
  have hll : (l.map O.c).length = l.length := by simp
  have hel := ends_len l
  refine W.seq ?_
  refine W.region ?_
  refine RL.q (Yld.assign rfl) rfl ?_
  refine RL.nil ?_
  refine N.next ?_
  refine W.seq ?_
  refine W.seq ?_
  refine W.region ?_
  refine RL.q (Yld.move rfl) rfl ?_
  refine RL.e (Eff.call ent10 [1] [1, 180] (.cons rfl .nil) (check_ct l hl60 _ _ _ hS) rfl rfl rfl rfl (by rintro _ _ ⟨_, _, _, _, _, _, _, rfl⟩; rfl)) rfl ?_
  rintro _ _ ⟨_, ⟨q1, n1, c1, e1, H3, rfl, hC1, rfl⟩, rfl⟩
  have he1 := hC1.code
  refine RL.q (Yld.move rfl) rfl ?_
  refine RL.q (Yld.extract rfl rfl) rfl ?_
  refine RL.q (Yld.extract rfl rfl) rfl ?_
  refine RL.q (Yld.assign rfl) rfl ?_
  refine RL.q (Yld.assign rfl) rfl ?_
  refine RL.nil ?_
  refine N.next ?_
  refine W.keep (.cons (k := 0) rfl (.cons (k := 4) rfl .nil)) (.cons (k := 0) rfl (.cons (k := 1) rfl (.cons (k := 180) rfl .nil))) ?_
  refine W.seq ?_
  refine W.region ?_
  refine RL.q (Yld.move rfl) rfl ?_
  refine RL.q (Yld.bin rfl rfl BinV.neq) rfl ?_
  refine RL.nil ?_
  refine N.next ?_
  first | refine W.condD rfl (fun hc18 => ?_) (fun hc18 => ?_) | (refine W.cond rfl (fun hc18 => ?_) (fun hc18 => ?_) <;> try simp only [Bool.or_eq_true, Bool.and_eq_true, Bool.not_eq_true', Bool.not_eq_false', decide_eq_true_eq, Bool.or_eq_false_iff, Bool.and_eq_false_iff, decide_eq_false_iff_not, beq_iff_eq, beq_eq_false_iff_ne, ne_eq, Decidable.not_not] at hc18)
  ·
    refine W.seq ?_
    refine W.region ?_
    refine RL.q (Yld.assign rfl) rfl ?_
    refine RL.nil ?_
    refine N.next ?_
    refine W.keep (.cons (k := 2) rfl .nil) (.cons (k := 0) rfl (.cons (k := 1) rfl (.cons (k := 180) rfl .nil))) ?_
    refine W.ret ?_
    refine N.then_ret ?_
    exact N.retBy [1] (.cons (.tmp rfl) .nil) rfl rfl rfl rfl ⟨-1, rfl, ⟨fun _ => rfl, fun h => by omega⟩, rfl⟩
  ·
    refine W.skip ?_
    refine N.next ?_
    refine W.seq ?_
    refine W.imp (Imp.empty _ 90) ?_
    refine W.region ?_
    refine RL.q (Yld.assign rfl) rfl ?_
    refine RL.nil ?_
    refine N.next ?_
    refine W.seq ?_
    refine W.seq ?_
    refine W.region ?_
    refine RL.q (Yld.move rfl) rfl ?_
    refine RL.q (Yld.lenSl Try.underlying22 rfl) rfl ?_
    refine RL.q (Yld.move rfl) rfl ?_
    refine RL.nil ?_
    refine N.next ?_
    refine W.block ?_
    refine W.loopK (ι := XI) (fun x => (x.i ≤ l.length ∧ Own x.H x.p x.c 3 1 (iz (endsL (l.take x.i))))) (fun x => [(5, .slice x.p (endsL (l.take x.i)).length x.c), (21, .int .i64 (x.i : Nat))]) (fun x => [(90, x.H)]) (fun x => l.length - x.i) (.cons (k := 0) rfl (.cons (k := 19) rfl (.cons (k := 20) rfl .nil))) (.cons (k := 0) rfl (.cons (k := 1) rfl (.cons (k := 180) rfl .nil))) ⟨0, emp, none, 0⟩ ?_ ?_ ?_ ?_
    · exact ⟨Nat.zero_le _, Own.nil _ _⟩
    · exact (.as rfl (by first | rfl | (simp; done) | (congr 1; simp; done) | (congr 1; omega)) (.as rfl (by first | rfl | (simp; done) | (congr 1; simp; done) | (congr 1; omega)) .nil))
    · exact (.cons rfl .nil)
    rintro x ⟨hi, hO⟩
    refine W.keep (.cons (k := 5) rfl (.cons (k := 21) rfl (.cons (k := 0) rfl (.cons (k := 19) rfl (.cons (k := 20) rfl .nil))))) (.cons (k := 90) rfl (.cons (k := 0) rfl (.cons (k := 1) rfl (.cons (k := 180) rfl .nil)))) ?_
    refine W.seq ?_
    refine W.region ?_
    refine RL.q (Yld.bin rfl rfl BinV.lss) rfl ?_
    refine RL.nil ?_
    refine N.next ?_
    refine W.seq ?_
    first | refine W.condD rfl (fun hc22 => ?_) (fun hc22 => ?_) | (refine W.cond rfl (fun hc22 => ?_) (fun hc22 => ?_) <;> try simp only [Bool.or_eq_true, Bool.and_eq_true, Bool.not_eq_true', Bool.not_eq_false', decide_eq_true_eq, Bool.or_eq_false_iff, Bool.and_eq_false_iff, decide_eq_false_iff_not, beq_iff_eq, beq_eq_false_iff_ne, ne_eq, Decidable.not_not] at hc22)
    ·
      obtain ⟨o, ho⟩ : ∃ o, l[x.i]? = some o := ⟨_, List.getElem?_eq_getElem (show x.i < l.length by simp only [List.length_map] at *; omega)⟩
      have hlo : (l.map O.c)[x.i]? = some o.c := by simp [ho]
      have hsu := ends_take ho
      have hcx := hO.sl.len_le
      simp only [iz_len, maxLen] at hcx
      have hex := ends_len (l.take x.i)
      rw [List.length_take] at hex
      refine W.skip ?_
      refine N.next ?_
      refine W.seq ?_
      refine W.block ?_
      refine W.seq ?_
      refine W.region ?_
      refine RL.q (Yld.indexRow Try.underlying22 sz42 rfl rfl (by first | assumption | exact Own.sl (by assumption)) (by first | rfl | omega | (simp; done) | (simp; omega)) (by omega) (by first | omega | (simp; done) | (simp; omega))) rfl ?_
      refine RL.q (by first | exact Yld.loadRow (cl := 1) Try.underlying42 rfl sz42 rfl rfl (by first | assumption | exact Own.sl (by assumption)) (by assumption) | exact Yld.loadRow (cl := 180) Try.underlying42 rfl sz42 rfl rfl (by first | assumption | exact Own.sl (by assumption)) (by assumption) | exact Yld.loadRow (cl := 90) Try.underlying42 rfl sz42 rfl rfl (by first | assumption | exact Own.sl (by assumption)) (by assumption)) rfl ?_
      refine RL.e (Eff.alloc 107 zc42) rfl ?_
      rintro _ _ ⟨b7, rfl, rfl⟩
      refine RL.e0 (Eff.storeS (c := 107) _ sz42 rfl rfl rfl rfl rfl rfl rfl (by (try simp only [putAt, List.take, List.drop, List.nil_append, List.cons_append, List.append_nil, List.length_cons, List.length_nil, Nat.add_zero, Nat.zero_add, Nat.reduceAdd]); rfl)) ?_
      rintro _ _ rfl
      refine RL.nil ?_
      refine N.next ?_
      refine W.seq ?_
      refine W.region ?_
      refine RL.q (Yld.fieldAddr fo42_6 rfl) rfl ?_
      refine RL.q (Yld.load1 (c := 107) Try.underlying3 rfl rfl rfl (by first | exact single_self _ _ | exact pset_self _ _ _ | assumption) rfl) rfl ?_
      refine RL.q (Yld.bin rfl rfl BinV.geq) rfl ?_
      refine RL.nil ?_
      refine N.next ?_
      refine W.keep (.cons (k := 0) rfl (.cons (k := 5) rfl (.cons (k := 7) rfl (.cons (k := 19) rfl (.cons (k := 20) rfl (.cons (k := 21) rfl (.cons (k := 27) rfl .nil))))))) (.cons (k := 0) rfl (.cons (k := 1) rfl (.cons (k := 90) rfl (.cons (k := 107) rfl (.cons (k := 180) rfl .nil))))) ?_
      first | refine W.condD rfl (fun hc27 => ?_) (fun hc27 => ?_) | (refine W.cond rfl (fun hc27 => ?_) (fun hc27 => ?_) <;> try simp only [Bool.or_eq_true, Bool.and_eq_true, Bool.not_eq_true', Bool.not_eq_false', decide_eq_true_eq, Bool.or_eq_false_iff, Bool.and_eq_false_iff, decide_eq_false_iff_not, beq_iff_eq, beq_eq_false_iff_ne, ne_eq, Decidable.not_not] at hc27)
      ·
        have hnx : (endsL (l.take (x.i + 1))) = (endsL (l.take x.i)) ++ [o.rsp] := by rw [hsu, if_pos hc27]
        refine W.region ?_
        refine RL.q (Yld.move rfl) rfl ?_
        refine RL.q (Yld.fieldAddr fo42_6 rfl) rfl ?_
        refine RL.q (Yld.load1 (c := 107) Try.underlying3 rfl rfl rfl (by first | exact single_self _ _ | exact pset_self _ _ _ | assumption) rfl) rfl ?_
        refine RL.e (Eff.buildSlice 131 Try.underlying25 sz3 zc3 rfl rfl (.cons rfl rfl .nil) rfl) rfl ?_
        rintro _ _ ⟨b31, rfl, rfl⟩
        refine RL.e (Eff.appendE (tc := 90) (sc := 131) (fun z : Int => [Value.int .i64 z]) Try.underlying25 el3 rfl rfl rfl rfl hO rfl (iz_single rfl) rfl (iz_one1 _) (by decide) (by simp; omega) (by simp [maxLen]; omega)) rfl ?_
        rintro _ _ ⟨Ha, pa, ca, rfl, hOa, rfl⟩
        refine RL.q (Yld.assign rfl) rfl ?_
        refine RL.nil ?_
        refine N.block_normal ?_
        refine N.next ?_
        refine W.keep (.cons (k := 0) rfl (.cons (k := 5) rfl (.cons (k := 19) rfl (.cons (k := 20) rfl (.cons (k := 21) rfl .nil))))) (.cons (k := 0) rfl (.cons (k := 1) rfl (.cons (k := 90) rfl (.cons (k := 107) rfl (.cons (k := 131) rfl (.cons (k := 180) rfl .nil)))))) ?_
        refine W.region ?_
        refine RL.q (Yld.bin rfl rfl (by first | exact BinV.add (by omega) (by omega) | exact BinV.addW)) rfl ?_
        refine RL.q (Yld.move rfl) rfl ?_
        refine RL.nil ?_
        exact N.famK ⟨x.i + 1, Ha, pa, ca⟩ ⟨⟨by dsimp only; omega, by dsimp only; rw [hnx]; exact hOa⟩, by dsimp only; omega⟩ (.as rfl (by show Value.slice _ _ _ = Value.slice _ _ _; rw [hnx]) (.as rfl (by first | rfl | (simp; done) | (congr 1; simp; done) | (congr 1; omega)) .nil)) (.cons rfl (.cons rfl (.cons rfl .nil))) (.cons rfl .nil) (.cons rfl (.cons rfl (.cons rfl .nil)))
      ·
        have hnx : (endsL (l.take (x.i + 1))) = (endsL (l.take x.i)) := by rw [hsu, if_neg hc27]
        refine W.skip ?_
        refine N.block_normal ?_
        refine N.next ?_
        refine W.region ?_
        refine RL.q (Yld.bin rfl rfl (by first | exact BinV.add (by omega) (by omega) | exact BinV.addW)) rfl ?_
        refine RL.q (Yld.move rfl) rfl ?_
        refine RL.nil ?_
        exact N.famK ⟨x.i + 1, x.H, x.p, x.c⟩ ⟨⟨by dsimp only; omega, by dsimp only; rw [hnx]; exact hO⟩, by dsimp only; omega⟩ (.as rfl (by show Value.slice _ _ _ = Value.slice _ _ _; rw [hnx]) (.as rfl (by first | rfl | (simp; done) | (congr 1; simp; done) | (congr 1; omega)) .nil)) (.cons rfl (.cons rfl (.cons rfl .nil))) (.cons rfl .nil) (.cons rfl (.cons rfl (.cons rfl .nil)))
    ·
      have hend : x.i = l.length := by omega
      rw [hend, List.take_length] at hO ⊢
      have hsl := srt_len (endsL l)
      refine W.exit ?_
      refine N.then_exit ?_
      refine N.then_exit ?_
      refine N.block_eq ?_
      refine N.next ?_
      refine W.keep (.cons (k := 0) rfl (.cons (k := 5) rfl .nil)) (.cons (k := 0) rfl (.cons (k := 1) rfl (.cons (k := 90) rfl (.cons (k := 180) rfl .nil)))) ?_
      refine W.seq ?_
      refine W.region ?_
      refine RL.q (Yld.move rfl) rfl ?_
      refine RL.e (Eff.call ent40 [90] [90] (.cons rfl .nil) (sort_ct _ _ _ _ hO (by omega)) rfl rfl rfl rfl (by rintro _ _ ⟨_, _, _, rfl⟩; rfl)) rfl ?_
      rintro _ _ ⟨_, ⟨rfl, Hs1, hOs, rfl⟩, rfl⟩
      rw [show (endsL l).length = (srt (endsL l)).length from hsl.symm]
      refine RL.nil ?_
      refine N.next ?_
      refine W.seq ?_
      refine W.seq ?_
      refine W.region ?_
      refine RL.q (Yld.move rfl) rfl ?_
      refine RL.q (Yld.lenSl Try.underlying25 rfl) rfl ?_
      refine RL.q (Yld.move rfl) rfl ?_
      refine RL.nil ?_
      refine N.next ?_
      refine W.block ?_
      refine W.loopK (ι := Nat) (fun j => (j ≤ (srt (endsL l)).length ∧ ∀ (j2 : Nat) e, j2 < j → (srt (endsL l))[j2]? = some e → chk (prefixL (w64 (e + 1)) l) ≠ 13)) (fun j => [(38, .int .i64 (j : Nat))]) (fun j => []) (fun j => (srt (endsL l)).length - j) (.cons (k := 0) rfl (.cons (k := 36) rfl (.cons (k := 37) rfl .nil))) (.cons (k := 0) rfl (.cons (k := 1) rfl (.cons (k := 90) rfl (.cons (k := 180) rfl .nil)))) 0 ?_ ?_ ?_ ?_
      · exact ⟨Nat.zero_le _, fun _ _ h => absurd h (Nat.not_lt_zero _)⟩
      · exact (.as rfl (by first | rfl | (simp; done) | (congr 1; simp; done) | (congr 1; omega)) .nil)
      · exact .nil
      rintro j ⟨hj, hI⟩
      refine W.keep (.cons (k := 38) rfl (.cons (k := 0) rfl (.cons (k := 36) rfl (.cons (k := 37) rfl .nil)))) (.cons (k := 0) rfl (.cons (k := 1) rfl (.cons (k := 90) rfl (.cons (k := 180) rfl .nil)))) ?_
      refine W.seq ?_
      refine W.region ?_
      refine RL.q (Yld.bin rfl rfl BinV.lss) rfl ?_
      refine RL.nil ?_
      refine N.next ?_
      refine W.seq ?_
      first | refine W.condD rfl (fun hc39 => ?_) (fun hc39 => ?_) | (refine W.cond rfl (fun hc39 => ?_) (fun hc39 => ?_) <;> try simp only [Bool.or_eq_true, Bool.and_eq_true, Bool.not_eq_true', Bool.not_eq_false', decide_eq_true_eq, Bool.or_eq_false_iff, Bool.and_eq_false_iff, decide_eq_false_iff_not, beq_iff_eq, beq_eq_false_iff_ne, ne_eq, Decidable.not_not] at hc39)
      ·
        obtain ⟨e, he, hle⟩ := iz_at (show j < (srt (endsL l)).length by omega)
        refine W.skip ?_
        refine N.next ?_
        refine W.seq ?_
        refine W.block ?_
        refine W.seq ?_
        refine W.region ?_
        refine RL.q (Yld.indexRow Try.underlying25 sz3 rfl rfl (by first | assumption | exact Own.sl (by assumption)) (by first | rfl | omega | (simp; done) | (simp; omega)) (by omega) (by first | omega | (simp; done) | (simp; omega))) rfl ?_
        refine RL.q (by first | exact (by first | exact Yld.loadRow1 (cl := 1) Try.underlying3 rfl rfl rfl (by first | assumption | exact Own.sl (by assumption)) (by assumption) | exact Yld.loadRow1 (cl := 90) Try.underlying3 rfl rfl rfl (by first | assumption | exact Own.sl (by assumption)) (by assumption) | exact Yld.loadRow1 (cl := 180) Try.underlying3 rfl rfl rfl (by first | assumption | exact Own.sl (by assumption)) (by assumption)) | exact (by first | exact Yld.loadRowF (cl := 1) (j := 0) Try.underlying3 rfl rfl rfl (by first | assumption | exact Own.sl (by assumption)) (by assumption) rfl | exact Yld.loadRowF (cl := 90) (j := 0) Try.underlying3 rfl rfl rfl (by first | assumption | exact Own.sl (by assumption)) (by assumption) rfl | exact Yld.loadRowF (cl := 180) (j := 0) Try.underlying3 rfl rfl rfl (by first | assumption | exact Own.sl (by assumption)) (by assumption) rfl)) rfl ?_
        refine RL.q (Yld.assign rfl) rfl ?_
        refine RL.nil ?_
        refine N.next ?_
        refine W.seq ?_
        refine W.region ?_
        refine RL.q (Yld.move rfl) rfl ?_
        refine RL.q (Yld.move rfl) rfl ?_
        refine RL.q (Yld.eq (v' := .int .i64 (w64 (e + 1))) (Yld.bin rfl rfl BinV.addW) (rfl)) rfl ?_
        refine RL.e (Eff.call ent41 [1] [1, 131] (.cons rfl (.cons rfl .nil)) (prefix_ct l (by omega) _ _ _ hS (w64 (e + 1))) rfl rfl rfl rfl (by rintro _ _ ⟨_, _, _, _, _, rfl⟩; rfl)) rfl ?_
        rintro _ _ ⟨_, ⟨Hp, pp, cp, rfl, hOp, rfl⟩, rfl⟩
        refine RL.e (Eff.call ent10 [131] [131, 181] (.cons rfl .nil) (check_ct (prefixL (w64 (e + 1)) l) (Nat.le_trans (prefix_len _ _) hl60) _ _ _ hOp.sl) rfl rfl rfl rfl (by rintro _ _ ⟨_, _, _, _, _, _, _, rfl⟩; rfl)) rfl ?_
        rintro _ _ ⟨_, ⟨q2, n2, c2, e2, H4, rfl, hC2, rfl⟩, rfl⟩
        have he2 := hC2.code
        refine RL.q (Yld.move rfl) rfl ?_
        refine RL.q (Yld.extract rfl rfl) rfl ?_
        refine RL.q (Yld.extract rfl rfl) rfl ?_
        refine RL.q (Yld.assign rfl) rfl ?_
        refine RL.q (Yld.assign rfl) rfl ?_
        refine RL.nil ?_
        refine N.next ?_
        refine W.keep (.cons (k := 0) rfl (.cons (k := 9) rfl (.cons (k := 11) rfl (.cons (k := 36) rfl (.cons (k := 37) rfl (.cons (k := 38) rfl .nil)))))) (.cons (k := 0) rfl (.cons (k := 1) rfl (.cons (k := 90) rfl (.cons (k := 131) rfl (.cons (k := 180) rfl (.cons (k := 181) rfl .nil)))))) ?_
        refine W.seq ?_
        refine W.region ?_
        refine RL.q (Yld.move rfl) rfl ?_
        refine RL.q (Yld.bin rfl rfl BinV.eql) rfl ?_
        refine RL.nil ?_
        refine N.next ?_
        first | refine W.condD rfl (fun hc51 => ?_) (fun hc51 => ?_) | (refine W.cond rfl (fun hc51 => ?_) (fun hc51 => ?_) <;> try simp only [Bool.or_eq_true, Bool.and_eq_true, Bool.not_eq_true', Bool.not_eq_false', decide_eq_true_eq, Bool.or_eq_false_iff, Bool.and_eq_false_iff, decide_eq_false_iff_not, beq_iff_eq, beq_eq_false_iff_ne, ne_eq, Decidable.not_not] at hc51)
        ·
          refine W.seq ?_
          refine W.region ?_
          refine RL.q (Yld.move rfl) rfl ?_
          refine RL.q (Yld.assign rfl) rfl ?_
          refine RL.nil ?_
          refine N.next ?_
          refine W.keep (.cons (k := 2) rfl .nil) (.cons (k := 0) rfl (.cons (k := 1) rfl (.cons (k := 90) rfl (.cons (k := 131) rfl (.cons (k := 180) rfl (.cons (k := 181) rfl .nil)))))) ?_
          refine W.ret ?_
          refine N.block_ret ?_
          refine N.then_ret ?_
          refine N.then_ret ?_
          refine N.block_ret ?_
          refine N.then_ret ?_
          exact N.retBy [1] (.cons (.tmp rfl) .nil) rfl rfl rfl rfl ⟨e, rfl, ⟨fun h => by omega, fun _ => .inr ⟨j, he, by omega, hI⟩⟩, rfl⟩
        ·
          have hstep : ∀ (j2 : Nat) e3, j2 < j + 1 → (srt (endsL l))[j2]? = some e3 → chk (prefixL (w64 (e3 + 1)) l) ≠ 13 := fun j2 e3 hj2 he3 => by
            by_cases q : j2 = j
            · subst q; rw [he] at he3; cases he3; omega
            · exact hI j2 e3 (by omega) he3
          refine W.skip ?_
          refine N.block_normal ?_
          refine N.next ?_
          refine W.keep (.cons (k := 0) rfl (.cons (k := 36) rfl (.cons (k := 37) rfl (.cons (k := 38) rfl .nil)))) (.cons (k := 0) rfl (.cons (k := 1) rfl (.cons (k := 90) rfl (.cons (k := 131) rfl (.cons (k := 180) rfl (.cons (k := 181) rfl .nil)))))) ?_
          refine W.region ?_
          refine RL.q (Yld.bin rfl rfl (by first | exact BinV.add (by omega) (by omega) | exact BinV.addW)) rfl ?_
          refine RL.q (Yld.move rfl) rfl ?_
          refine RL.nil ?_
          exact N.famK (j + 1) ⟨⟨by omega, hstep⟩, by omega⟩ (.as rfl (by first | rfl | (simp; done) | (congr 1; simp; done) | (congr 1; omega)) .nil) (.cons rfl (.cons rfl (.cons rfl .nil))) .nil (.cons rfl (.cons rfl (.cons rfl (.cons rfl .nil))))
      ·
        have hendj : j = (srt (endsL l)).length := by omega
        refine W.exit ?_
        refine N.then_exit ?_
        refine N.then_exit ?_
        refine N.block_eq ?_
        refine N.next ?_
        refine W.keep .nil (.cons (k := 0) rfl (.cons (k := 1) rfl (.cons (k := 90) rfl (.cons (k := 180) rfl .nil)))) ?_
        refine W.seq ?_
        refine W.region ?_
        refine RL.q (Yld.assign rfl) rfl ?_
        refine RL.nil ?_
        refine N.next ?_
        refine W.ret ?_
        exact N.retBy [1] (.cons (.tmp rfl) .nil) rfl rfl rfl rfl ⟨-1, rfl, ⟨fun h => by omega, fun _ => .inl ⟨rfl, fun e he => by obtain ⟨i, hi⟩ := List.getElem?_of_mem he; exact hI i e (by have := (List.getElem?_eq_some_iff.1 hi).1; omega) hi⟩⟩, rfl⟩

set_option maxRecDepth 100000 in
set_option maxHeartbeats 400000 in
theorem sameInts_ct (u v : List Int) (H1 H2 : PH) (p q : Option Addr) (c d : Nat) (hA : Sl H1 p c 1 (iz u)) (hB : Sl H2 q d 1 (iz v)) (h : u = v) : Ct Try.prog 24 [.slice p u.length c, .slice q v.length d] [H1, H2] (fun r Hs => r = .bool true ∧ Hs = [H1, H2]) := by
  refine Ct.body Try.func24 rfl Try.ntmps24 rfl ?_
  intro E F
  have hmax := hA.len_le
  have hmax2 := hB.len_le
  simp only [iz_len, maxLen] at hmax hmax2
  subst h
  refine W.seq ?_
  refine W.region ?_
  refine RL.q (Yld.assign rfl) rfl ?_
  refine RL.nil ?_
  refine N.next ?_
  refine W.seq ?_
  refine W.seq ?_
  refine W.region ?_
  refine RL.q (Yld.move rfl) rfl ?_
  refine RL.q (Yld.lenSl Try.underlying25 rfl) rfl ?_
  refine RL.q (Yld.move rfl) rfl ?_
  refine RL.q (Yld.lenSl Try.underlying25 rfl) rfl ?_
  refine RL.q (Yld.bin rfl rfl BinV.neq) rfl ?_
  refine RL.nil ?_
  refine N.next ?_
  refine W.keep (.cons (k := 0) rfl (.cons (k := 1) rfl (.cons (k := 10) rfl .nil))) (.cons (k := 0) rfl (.cons (k := 1) rfl (.cons (k := 2) rfl .nil))) ?_
  first | (refine W.as (t := 10) rfl (boolF (by first | assumption | omega | (simp; done))) ?_; refine W.condF rfl ?_) | refine W.condF rfl ?_
  refine W.skip ?_
  refine N.next ?_
  refine W.seq ?_
  refine W.seq ?_
  refine W.region ?_
  refine RL.q (Yld.assign rfl) rfl ?_
  refine RL.nil ?_
  refine N.next ?_
  refine W.block ?_
  refine W.loopK (ι := Nat) (fun j => (j ≤ u.length)) (fun j => [(5, .int .i64 (j : Nat))]) (fun j => []) (fun j => u.length - j) (.cons (k := 0) rfl (.cons (k := 1) rfl .nil)) (.cons (k := 0) rfl (.cons (k := 1) rfl (.cons (k := 2) rfl .nil))) 0 ?_ ?_ ?_ ?_
  · exact Nat.zero_le _
  · exact (.as rfl (by first | rfl | (simp; done) | (congr 1; simp; done) | (congr 1; omega)) .nil)
  · exact .nil
  rintro j hj
  refine W.keep (.cons (k := 5) rfl (.cons (k := 0) rfl (.cons (k := 1) rfl .nil))) (.cons (k := 0) rfl (.cons (k := 1) rfl (.cons (k := 2) rfl .nil))) ?_
  refine W.seq ?_
  refine W.seq ?_
  refine W.region ?_
  refine RL.q (Yld.move rfl) rfl ?_
  refine RL.q (Yld.move rfl) rfl ?_
  refine RL.q (Yld.lenSl Try.underlying25 rfl) rfl ?_
  refine RL.q (Yld.bin rfl rfl BinV.lss) rfl ?_
  refine RL.nil ?_
  refine N.next ?_
  first | refine W.condD rfl (fun hc14 => ?_) (fun hc14 => ?_) | (refine W.cond rfl (fun hc14 => ?_) (fun hc14 => ?_) <;> try simp only [Bool.or_eq_true, Bool.and_eq_true, Bool.not_eq_true', Bool.not_eq_false', decide_eq_true_eq, Bool.or_eq_false_iff, Bool.and_eq_false_iff, decide_eq_false_iff_not, beq_iff_eq, beq_eq_false_iff_ne, ne_eq, Decidable.not_not] at hc14)
  ·
    obtain ⟨z, hz, hlz⟩ := iz_at (show j < u.length by omega)
    refine W.skip ?_
    refine N.next ?_
    refine W.keep (.cons (k := 0) rfl (.cons (k := 1) rfl (.cons (k := 5) rfl .nil))) (.cons (k := 0) rfl (.cons (k := 1) rfl (.cons (k := 2) rfl .nil))) ?_
    refine W.seq ?_
    refine W.block ?_
    refine W.seq ?_
    refine W.draw (.q 0 (.q 1 (.q 2 (.q 3 (.q 4 (.q 5 (.q 6 (.q 7 (.q 8 .done))))))))) (.cons (k := 0) rfl (.cons (k := 1) rfl (.cons (k := 2) rfl .nil))) mix (by kernel_rfl) (by kernel_rfl) ?_
    refine DL.q rfl (Yld.move rfl) rfl ?_
    refine DL.q rfl (Yld.move rfl) rfl ?_
    refine DL.q rfl (Yld.indexRow Try.underlying25 sz3 rfl rfl (by first | assumption | exact Own.sl (by assumption)) (by first | rfl | omega | (simp; done) | (simp; omega)) (by omega) (by first | omega | (simp; done) | (simp; omega))) rfl ?_
    refine DL.q rfl (by first | exact (by first | exact Yld.loadRow1 (cl := 1) Try.underlying3 rfl rfl rfl (by first | assumption | exact Own.sl (by assumption)) (by assumption) | exact Yld.loadRow1 (cl := 2) Try.underlying3 rfl rfl rfl (by first | assumption | exact Own.sl (by assumption)) (by assumption)) | exact (by first | exact Yld.loadRowF (cl := 1) (j := 0) Try.underlying3 rfl rfl rfl (by first | assumption | exact Own.sl (by assumption)) (by assumption) rfl | exact Yld.loadRowF (cl := 2) (j := 0) Try.underlying3 rfl rfl rfl (by first | assumption | exact Own.sl (by assumption)) (by assumption) rfl)) rfl ?_
    refine DL.q rfl (Yld.move rfl) rfl ?_
    refine DL.q rfl (Yld.move rfl) rfl ?_
    refine DL.q rfl (Yld.indexRow Try.underlying25 sz3 rfl rfl (by first | assumption | exact Own.sl (by assumption)) (by first | rfl | omega | (simp; done) | (simp; omega)) (by omega) (by first | omega | (simp; done) | (simp; omega))) rfl ?_
    refine DL.q rfl (by first | exact (by first | exact Yld.loadRow1 (cl := 1) Try.underlying3 rfl rfl rfl (by first | assumption | exact Own.sl (by assumption)) (by assumption) | exact Yld.loadRow1 (cl := 2) Try.underlying3 rfl rfl rfl (by first | assumption | exact Own.sl (by assumption)) (by assumption)) | exact (by first | exact Yld.loadRowF (cl := 1) (j := 0) Try.underlying3 rfl rfl rfl (by first | assumption | exact Own.sl (by assumption)) (by assumption) rfl | exact Yld.loadRowF (cl := 2) (j := 0) Try.underlying3 rfl rfl rfl (by first | assumption | exact Own.sl (by assumption)) (by assumption) rfl)) rfl ?_
    refine DL.q rfl (Yld.bin rfl rfl BinV.neq) rfl ?_
    refine DL.done ?_
    refine N.next ?_
    refine W.keep (.cons (k := 0) rfl (.cons (k := 1) rfl (.cons (k := 5) rfl (.cons (k := 25) rfl .nil)))) (.cons (k := 0) rfl (.cons (k := 1) rfl (.cons (k := 2) rfl .nil))) ?_
    first | (refine W.as (t := 25) rfl (boolF (by first | assumption | omega | (simp; done))) ?_; refine W.condF rfl ?_) | refine W.condF rfl ?_
    refine W.skip ?_
    refine N.block_normal ?_
    refine N.next ?_
    refine W.region ?_
    refine RL.q (Yld.move rfl) rfl ?_
    refine RL.q (Yld.bin rfl rfl (by first | exact BinV.add (by omega) (by omega) | exact BinV.addW)) rfl ?_
    refine RL.q (Yld.assign rfl) rfl ?_
    refine RL.nil ?_
    exact N.famK (j + 1) ⟨by omega, by omega⟩ (.as rfl (by first | rfl | (simp; done) | (congr 1; simp; done) | (congr 1; omega)) .nil) (.cons rfl (.cons rfl .nil)) .nil (.cons rfl (.cons rfl (.cons rfl .nil)))
  ·
    refine W.exit ?_
    refine N.then_exit ?_
    refine N.then_exit ?_
    refine N.block_eq ?_
    refine N.next ?_
    refine W.keep .nil (.cons (k := 0) rfl (.cons (k := 1) rfl (.cons (k := 2) rfl .nil))) ?_
    refine W.seq ?_
    refine W.region ?_
    refine RL.q (Yld.assign rfl) rfl ?_
    refine RL.nil ?_
    refine N.next ?_
    refine W.ret ?_
    exact N.retBy [1, 2] (.cons (.tmp rfl) .nil) rfl rfl rfl rfl ⟨rfl, rfl⟩

end Go.Proofs.Ytbgppnkccbhbpaa
