/- LinearizeExecutes. Written by program (walk.py). -/
import Derived.Test.YtbgppnkccbhbpaaL19
import Derived.Test.YtbgppnkccbhbpaaSlByt
namespace Go.Proofs.Ytbgppnkccbhbpaa
open SL HistLaw Cfg
set_option linter.unusedVariables false
set_option linter.unusedSimpArgs false
theorem ent21 : Ent Try.prog 21 := ⟨_, _, Try.func21, by kernel_rfl, rfl⟩
theorem sz5 : sz Try.prog 5 1 := (by kernel_rfl : (Try.prog.info? 5).map (·.size) = some 1)
set_option maxRecDepth 100000 in
set_option maxHeartbeats 6400000 in
theorem linExecutes_ct (ops : List P4) (H1 : PH) (p : Option Addr) (c : Nat) (hS : Sl H1 p c 4 (ops.map P4.c)) (wd : List Int) (q : Option Addr) (d : Nat) (hQ : Sl H1 q d 1 (bz wd)) (hwd : ∀ z ∈ wd, 0 ≤ z ∧ z ≤ 255) : Ct Try.prog 7 [.slice p (ops.map P4.c).length c, .slice q wd.length d] [H1] (fun v Hs => v = .bool true ∧ Hs = [H1]) := by
  refine Ct.body Try.func7 rfl Try.ntmps7 rfl ?_
  intro E F
  have hmax := hS.len_le
  simp only [List.length_map, maxLen] at hmax
  have hll : (ops.map P4.c).length = ops.length := by simp
  have hmq := hQ.len_le
  simp only [bz_len, maxLen] at hmq
  refine W.seq ?_
  refine W.region ?_
  refine RL.q (Yld.assign rfl) rfl ?_
  refine RL.nil ?_
  refine N.next ?_
  refine W.seq ?_
  refine W.seq ?_
  refine W.region ?_
  refine RL.q (Yld.move rfl) rfl ?_
  refine RL.q (Yld.lenSl Try.underlying45 rfl) rfl ?_
  refine RL.q (Yld.bin rfl rfl BinV.gtr) rfl ?_
  refine RL.nil ?_
  refine N.next ?_
  first | refine W.condD rfl (fun hc15 => ?_) (fun hc15 => ?_) | (refine W.cond rfl (fun hc15 => ?_) (fun hc15 => ?_) <;> try simp only [Bool.or_eq_true, Bool.and_eq_true, Bool.not_eq_true', Bool.not_eq_false', decide_eq_true_eq, Bool.or_eq_false_iff, Bool.and_eq_false_iff, decide_eq_false_iff_not, beq_iff_eq, beq_eq_false_iff_ne, ne_eq, Decidable.not_not] at hc15)
  ·
    refine W.seq ?_
    refine W.region ?_
    refine RL.e (Eff.call ent9 [] [] .nil awake57_ct rfl rfl rfl rfl (by rintro _ _ ⟨_, rfl⟩; rfl)) rfl ?_
    rintro _ _ ⟨_, ⟨rfl, rfl⟩, rfl⟩
    refine RL.q (Yld.assign rfl) rfl ?_
    refine RL.nil ?_
    refine N.next ?_
    refine W.keep (.cons (k := 4) rfl .nil) (.cons (k := 0) rfl (.cons (k := 1) rfl .nil)) ?_
    refine W.ret ?_
    refine N.then_ret ?_
    exact N.retBy [1] (.cons (.tmp rfl) .nil) rfl rfl rfl rfl ⟨rfl, rfl⟩
  ·
    refine W.skip ?_
    refine N.next ?_
    refine W.keep (.cons (k := 0) rfl (.cons (k := 1) rfl .nil)) (.cons (k := 0) rfl (.cons (k := 1) rfl .nil)) ?_
    refine W.seq ?_
    refine W.imp (Imp.empty _ 150) ?_
    refine W.region ?_
    refine RL.q (Yld.assign rfl) rfl ?_
    refine RL.nil ?_
    refine N.next ?_
    refine W.seq ?_
    refine W.seq ?_
    refine W.region ?_
    refine RL.q (Yld.move rfl) rfl ?_
    refine RL.e (Eff.call ent21 [1] [1, 140] (.cons rfl .nil) (rDo_ct ops (by omega) _ _ _ hS) rfl rfl rfl rfl (by rintro _ _ ⟨_, _, _, _, _, rfl⟩; rfl)) rfl ?_
    rintro _ _ ⟨_, ⟨Hd, pd, cd, rfl, hOd, rfl⟩, rfl⟩
    rw [resL_len]
    have hmd := hOd.sl.len_le
    simp only [List.length_map, resL_len, maxLen] at hmd
    refine RL.q (Yld.lenSl Try.underlying47 rfl) rfl ?_
    refine RL.q (Yld.move rfl) rfl ?_
    refine RL.nil ?_
    refine N.next ?_
    refine W.block ?_
    refine W.loopK (ι := XI) (fun x => (x.i ≤ ops.length ∧ Own x.H x.p x.c 42 12 (((exL ops (wAt wd)).take x.i).map O.c) ∧ ∀ (j : Nat) a b, j < x.i → ops[j]? = some a → ops[0]? = some b → a.key = b.key)) (fun x => [(5, .slice x.p ((exL ops (wAt wd)).take x.i).length x.c), (20, .int .i64 (x.i : Nat))]) (fun x => [(150, x.H)]) (fun x => ops.length - x.i) (.cons (k := 0) rfl (.cons (k := 1) rfl (.cons (k := 18) rfl (.cons (k := 19) rfl .nil)))) (.cons (k := 0) rfl (.cons (k := 1) rfl (.cons (k := 140) rfl .nil))) ⟨0, emp, none, 0⟩ ?_ ?_ ?_ ?_
    · exact ⟨Nat.zero_le _, Own.nil _ _, fun _ _ _ h => absurd h (Nat.not_lt_zero _)⟩
    · exact (.as rfl (by first | rfl | (simp; done) | (congr 1; simp; done) | (congr 1; omega)) (.as rfl (by first | rfl | (simp; done) | (congr 1; simp; done) | (congr 1; omega)) .nil))
    · exact (.cons rfl .nil)
    rintro x ⟨hi, hO, hK⟩
    refine W.keep (.cons (k := 5) rfl (.cons (k := 20) rfl (.cons (k := 0) rfl (.cons (k := 1) rfl (.cons (k := 18) rfl (.cons (k := 19) rfl .nil)))))) (.cons (k := 150) rfl (.cons (k := 0) rfl (.cons (k := 1) rfl (.cons (k := 140) rfl .nil)))) ?_
    refine W.seq ?_
    refine W.region ?_
    refine RL.q (Yld.bin rfl rfl BinV.lss) rfl ?_
    refine RL.nil ?_
    refine N.next ?_
    refine W.seq ?_
    first | refine W.condD rfl (fun hc21 => ?_) (fun hc21 => ?_) | (refine W.cond rfl (fun hc21 => ?_) (fun hc21 => ?_) <;> try simp only [Bool.or_eq_true, Bool.and_eq_true, Bool.not_eq_true', Bool.not_eq_false', decide_eq_true_eq, Bool.or_eq_false_iff, Bool.and_eq_false_iff, decide_eq_false_iff_not, beq_iff_eq, beq_eq_false_iff_ne, ne_eq, Decidable.not_not] at hc21)
    ·
      obtain ⟨o, ho⟩ : ∃ o, ops[x.i]? = some o := ⟨_, List.getElem?_eq_getElem (show x.i < ops.length by simp only [List.length_map] at *; omega)⟩
      have hlo : (ops.map P4.c)[x.i]? = some o.c := by simp [ho]
      obtain ⟨o0, ho0⟩ : ∃ o0, ops[0]? = some o0 := ⟨_, List.getElem?_eq_getElem (show 0 < ops.length by simp only [List.length_map] at *; omega)⟩
      have hlo0 : (ops.map P4.c)[0]? = some o0.c := by simp [ho0]
      have hnx := exL_take (w := wAt wd) ho
      have hcx := hO.sl.len_le
      simp only [List.length_map, maxLen] at hcx
      have hrl : ((exL ops (wAt wd)).take x.i).length = x.i := by simp; omega
      have hwr := wAt_rng wd x.i
      obtain ⟨r, hr⟩ : ∃ r, (resL ops)[x.i]? = some r := ⟨_, resL_get ho⟩
      have hlr : ((resL ops).map rz)[x.i]? = some (rz (resAt ops x.i o)) := by rw [List.getElem?_map, resL_get ho]; rfl
      refine W.skip ?_
      refine N.next ?_
      refine W.seq ?_
      refine W.block ?_
      refine W.seq ?_
      refine W.region ?_
      refine RL.q (Yld.move rfl) rfl ?_
      refine RL.q (Yld.indexRow Try.underlying47 sz40 rfl rfl (by first | assumption | exact Own.sl (by assumption)) (by first | rfl | omega | (simp; done) | (simp; omega)) (by omega) (by first | omega | (simp; done) | (simp; omega))) rfl ?_
      refine RL.q (by first | exact Yld.loadRow (cl := 1) Try.underlying40 rfl sz40 rfl rfl (by first | assumption | exact Own.sl (by assumption)) (by assumption) | exact Yld.loadRow (cl := 140) Try.underlying40 rfl sz40 rfl rfl (by first | assumption | exact Own.sl (by assumption)) (by assumption) | exact Yld.loadRow (cl := 150) Try.underlying40 rfl sz40 rfl rfl (by first | assumption | exact Own.sl (by assumption)) (by assumption)) rfl ?_
      refine RL.e (Eff.alloc 107 zc40) rfl ?_
      rintro _ _ ⟨b7, rfl, rfl⟩
      refine RL.q (Yld.assign rfl) rfl ?_
      refine RL.e0 (Eff.storeS (c := 107) _ sz40 rfl rfl rfl rfl rfl rfl rfl (by (try simp only [putAt, List.take, List.drop, List.nil_append, List.cons_append, List.append_nil, List.length_cons, List.length_nil, Nat.add_zero, Nat.zero_add, Nat.reduceAdd]); rfl)) ?_
      rintro _ _ rfl
      refine RL.nil ?_
      refine N.next ?_
      refine W.keep (.cons (k := 0) rfl (.cons (k := 1) rfl (.cons (k := 5) rfl (.cons (k := 6) rfl (.cons (k := 7) rfl (.cons (k := 18) rfl (.cons (k := 19) rfl (.cons (k := 20) rfl .nil)))))))) (.cons (k := 0) rfl (.cons (k := 1) rfl (.cons (k := 107) rfl (.cons (k := 140) rfl (.cons (k := 150) rfl .nil))))) ?_
      refine W.seq ?_
      refine W.region ?_
      refine RL.q (Yld.assign rfl) rfl ?_
      refine RL.nil ?_
      refine N.next ?_
      refine W.cutK (ι := Unit) (fun _u => True) (fun _u => [(8, .int .i64 (wAt wd x.i))]) (fun _u => []) (.cons (k := 0) rfl (.cons (k := 1) rfl (.cons (k := 5) rfl (.cons (k := 6) rfl (.cons (k := 7) rfl (.cons (k := 18) rfl (.cons (k := 19) rfl (.cons (k := 20) rfl .nil)))))))) (.cons (k := 0) rfl (.cons (k := 1) rfl (.cons (k := 107) rfl (.cons (k := 140) rfl (.cons (k := 150) rfl .nil))))) ?_ ?_
      ·
        refine W.seq ?_
        refine W.region ?_
        refine RL.q (Yld.move rfl) rfl ?_
        refine RL.q (Yld.move rfl) rfl ?_
        refine RL.q (Yld.lenSl Try.underlying46 rfl) rfl ?_
        refine RL.q (Yld.bin rfl rfl BinV.lss) rfl ?_
        refine RL.nil ?_
        refine N.next ?_
        first | refine W.condD rfl (fun hc28 => ?_) (fun hc28 => ?_) | (refine W.cond rfl (fun hc28 => ?_) (fun hc28 => ?_) <;> try simp only [Bool.or_eq_true, Bool.and_eq_true, Bool.not_eq_true', Bool.not_eq_false', decide_eq_true_eq, Bool.or_eq_false_iff, Bool.and_eq_false_iff, decide_eq_false_iff_not, beq_iff_eq, beq_eq_false_iff_ne, ne_eq, Decidable.not_not] at hc28)
        ·
          obtain ⟨z, hz, hlz⟩ := bz_at (show x.i < wd.length by omega)
          have hzr := hwd z (List.mem_of_getElem? hz)
          refine W.region ?_
          refine RL.q (Yld.move rfl) rfl ?_
          refine RL.q (Yld.move rfl) rfl ?_
          refine RL.q (Yld.indexRow Try.underlying46 sz5 rfl rfl (by first | assumption | exact Own.sl (by assumption)) (by first | rfl | omega | (simp; done) | (simp; omega)) (by omega) (by first | omega | (simp; done) | (simp; omega))) rfl ?_
          refine RL.q (by first | exact (by first | exact Yld.loadRow1 (cl := 107) Try.underlying5 rfl rfl rfl (by first | assumption | exact Own.sl (by assumption)) (by assumption) | exact Yld.loadRow1 (cl := 1) Try.underlying5 rfl rfl rfl (by first | assumption | exact Own.sl (by assumption)) (by assumption) | exact Yld.loadRow1 (cl := 140) Try.underlying5 rfl rfl rfl (by first | assumption | exact Own.sl (by assumption)) (by assumption) | exact Yld.loadRow1 (cl := 150) Try.underlying5 rfl rfl rfl (by first | assumption | exact Own.sl (by assumption)) (by assumption)) | exact (by first | exact Yld.loadRowF (cl := 107) (j := 0) Try.underlying5 rfl rfl rfl (by first | assumption | exact Own.sl (by assumption)) (by assumption) rfl | exact Yld.loadRowF (cl := 1) (j := 0) Try.underlying5 rfl rfl rfl (by first | assumption | exact Own.sl (by assumption)) (by assumption) rfl | exact Yld.loadRowF (cl := 140) (j := 0) Try.underlying5 rfl rfl rfl (by first | assumption | exact Own.sl (by assumption)) (by assumption) rfl | exact Yld.loadRowF (cl := 150) (j := 0) Try.underlying5 rfl rfl rfl (by first | assumption | exact Own.sl (by assumption)) (by assumption) rfl)) rfl ?_
          refine RL.q (Yld.convIs Try.underlying5 Try.underlying3 rfl (by first | exact IntWalk.i64_in _ ⟨by omega, by omega⟩ | rfl)) rfl ?_
          refine RL.q (Yld.bin rfl rfl (by first | exact BinV.rem (by omega) (by omega) | exact BinV.remW (by omega))) rfl ?_
          refine RL.q (Yld.assign rfl) rfl ?_
          refine RL.nil ?_
          exact N.famK () trivial (.as rfl (by rw [wAt_some hz]) .nil) (.cons rfl (.cons rfl (.cons rfl (.cons rfl (.cons rfl (.cons rfl (.cons rfl (.cons rfl .nil)))))))) .nil (.cons rfl (.cons rfl (.cons rfl (.cons rfl (.cons rfl .nil)))))
        ·
          refine W.skip ?_
          exact N.famK () trivial (.as rfl (by rw [wAt_none (by omega)]) .nil) (.cons rfl (.cons rfl (.cons rfl (.cons rfl (.cons rfl (.cons rfl (.cons rfl (.cons rfl .nil)))))))) .nil (.cons rfl (.cons rfl (.cons rfl (.cons rfl (.cons rfl .nil)))))
      rintro _u -
      refine W.keep (.cons (k := 8) rfl (.cons (k := 0) rfl (.cons (k := 1) rfl (.cons (k := 5) rfl (.cons (k := 6) rfl (.cons (k := 7) rfl (.cons (k := 18) rfl (.cons (k := 19) rfl (.cons (k := 20) rfl .nil))))))))) (.cons (k := 0) rfl (.cons (k := 1) rfl (.cons (k := 107) rfl (.cons (k := 140) rfl (.cons (k := 150) rfl .nil))))) ?_
      refine W.seq ?_
      refine W.seq ?_
      refine W.draw (.q 0 (.q 1 (.q 2 (.q 3 (.one 4 (.q 5 (.q 6 (.q 7 (.q 8 (.q 9 (.q 10 (.q 11 (.q 12 (.q 13 (.q 14 (.q 15 (.q 16 (.q 17 .done)))))))))))))))))) (.cons (k := 0) rfl (.cons (k := 1) rfl (.cons (k := 107) rfl (.cons (k := 140) rfl (.cons (k := 150) rfl .nil))))) mix (by kernel_rfl) (by kernel_rfl) ?_
      refine DL.q rfl (Yld.move rfl) rfl ?_
      refine DL.q rfl (Yld.move rfl) rfl ?_
      refine DL.q rfl (Yld.indexRow Try.underlying45 sz38 rfl rfl (by first | assumption | exact Own.sl (by assumption)) (by first | rfl | omega | (simp; done) | (simp; omega)) (by omega) (by first | omega | (simp; done) | (simp; omega))) rfl ?_
      refine DL.q rfl (by first | exact Yld.loadRow (cl := 1) Try.underlying38 rfl sz38 rfl rfl (by first | assumption | exact Own.sl (by assumption)) (by assumption) | exact Yld.loadRow (cl := 107) Try.underlying38 rfl sz38 rfl rfl (by first | assumption | exact Own.sl (by assumption)) (by assumption) | exact Yld.loadRow (cl := 140) Try.underlying38 rfl sz38 rfl rfl (by first | assumption | exact Own.sl (by assumption)) (by assumption) | exact Yld.loadRow (cl := 150) Try.underlying38 rfl sz38 rfl rfl (by first | assumption | exact Own.sl (by assumption)) (by assumption)) rfl ?_
      refine DL.one rfl (Eff.call ent22 [] [] (.cons rfl .nil) (validOp_ct o.z) rfl rfl rfl rfl (by rintro _ _ ⟨_, rfl⟩; rfl)) rfl (by rintro _ _ ⟨_, ⟨rfl, rfl⟩, rfl⟩; repeat (first | exact .nil | refine .cons rfl ?_)) ?_
      rintro _ _ ⟨_, ⟨rfl, rfl⟩, rfl⟩
      refine DL.q rfl (by first | exact Yld.notD rfl | exact Yld.not rfl) rfl ?_
      refine DL.q rfl (Yld.move rfl) rfl ?_
      refine' DL.or (t := 41) (d := 52) 11 rfl (.cons (k := 0) rfl (.cons (k := 1) rfl (.cons (k := 5) rfl (.cons (k := 6) rfl (.cons (k := 7) rfl (.cons (k := 8) rfl (.cons (k := 18) rfl (.cons (k := 19) rfl (.cons (k := 20) rfl (.cons (k := 35) rfl (.cons (k := 36) rfl (.cons (k := 37) rfl (.cons (k := 38) rfl (.cons (k := 39) rfl (.cons (k := 40) rfl .nil))))))))))))))) (.cons (k := 0) rfl (.cons (k := 1) rfl (.cons (k := 107) rfl (.cons (k := 140) rfl (.cons (k := 150) rfl .nil))))) ?_ ?_ ?_
      rotate_left 1
      ·
        intro hg41
        refine DL.gq rfl rfl rfl (Yld.move rfl) rfl ?_
        refine DL.gq rfl rfl rfl (Yld.move rfl) rfl ?_
        refine DL.gq rfl rfl rfl (Yld.indexRow Try.underlying45 sz38 rfl rfl (by first | assumption | exact Own.sl (by assumption)) (by first | rfl | omega | (simp; done) | (simp; omega)) (by omega) (by first | omega | (simp; done) | (simp; omega))) rfl ?_
        refine DL.gq rfl rfl rfl (Yld.fieldAddr fo38_1 rfl) rfl ?_
        refine DL.gq rfl rfl rfl (by first | exact Yld.loadRowF (cl := 1) (j := 1) Try.underlying9 rfl rfl rfl (by first | assumption | exact Own.sl (by assumption)) (by assumption) rfl | exact Yld.loadRowF (cl := 107) (j := 1) Try.underlying9 rfl rfl rfl (by first | assumption | exact Own.sl (by assumption)) (by assumption) rfl | exact Yld.loadRowF (cl := 140) (j := 1) Try.underlying9 rfl rfl rfl (by first | assumption | exact Own.sl (by assumption)) (by assumption) rfl | exact Yld.loadRowF (cl := 150) (j := 1) Try.underlying9 rfl rfl rfl (by first | assumption | exact Own.sl (by assumption)) (by assumption) rfl) rfl ?_
        refine DL.gq rfl rfl rfl (Yld.move rfl) rfl ?_
        refine DL.gq rfl rfl rfl (Yld.indexRow Try.underlying45 sz38 rfl rfl (by first | assumption | exact Own.sl (by assumption)) (by first | rfl | omega | (simp; done) | (simp; omega)) (by omega) (by first | omega | (simp; done) | (simp; omega))) rfl ?_
        refine DL.gq rfl rfl rfl (Yld.fieldAddr fo38_1 rfl) rfl ?_
        refine DL.gq rfl rfl rfl (by first | exact Yld.loadRowF (cl := 1) (j := 1) Try.underlying9 rfl rfl rfl (by first | assumption | exact Own.sl (by assumption)) (by assumption) rfl | exact Yld.loadRowF (cl := 107) (j := 1) Try.underlying9 rfl rfl rfl (by first | assumption | exact Own.sl (by assumption)) (by assumption) rfl | exact Yld.loadRowF (cl := 140) (j := 1) Try.underlying9 rfl rfl rfl (by first | assumption | exact Own.sl (by assumption)) (by assumption) rfl | exact Yld.loadRowF (cl := 150) (j := 1) Try.underlying9 rfl rfl rfl (by first | assumption | exact Own.sl (by assumption)) (by assumption) rfl) rfl ?_
        refine DL.gq rfl rfl rfl (Yld.bin rfl rfl BinV.neqS) rfl ?_
        refine DL.q rfl (by first | exact Yld.pickT rfl rfl | exact Yld.pickF rfl rfl) rfl ?_
        exact DL.meet (.cons rfl (.cons rfl (.cons rfl (.cons rfl (.cons rfl (.cons rfl (.cons rfl (.cons rfl (.cons rfl (.cons rfl (.cons rfl (.cons rfl (.cons rfl (.cons rfl (.cons rfl (.cons rfl .nil)))))))))))))))) (.cons rfl (.cons rfl (.cons rfl (.cons rfl (.cons rfl .nil)))))
      ·
        intro hg41
        refine DL.gskip rfl rfl rfl rfl rfl ?_
        refine DL.gskip rfl rfl rfl rfl rfl ?_
        refine DL.gskip rfl rfl rfl rfl rfl ?_
        refine DL.gskip rfl rfl rfl rfl rfl ?_
        refine DL.gskip rfl rfl rfl rfl rfl ?_
        refine DL.gskip rfl rfl rfl rfl rfl ?_
        refine DL.gskip rfl rfl rfl rfl rfl ?_
        refine DL.gskip rfl rfl rfl rfl rfl ?_
        refine DL.gskip rfl rfl rfl rfl rfl ?_
        refine DL.gskip rfl rfl rfl rfl rfl ?_
        refine DL.q rfl (by first | exact Yld.pickT rfl rfl | exact Yld.pickF rfl rfl) rfl ?_
        exact DL.meet (.cons rfl (.cons rfl (.cons rfl (.cons rfl (.cons rfl (.cons rfl (.cons rfl (.cons rfl (.cons rfl (.cons rfl (.cons rfl (.cons rfl (.cons rfl (.cons rfl (.cons rfl (.cons rfl .nil)))))))))))))))) (.cons rfl (.cons rfl (.cons rfl (.cons rfl (.cons rfl .nil)))))
      refine DL.done ?_
      refine N.next ?_
      refine W.keep (.cons (k := 0) rfl (.cons (k := 1) rfl (.cons (k := 5) rfl (.cons (k := 6) rfl (.cons (k := 7) rfl (.cons (k := 8) rfl (.cons (k := 18) rfl (.cons (k := 19) rfl (.cons (k := 20) rfl (.cons (k := 52) rfl .nil)))))))))) (.cons (k := 0) rfl (.cons (k := 1) rfl (.cons (k := 107) rfl (.cons (k := 140) rfl (.cons (k := 150) rfl .nil))))) ?_
      refine W.cond rfl (fun hc52 => ?_) (fun hc52 => ?_)
      ·
        refine W.seq ?_
        refine W.region ?_
        refine RL.e (Eff.call ent9 [] [] .nil awake57_ct rfl rfl rfl rfl (by rintro _ _ ⟨_, rfl⟩; rfl)) rfl ?_
        rintro _ _ ⟨_, ⟨rfl, rfl⟩, rfl⟩
        refine RL.q (Yld.assign rfl) rfl ?_
        refine RL.nil ?_
        refine N.next ?_
        refine W.keep (.cons (k := 4) rfl .nil) (.cons (k := 0) rfl (.cons (k := 1) rfl (.cons (k := 107) rfl (.cons (k := 140) rfl (.cons (k := 150) rfl .nil))))) ?_
        refine W.ret ?_
        refine N.then_ret ?_
        refine N.block_ret ?_
        refine N.then_ret ?_
        refine N.then_ret ?_
        refine N.block_ret ?_
        refine N.then_ret ?_
        exact N.retBy [1] (.cons (.tmp rfl) .nil) rfl rfl rfl rfl ⟨rfl, rfl⟩
      ·
        rw [Bool.or_eq_false_iff] at hc52
        have hkey : o.key = o0.key := by simpa using hc52.2
        have hK2 : ∀ (j : Nat) a b, j < x.i + 1 → ops[j]? = some a → ops[0]? = some b → a.key = b.key := fun j a b hj ha hb => by
          by_cases e : j = x.i
          · subst e; rw [ho] at ha; cases ha; rw [ho0] at hb; cases hb; exact hkey
          · exact hK j a b (by omega) ha hb
        refine W.skip ?_
        refine N.next ?_
        refine W.draw (.q 0 (.q 1 (.q 2 (.q 3 (.q 4 (.q 5 (.q 6 (.q 7 (.q 8 (.q 9 (.q 10 (.q 11 (.q 12 (.q 13 (.q 14 (.q 15 (.q 16 (.q 17 (.q 18 (.q 19 (.q 20 (.q 21 (.q 22 (.q 23 (.q 24 (.one 25 (.one 26 (.q 27 .done)))))))))))))))))))))))))))) (.cons (k := 0) rfl (.cons (k := 1) rfl (.cons (k := 107) rfl (.cons (k := 140) rfl .nil)))) mix (by kernel_rfl) (by kernel_rfl) ?_
        refine DL.q rfl (Yld.move rfl) rfl ?_
        refine DL.q rfl (Yld.move rfl) rfl ?_
        refine DL.q rfl (Yld.bin rfl rfl (by first | exact BinV.add (by omega) (by omega) | exact BinV.addW)) rfl ?_
        refine DL.q rfl (Yld.move rfl) rfl ?_
        refine DL.q rfl (Yld.move rfl) rfl ?_
        refine DL.q rfl (Yld.indexRow Try.underlying45 sz38 rfl rfl (by first | assumption | exact Own.sl (by assumption)) (by first | rfl | omega | (simp; done) | (simp; omega)) (by omega) (by first | omega | (simp; done) | (simp; omega))) rfl ?_
        refine DL.q rfl (by first | exact Yld.loadRow (cl := 1) Try.underlying38 rfl sz38 rfl rfl (by first | assumption | exact Own.sl (by assumption)) (by assumption) | exact Yld.loadRow (cl := 107) Try.underlying38 rfl sz38 rfl rfl (by first | assumption | exact Own.sl (by assumption)) (by assumption) | exact Yld.loadRow (cl := 140) Try.underlying38 rfl sz38 rfl rfl (by first | assumption | exact Own.sl (by assumption)) (by assumption) | exact Yld.loadRow (cl := 150) Try.underlying38 rfl sz38 rfl rfl (by first | assumption | exact Own.sl (by assumption)) (by assumption)) rfl ?_
        refine DL.q rfl (Yld.loadW (c := 107) Try.underlying40 rfl sz40 rfl rfl (by first | exact single_self _ _ | exact pset_self _ _ _ | assumption) rfl) rfl ?_
        refine DL.q rfl (Yld.move rfl) rfl ?_
        refine DL.q rfl (Yld.move rfl) rfl ?_
        refine DL.q rfl (Yld.bin rfl rfl (by first | exact BinV.sub (by omega) (by omega) | exact BinV.subW)) rfl ?_
        refine DL.q rfl (Yld.bin rfl rfl (by first | exact BinV.mul (by omega) (by omega) | exact BinV.mulW)) rfl ?_
        refine DL.q rfl (Yld.move rfl) rfl ?_
        refine DL.q rfl (Yld.bin rfl rfl (by first | exact BinV.mul (by omega) (by omega) | exact BinV.mulW)) rfl ?_
        refine DL.q rfl (Yld.bin rfl rfl (by first | exact BinV.add (by omega) (by omega) | exact BinV.addW)) rfl ?_
        refine DL.q rfl (Yld.max2 rfl rfl) rfl ?_
        refine DL.q rfl (Yld.move rfl) rfl ?_
        refine DL.q rfl (Yld.move rfl) rfl ?_
        refine DL.q rfl (Yld.bin rfl rfl (by first | exact BinV.add (by omega) (by omega) | exact BinV.addW)) rfl ?_
        refine DL.q rfl (Yld.bin rfl rfl (by first | exact BinV.mul (by omega) (by omega) | exact BinV.mulW)) rfl ?_
        refine DL.q rfl (Yld.bin rfl rfl (by first | exact BinV.add (by omega) (by omega) | exact BinV.addW)) rfl ?_
        refine DL.q rfl (Yld.move rfl) rfl ?_
        refine DL.q rfl (Yld.bin rfl rfl (by first | exact BinV.mul (by omega) (by omega) | exact BinV.mulW)) rfl ?_
        refine DL.q rfl (Yld.bin rfl rfl (by first | exact BinV.add (by omega) (by omega) | exact BinV.addW)) rfl ?_
        refine DL.q rfl (Yld.buildP lay42 (.cons rfl rfl (.cons rfl rfl (.cons rfl rfl (.cons rfl rfl (.cons rfl rfl (.cons rfl rfl .nil)))))) rfl) rfl ?_
        refine DL.one rfl (Eff.buildSlice 179 Try.underlying22 sz42 zc42 rfl rfl (.cons rfl rfl .nil) rfl) rfl (by rintro _ _ ⟨b79, rfl, rfl⟩; repeat (first | exact .nil | refine .cons rfl ?_)) ?_
        rintro _ _ ⟨b79, rfl, rfl⟩
        refine DL.one rfl (Eff.appendE (tc := 150) (sc := 179) (ms := [exO ops (wAt wd) x.i o]) O.c Try.underlying22 el42 rfl rfl rfl rfl hO rfl (Own.one (l := O.c (exO ops (wAt wd) x.i o)) rfl (O.c_one _).2 rfl).sl rfl (fun a _ => (O.c_one a).2) (by decide) (by simp; omega) (by simp [maxLen]; omega)) rfl (by rintro _ _ ⟨Ha, pa, ca, rfl, hOa, rfl⟩; repeat (first | exact .nil | refine .cons rfl ?_)) ?_
        rintro _ _ ⟨Ha, pa, ca, rfl, hOa, rfl⟩
        refine DL.q rfl (Yld.assign rfl) rfl ?_
        refine DL.done ?_
        refine N.block_normal ?_
        refine N.next ?_
        refine W.keep (.cons (k := 0) rfl (.cons (k := 1) rfl (.cons (k := 5) rfl (.cons (k := 18) rfl (.cons (k := 19) rfl (.cons (k := 20) rfl .nil)))))) (.cons (k := 0) rfl (.cons (k := 1) rfl (.cons (k := 107) rfl (.cons (k := 140) rfl (.cons (k := 150) rfl (.cons (k := 179) rfl .nil)))))) ?_
        refine W.region ?_
        refine RL.q (Yld.bin rfl rfl (by first | exact BinV.add (by omega) (by omega) | exact BinV.addW)) rfl ?_
        refine RL.q (Yld.move rfl) rfl ?_
        refine RL.nil ?_
        exact N.famK ⟨x.i + 1, Ha, pa, ca⟩ ⟨⟨by dsimp only; omega, by dsimp only; rw [hnx]; exact hOa, hK2⟩, by dsimp only; omega⟩ (.as rfl (by show Value.slice _ _ _ = Value.slice _ _ _; rw [hnx]) (.as rfl (by first | rfl | (simp; done) | (congr 1; simp; done) | (congr 1; omega)) .nil)) (.cons rfl (.cons rfl (.cons rfl (.cons rfl .nil)))) (.cons rfl .nil) (.cons rfl (.cons rfl (.cons rfl .nil)))
    ·
      have hend : x.i = (exL ops (wAt wd)).length := by simp only [exL_len]; omega
      rw [hend, List.take_length] at hO ⊢
      have hxl : (exL ops (wAt wd)).length = ops.length := by simp
      refine W.exit ?_
      refine N.then_exit ?_
      refine N.then_exit ?_
      refine N.block_eq ?_
      refine N.next ?_
      refine W.keep (.cons (k := 5) rfl .nil) (.cons (k := 0) rfl (.cons (k := 1) rfl (.cons (k := 140) rfl (.cons (k := 150) rfl .nil)))) ?_
      refine W.seq ?_
      refine W.seq ?_
      refine W.region ?_
      refine RL.q (Yld.assign rfl) rfl ?_
      refine RL.nil ?_
      refine N.next ?_
      refine W.block ?_
      refine W.loopK (ι := HI) (fun y => (1 ≤ y.i ∧ Own y.H x.p x.c 42 12 (y.s.map O.c) ∧ y.s.Perm (exL ops (wAt wd)))) (fun y => [(9, .int .i64 (y.i : Nat))]) (fun y => [(150, y.H)]) (fun y => ops.length - y.i) (.cons (k := 5) rfl .nil) (.cons (k := 0) rfl (.cons (k := 1) rfl (.cons (k := 140) rfl .nil))) ⟨1, x.H, (exL ops (wAt wd))⟩ ?_ ?_ ?_ ?_
      · exact ⟨Nat.le_refl _, hO, .refl _⟩
      · exact (.as rfl (by first | rfl | (simp; done) | (congr 1; simp; done) | (congr 1; omega)) .nil)
      · exact (.cons rfl .nil)
      rintro y ⟨hy1, hOy, hp⟩
      refine W.keep (.cons (k := 9) rfl (.cons (k := 5) rfl .nil)) (.cons (k := 150) rfl (.cons (k := 0) rfl (.cons (k := 1) rfl (.cons (k := 140) rfl .nil)))) ?_
      have hyl : y.s.length = ops.length := by rw [hp.length_eq]; simp
      refine W.seq ?_
      refine W.seq ?_
      refine W.region ?_
      refine RL.q (Yld.move rfl) rfl ?_
      refine RL.q (Yld.move rfl) rfl ?_
      refine RL.q (Yld.lenSl Try.underlying22 rfl) rfl ?_
      refine RL.q (Yld.bin rfl rfl BinV.lss) rfl ?_
      refine RL.nil ?_
      refine N.next ?_
      first | refine W.condD rfl (fun hc85 => ?_) (fun hc85 => ?_) | (refine W.cond rfl (fun hc85 => ?_) (fun hc85 => ?_) <;> try simp only [Bool.or_eq_true, Bool.and_eq_true, Bool.not_eq_true', Bool.not_eq_false', decide_eq_true_eq, Bool.or_eq_false_iff, Bool.and_eq_false_iff, decide_eq_false_iff_not, beq_iff_eq, beq_eq_false_iff_ne, ne_eq, Decidable.not_not] at hc85)
      ·
        refine W.skip ?_
        refine N.next ?_
        refine W.keep (.cons (k := 5) rfl (.cons (k := 9) rfl .nil)) (.cons (k := 0) rfl (.cons (k := 1) rfl (.cons (k := 140) rfl (.cons (k := 150) rfl .nil)))) ?_
        refine W.seq ?_
        refine W.block ?_
        refine W.seq ?_
        refine W.region ?_
        refine RL.q (Yld.move rfl) rfl ?_
        refine RL.q (Yld.assign rfl) rfl ?_
        refine RL.nil ?_
        refine N.next ?_
        refine W.block ?_
        refine W.loopK (ι := HI) (fun w => (w.i ≤ y.i ∧ Own w.H x.p x.c 42 12 (w.s.map O.c) ∧ w.s.Perm (exL ops (wAt wd)))) (fun w => [(10, .int .i64 (w.i : Nat))]) (fun w => [(150, w.H)]) (fun w => w.i) (.cons (k := 5) rfl (.cons (k := 9) rfl .nil)) (.cons (k := 0) rfl (.cons (k := 1) rfl (.cons (k := 140) rfl .nil))) ⟨y.i, y.H, y.s⟩ ?_ ?_ ?_ ?_
        · exact ⟨Nat.le_refl _, hOy, hp⟩
        · exact (.as rfl (by first | rfl | (simp; done) | (congr 1; simp; done) | (congr 1; omega)) .nil)
        · exact (.cons rfl .nil)
        rintro w ⟨hw, hOw, hpw⟩
        refine W.keep (.cons (k := 10) rfl (.cons (k := 5) rfl (.cons (k := 9) rfl .nil))) (.cons (k := 150) rfl (.cons (k := 0) rfl (.cons (k := 1) rfl (.cons (k := 140) rfl .nil)))) ?_
        have hwl : w.s.length = ops.length := by rw [hpw.length_eq]; simp
        have hwo := hOw.sl.len_le
        simp only [List.length_map, maxLen] at hwo
        obtain ⟨a, hga⟩ : ∃ a, w.s[w.i]? = some a := ⟨_, List.getElem?_eq_getElem (by omega)⟩
        obtain ⟨b, hgb0⟩ : ∃ b, w.s[((w.i : Int) - 1).toNat]? = some b := ⟨_, List.getElem?_eq_getElem (by omega)⟩
        have hla : (w.s.map O.c)[w.i]? = some a.c := by simp [hga]
        have hlb : (w.s.map O.c)[((w.i : Int) - 1).toNat]? = some b.c := by rw [List.getElem?_map, hgb0]; rfl
        refine W.seq ?_
        refine W.seq ?_
        refine W.draw (.q 0 (.q 1 (.q 2 (.q 3 (.q 4 (.q 5 (.q 6 (.q 7 (.q 8 (.q 9 (.q 10 (.q 11 (.q 12 (.q 13 (.q 14 (.q 15 .done)))))))))))))))) (.cons (k := 0) rfl (.cons (k := 1) rfl (.cons (k := 140) rfl (.cons (k := 150) rfl .nil)))) mix (by kernel_rfl) (by kernel_rfl) ?_
        refine DL.q rfl (Yld.move rfl) rfl ?_
        refine DL.q rfl (Yld.bin rfl rfl BinV.gtr) rfl ?_
        refine DL.q rfl (Yld.move rfl) rfl ?_
        refine' DL.and (t := 91) (d := 104) 13 rfl (.cons (k := 5) rfl (.cons (k := 9) rfl (.cons (k := 10) rfl (.cons (k := 89) rfl (.cons (k := 90) rfl .nil))))) (.cons (k := 0) rfl (.cons (k := 1) rfl (.cons (k := 140) rfl (.cons (k := 150) rfl .nil)))) ?_ ?_ ?_
        rotate_left 1
        ·
          intro hg91
          have hg91 := of_decide_eq_true hg91
          refine DL.gq rfl rfl rfl (Yld.move rfl) rfl ?_
          refine DL.gq rfl rfl rfl (Yld.move rfl) rfl ?_
          refine DL.gq rfl rfl rfl (Yld.indexRow Try.underlying22 sz42 rfl rfl (by first | assumption | exact Own.sl (by assumption)) (by first | rfl | omega | (simp; done) | (simp; omega)) (by omega) (by first | omega | (simp; done) | (simp; omega))) rfl ?_
          refine DL.gq rfl rfl rfl (Yld.fieldAddr fo42_5 rfl) rfl ?_
          refine DL.gq rfl rfl rfl (by first | exact Yld.loadRowF (cl := 1) (j := 10) Try.underlying3 rfl rfl rfl (by first | assumption | exact Own.sl (by assumption)) (by assumption) rfl | exact Yld.loadRowF (cl := 140) (j := 10) Try.underlying3 rfl rfl rfl (by first | assumption | exact Own.sl (by assumption)) (by assumption) rfl | exact Yld.loadRowF (cl := 150) (j := 10) Try.underlying3 rfl rfl rfl (by first | assumption | exact Own.sl (by assumption)) (by assumption) rfl) rfl ?_
          refine DL.gq rfl rfl rfl (Yld.move rfl) rfl ?_
          refine DL.gq rfl rfl rfl (Yld.move rfl) rfl ?_
          refine DL.gq rfl rfl rfl (Yld.bin rfl rfl (by first | exact BinV.sub (by omega) (by omega) | exact BinV.subW)) rfl ?_
          refine DL.gq rfl rfl rfl (Yld.indexRow Try.underlying22 sz42 rfl rfl (by first | assumption | exact Own.sl (by assumption)) (by first | rfl | omega | (simp; done) | (simp; omega)) (by omega) (by first | omega | (simp; done) | (simp; omega))) rfl ?_
          refine DL.gq rfl rfl rfl (Yld.fieldAddr fo42_5 rfl) rfl ?_
          refine DL.gq rfl rfl rfl (by first | exact Yld.loadRowF (cl := 1) (j := 10) Try.underlying3 rfl rfl rfl (by first | assumption | exact Own.sl (by assumption)) (by assumption) rfl | exact Yld.loadRowF (cl := 140) (j := 10) Try.underlying3 rfl rfl rfl (by first | assumption | exact Own.sl (by assumption)) (by assumption) rfl | exact Yld.loadRowF (cl := 150) (j := 10) Try.underlying3 rfl rfl rfl (by first | assumption | exact Own.sl (by assumption)) (by assumption) rfl) rfl ?_
          refine DL.gq rfl rfl rfl (Yld.bin rfl rfl BinV.lss) rfl ?_
          refine DL.q rfl (by first | exact Yld.pickT rfl rfl | exact Yld.pickF rfl rfl) rfl ?_
          exact DL.meet (.cons rfl (.cons rfl (.cons rfl (.cons rfl (.cons rfl (.cons rfl .nil)))))) (.cons rfl (.cons rfl (.cons rfl (.cons rfl .nil))))
        ·
          intro hg91
          refine DL.gskip rfl rfl rfl rfl rfl ?_
          refine DL.gskip rfl rfl rfl rfl rfl ?_
          refine DL.gskip rfl rfl rfl rfl rfl ?_
          refine DL.gskip rfl rfl rfl rfl rfl ?_
          refine DL.gskip rfl rfl rfl rfl rfl ?_
          refine DL.gskip rfl rfl rfl rfl rfl ?_
          refine DL.gskip rfl rfl rfl rfl rfl ?_
          refine DL.gskip rfl rfl rfl rfl rfl ?_
          refine DL.gskip rfl rfl rfl rfl rfl ?_
          refine DL.gskip rfl rfl rfl rfl rfl ?_
          refine DL.gskip rfl rfl rfl rfl rfl ?_
          refine DL.gskip rfl rfl rfl rfl rfl ?_
          refine DL.q rfl (by first | exact Yld.pickT rfl rfl | exact Yld.pickF rfl rfl) rfl ?_
          exact DL.meet (.cons rfl (.cons rfl (.cons rfl (.cons rfl (.cons rfl (.cons rfl .nil)))))) (.cons rfl (.cons rfl (.cons rfl (.cons rfl .nil))))
        refine DL.done ?_
        refine N.next ?_
        refine W.cond rfl (fun hc104 => ?_) (fun hc104 => ?_)
        ·
          have hk0 : 0 < w.i := by
            rw [Bool.and_eq_true] at hc104
            have := of_decide_eq_true hc104.1
            omega
          have hki : ((w.i : Int) - 1).toNat = w.i - 1 := by omega
          have hgb : w.s[w.i - 1]? = some b := by rw [← hki]; exact hgb0
          have hlb2 : ((w.s.map O.c).set w.i b.c)[((w.i : Int) - 1).toNat]? = some b.c := by
            rw [List.getElem?_set, if_neg (by omega)]
            exact hlb
          refine W.skip ?_
          refine N.next ?_
          refine W.seq ?_
          refine W.block ?_
          refine W.draw (.q 0 (.q 1 (.q 2 (.q 3 (.q 4 (.q 5 (.q 6 (.q 7 (.q 8 (.q 10 (.q 11 (.q 12 (.two 9 (.one 13 (.q 14 (.one 15 (.q 16 (.one 17 .done))))) 13 (.one 9 (.q 14 (.one 15 (.q 16 (.one 17 .done)))))))))))))))))) (.cons (k := 0) rfl (.cons (k := 1) rfl (.cons (k := 140) rfl .nil))) mix (by kernel_rfl) (by kernel_rfl) ?_
          refine DL.q rfl (Yld.move rfl) rfl ?_
          refine DL.q rfl (Yld.move rfl) rfl ?_
          refine DL.q rfl (Yld.move rfl) rfl ?_
          refine DL.q rfl (Yld.move rfl) rfl ?_
          refine DL.q rfl (Yld.bin rfl rfl (by first | exact BinV.sub (by omega) (by omega) | exact BinV.subW)) rfl ?_
          refine DL.q rfl (Yld.move rfl) rfl ?_
          refine DL.q rfl (Yld.move rfl) rfl ?_
          refine DL.q rfl (Yld.bin rfl rfl (by first | exact BinV.sub (by omega) (by omega) | exact BinV.subW)) rfl ?_
          refine DL.q rfl (Yld.indexRow Try.underlying22 sz42 rfl rfl (by first | assumption | exact Own.sl (by assumption)) (by first | rfl | omega | (simp; done) | (simp; omega)) (by omega) (by first | omega | (simp; done) | (simp; omega))) rfl ?_
          refine DL.q rfl (Yld.move rfl) rfl ?_
          refine DL.q rfl (Yld.move rfl) rfl ?_
          refine DL.q rfl (Yld.indexRow Try.underlying22 sz42 rfl rfl (by first | assumption | exact Own.sl (by assumption)) (by first | rfl | omega | (simp; done) | (simp; omega)) (by omega) (by first | omega | (simp; done) | (simp; omega))) rfl ?_
          refine DL.two ?_ ?_
          ·
            refine DL.one rfl (Yld.eff (by first | exact Yld.loadRow (cl := 1) Try.underlying42 rfl sz42 rfl rfl (by first | assumption | exact Own.sl (by assumption)) (by assumption) | exact Yld.loadRow (cl := 140) Try.underlying42 rfl sz42 rfl rfl (by first | assumption | exact Own.sl (by assumption)) (by assumption) | exact Yld.loadRow (cl := 150) Try.underlying42 rfl sz42 rfl rfl (by first | assumption | exact Own.sl (by assumption)) (by assumption))) rfl (by rintro _ _ ⟨rfl, rfl⟩; repeat (first | exact .nil | refine .cons rfl ?_)) ?_
            rintro _ _ ⟨rfl, rfl⟩
            refine DL.one rfl (Yld.eff (by first | exact Yld.loadRow (cl := 1) Try.underlying42 rfl sz42 rfl rfl (by first | assumption | exact Own.sl (by assumption)) (by assumption) | exact Yld.loadRow (cl := 140) Try.underlying42 rfl sz42 rfl rfl (by first | assumption | exact Own.sl (by assumption)) (by assumption) | exact Yld.loadRow (cl := 150) Try.underlying42 rfl sz42 rfl rfl (by first | assumption | exact Own.sl (by assumption)) (by assumption))) rfl (by rintro _ _ ⟨rfl, rfl⟩; repeat (first | exact .nil | refine .cons rfl ?_)) ?_
            rintro _ _ ⟨rfl, rfl⟩
            refine DL.q rfl (Yld.indexRow Try.underlying22 sz42 rfl rfl (by first | assumption | exact Own.sl (by assumption)) (by first | rfl | omega | (simp; done) | (simp; omega)) (by omega) (by first | omega | (simp; done) | (simp; omega))) rfl ?_
            refine DL.one0 rfl (Eff.storeRow (tc := 150) (j := 0) sz42 rfl rfl rfl hOw hla rfl rfl rfl rfl rfl) (by rintro _ _ ⟨Hb, hOb, rfl⟩; repeat (first | exact .nil | refine .cons rfl ?_)) ?_
            rintro _ _ ⟨Hb, hOb, rfl⟩
            refine DL.q rfl (Yld.indexRow Try.underlying22 sz42 rfl rfl (by first | assumption | exact Own.sl (by assumption)) (by first | rfl | omega | (simp; done) | (simp; omega)) (by omega) (by first | omega | (simp; done) | (simp; omega))) rfl ?_
            refine DL.one0 rfl (Eff.storeRow (tc := 150) (j := 0) sz42 rfl rfl rfl hOb hlb2 rfl rfl rfl rfl rfl) (by rintro _ _ ⟨Hc, hOc, rfl⟩; repeat (first | exact .nil | refine .cons rfl ?_)) ?_
            rintro _ _ ⟨Hc, hOc, rfl⟩
            refine DL.done ?_
            refine N.block_normal ?_
            refine N.next ?_
            refine W.keep (.cons (k := 5) rfl (.cons (k := 9) rfl (.cons (k := 10) rfl .nil))) (.cons (k := 0) rfl (.cons (k := 1) rfl (.cons (k := 140) rfl (.cons (k := 150) rfl .nil)))) ?_
            refine W.region ?_
            refine RL.q (Yld.move rfl) rfl ?_
            refine RL.q (Yld.bin rfl rfl (by first | exact BinV.sub (by omega) (by omega) | exact BinV.subW)) rfl ?_
            refine RL.q (Yld.assign rfl) rfl ?_
            refine RL.nil ?_
            exact N.famK ⟨w.i - 1, Hc, (w.s.set w.i b).set (w.i - 1) a⟩ ⟨⟨by dsimp only; omega, by dsimp only; rw [List.map_set, List.map_set]; rw [hki] at hOc; exact hOc, (swapO hga hgb).trans hpw⟩, by dsimp only; omega⟩ (.as rfl (by show Value.int .i64 _ = Value.int .i64 _; congr 1; dsimp only; omega) .nil) (.cons rfl (.cons rfl .nil)) (.cons rfl .nil) (.cons rfl (.cons rfl (.cons rfl .nil)))
          ·
            refine DL.one rfl (Yld.eff (by first | exact Yld.loadRow (cl := 1) Try.underlying42 rfl sz42 rfl rfl (by first | assumption | exact Own.sl (by assumption)) (by assumption) | exact Yld.loadRow (cl := 140) Try.underlying42 rfl sz42 rfl rfl (by first | assumption | exact Own.sl (by assumption)) (by assumption) | exact Yld.loadRow (cl := 150) Try.underlying42 rfl sz42 rfl rfl (by first | assumption | exact Own.sl (by assumption)) (by assumption))) rfl (by rintro _ _ ⟨rfl, rfl⟩; repeat (first | exact .nil | refine .cons rfl ?_)) ?_
            rintro _ _ ⟨rfl, rfl⟩
            refine DL.one rfl (Yld.eff (by first | exact Yld.loadRow (cl := 1) Try.underlying42 rfl sz42 rfl rfl (by first | assumption | exact Own.sl (by assumption)) (by assumption) | exact Yld.loadRow (cl := 140) Try.underlying42 rfl sz42 rfl rfl (by first | assumption | exact Own.sl (by assumption)) (by assumption) | exact Yld.loadRow (cl := 150) Try.underlying42 rfl sz42 rfl rfl (by first | assumption | exact Own.sl (by assumption)) (by assumption))) rfl (by rintro _ _ ⟨rfl, rfl⟩; repeat (first | exact .nil | refine .cons rfl ?_)) ?_
            rintro _ _ ⟨rfl, rfl⟩
            refine DL.q rfl (Yld.indexRow Try.underlying22 sz42 rfl rfl (by first | assumption | exact Own.sl (by assumption)) (by first | rfl | omega | (simp; done) | (simp; omega)) (by omega) (by first | omega | (simp; done) | (simp; omega))) rfl ?_
            refine DL.one0 rfl (Eff.storeRow (tc := 150) (j := 0) sz42 rfl rfl rfl hOw hla rfl rfl rfl rfl rfl) (by rintro _ _ ⟨Hb, hOb, rfl⟩; repeat (first | exact .nil | refine .cons rfl ?_)) ?_
            rintro _ _ ⟨Hb, hOb, rfl⟩
            refine DL.q rfl (Yld.indexRow Try.underlying22 sz42 rfl rfl (by first | assumption | exact Own.sl (by assumption)) (by first | rfl | omega | (simp; done) | (simp; omega)) (by omega) (by first | omega | (simp; done) | (simp; omega))) rfl ?_
            refine DL.one0 rfl (Eff.storeRow (tc := 150) (j := 0) sz42 rfl rfl rfl hOb hlb2 rfl rfl rfl rfl rfl) (by rintro _ _ ⟨Hc, hOc, rfl⟩; repeat (first | exact .nil | refine .cons rfl ?_)) ?_
            rintro _ _ ⟨Hc, hOc, rfl⟩
            refine DL.done ?_
            refine N.block_normal ?_
            refine N.next ?_
            refine W.keep (.cons (k := 5) rfl (.cons (k := 9) rfl (.cons (k := 10) rfl .nil))) (.cons (k := 0) rfl (.cons (k := 1) rfl (.cons (k := 140) rfl (.cons (k := 150) rfl .nil)))) ?_
            refine W.region ?_
            refine RL.q (Yld.move rfl) rfl ?_
            refine RL.q (Yld.bin rfl rfl (by first | exact BinV.sub (by omega) (by omega) | exact BinV.subW)) rfl ?_
            refine RL.q (Yld.assign rfl) rfl ?_
            refine RL.nil ?_
            exact N.famK ⟨w.i - 1, Hc, (w.s.set w.i b).set (w.i - 1) a⟩ ⟨⟨by dsimp only; omega, by dsimp only; rw [List.map_set, List.map_set]; rw [hki] at hOc; exact hOc, (swapO hga hgb).trans hpw⟩, by dsimp only; omega⟩ (.as rfl (by show Value.int .i64 _ = Value.int .i64 _; congr 1; dsimp only; omega) .nil) (.cons rfl (.cons rfl .nil)) (.cons rfl .nil) (.cons rfl (.cons rfl (.cons rfl .nil)))
        ·
          refine W.exit ?_
          refine N.then_exit ?_
          refine N.then_exit ?_
          refine N.block_eq ?_
          refine N.block_normal ?_
          refine N.next ?_
          refine W.keep (.cons (k := 5) rfl (.cons (k := 9) rfl .nil)) (.cons (k := 0) rfl (.cons (k := 1) rfl (.cons (k := 140) rfl (.cons (k := 150) rfl .nil)))) ?_
          refine W.region ?_
          refine RL.q (Yld.move rfl) rfl ?_
          refine RL.q (Yld.bin rfl rfl (by first | exact BinV.add (by omega) (by omega) | exact BinV.addW)) rfl ?_
          refine RL.q (Yld.assign rfl) rfl ?_
          refine RL.nil ?_
          exact N.famK ⟨y.i + 1, w.H, w.s⟩ ⟨⟨by dsimp only; omega, hOw, hpw⟩, by dsimp only; omega⟩ (.as rfl (by first | rfl | (simp; done) | (congr 1; simp; done) | (congr 1; omega)) .nil) (.cons rfl .nil) (.cons rfl .nil) (.cons rfl (.cons rfl (.cons rfl .nil)))
      ·
        rw [show (exL ops (wAt wd)).length = (y.s.map O.c).length by simp [hyl]]
        refine W.exit ?_
        refine N.then_exit ?_
        refine N.then_exit ?_
        refine N.block_eq ?_
        refine N.next ?_
        refine W.keep (.cons (k := 5) rfl .nil) (.cons (k := 0) rfl (.cons (k := 1) rfl (.cons (k := 140) rfl (.cons (k := 150) rfl .nil)))) ?_
        refine W.seq ?_
        refine W.seq ?_
        refine W.region ?_
        refine RL.q (Yld.move rfl) rfl ?_
        refine RL.e (Eff.call ent19 [150] [150] (.cons rfl .nil) (rvalidB_ct y.s y.H x.p x.c hOy.sl) rfl rfl rfl rfl (by rintro _ _ ⟨_, rfl⟩; rfl)) rfl ?_
        rintro _ _ ⟨_, ⟨rfl, rfl⟩, rfl⟩
        refine RL.q (by first | exact Yld.notD rfl | exact Yld.not rfl) rfl ?_
        refine RL.nil ?_
        refine N.next ?_
        refine W.cond rfl (fun hc125 => ?_) (fun hc125 => ?_)
        ·
          refine W.seq ?_
          refine W.region ?_
          refine RL.e (Eff.call ent9 [] [] .nil awake57_ct rfl rfl rfl rfl (by rintro _ _ ⟨_, rfl⟩; rfl)) rfl ?_
          rintro _ _ ⟨_, ⟨rfl, rfl⟩, rfl⟩
          refine RL.q (Yld.assign rfl) rfl ?_
          refine RL.nil ?_
          refine N.next ?_
          refine W.keep (.cons (k := 4) rfl .nil) (.cons (k := 0) rfl (.cons (k := 1) rfl (.cons (k := 140) rfl (.cons (k := 150) rfl .nil)))) ?_
          refine W.ret ?_
          refine N.then_ret ?_
          exact N.retBy [1] (.cons (.tmp rfl) .nil) rfl rfl rfl rfl ⟨rfl, rfl⟩
        ·
          have hv : Valid y.s := validB_iff.1 (by simpa using hc125)
          have hal : AllLive y.s := ex_all (fun i => (wAt_rng wd i).1) hp hv fun a ha b hb => by
            obtain ⟨i, hi2⟩ := List.getElem?_of_mem ha
            obtain ⟨j, hj2⟩ := List.getElem?_of_mem hb
            obtain ⟨z0, hz0⟩ : ∃ z0, ops[0]? = some z0 := ⟨_, List.getElem?_eq_getElem (by have := (List.getElem?_eq_some_iff.1 hi2).1; omega)⟩
            rw [hK i a z0 (by have := (List.getElem?_eq_some_iff.1 hi2).1; omega) hi2 hz0, hK j b z0 (by have := (List.getElem?_eq_some_iff.1 hj2).1; omega) hj2 hz0]
          refine W.skip ?_
          refine N.next ?_
          refine W.seq ?_
          refine W.region ?_
          refine RL.q (Yld.move rfl) rfl ?_
          refine RL.e (Eff.call ent10 [150] [150, 180] (.cons rfl .nil) (check_ct y.s (by rw [hyl]; omega) _ _ _ hOy.sl) rfl rfl rfl rfl (by rintro _ _ ⟨_, _, _, _, _, _, _, rfl⟩; rfl)) rfl ?_
          rintro _ _ ⟨_, ⟨q1, n1, c1, e1, H3, rfl, hC1, rfl⟩, rfl⟩
          obtain ⟨rfl, out, rfl, hOo, hver⟩ := hC1.2.1 hv hal
          refine RL.q (Yld.move rfl) rfl ?_
          refine RL.q (Yld.extract rfl rfl) rfl ?_
          refine RL.q (Yld.extract rfl rfl) rfl ?_
          refine RL.q (Yld.assign rfl) rfl ?_
          refine RL.q (Yld.assign rfl) rfl ?_
          refine RL.nil ?_
          refine N.next ?_
          refine W.keep (.cons (k := 5) rfl (.cons (k := 11) rfl (.cons (k := 12) rfl .nil))) (.cons (k := 0) rfl (.cons (k := 1) rfl (.cons (k := 140) rfl (.cons (k := 150) rfl (.cons (k := 180) rfl .nil))))) ?_
          refine W.seq ?_
          refine W.region ?_
          refine RL.q (Yld.move rfl) rfl ?_
          refine RL.q (Yld.bin rfl rfl BinV.eql) rfl ?_
          refine RL.q (Yld.move rfl) rfl ?_
          first | refine RL.as (t := 134) rfl (boolT (by first | assumption | omega | (simp; done))) ?_ | refine RL.as (t := 134) (v := .bool true) rfl rfl ?_
          refine RL.gq rfl rfl (Yld.move rfl) rfl ?_
          refine RL.gq rfl rfl (Yld.move rfl) rfl ?_
          refine RL.ge rfl rfl (Eff.call ent18 [150, 180] [150, 180] (.cons rfl (.cons rfl .nil)) (verifyT_ct y.s (by omega) y.H x.p x.c hOy.sl (zsN out) _ _ _ hOo.sl hver) rfl rfl rfl rfl (by rintro _ _ ⟨_, rfl⟩; rfl)) rfl ?_
          rintro _ _ ⟨_, ⟨rfl, rfl⟩, rfl⟩
          refine RL.q (by first | exact Yld.pickT rfl rfl | exact Yld.pickF rfl rfl) rfl ?_
          refine RL.q (Yld.move rfl) rfl ?_
          first | refine RL.as (t := 139) rfl (boolT (by first | assumption | omega | (simp; done))) ?_ | refine RL.as (t := 139) (v := .bool true) rfl rfl ?_
          refine RL.ge rfl rfl (Eff.call ent9 [] [] .nil awake57_ct rfl rfl rfl rfl (by rintro _ _ ⟨_, rfl⟩; rfl)) rfl ?_
          rintro _ _ ⟨_, ⟨rfl, rfl⟩, rfl⟩
          refine RL.q (by first | exact Yld.pickT rfl rfl | exact Yld.pickF rfl rfl) rfl ?_
          refine RL.q (Yld.assign rfl) rfl ?_
          refine RL.nil ?_
          refine N.next ?_
          refine W.keep (.cons (k := 4) rfl .nil) (.cons (k := 0) rfl (.cons (k := 1) rfl (.cons (k := 140) rfl (.cons (k := 150) rfl (.cons (k := 180) rfl .nil))))) ?_
          refine W.ret ?_
          exact N.retBy [1] (.cons (.tmp rfl) .nil) rfl rfl rfl rfl ⟨rfl, rfl⟩

end Go.Proofs.Ytbgppnkccbhbpaa
