/- The reference's Verify. Written by program (walk.py). -/
import Derived.Test.YtbgppnkccbhbpaaL10
namespace Go.Proofs.Ytbgppnkccbhbpaa
open SL HistLaw Cfg
set_option linter.unusedVariables false
set_option linter.unusedSimpArgs false

structure HistLaw.V3 where
  n : Nat
  u : Nat
  H : PH

set_option maxRecDepth 100000 in
set_option maxHeartbeats 6400000 in
theorem rverify_ct (l : List O) (hl60 : l.length ≤ 60) (H1 : PH) (p : Option Addr) (c : Nat) (hS : Sl H1 p c 12 (l.map O.c)) (ord : List Int) (H2 : PH) (q : Option Addr) (d : Nat) (hQ : Sl H2 q d 1 (iz ord)) : Ct Try.prog 12 [.slice p (l.map O.c).length c, .slice q ord.length d] [H1, H2] (fun v Hs => v = .bool (verB l ord) ∧ Hs = [H1, H2]) := by
  refine Ct.body Try.func12 rfl Try.ntmps12 rfl ?_
  intro E F
  have hmax := hS.len_le
  simp only [maxLen] at hmax
  have hll : (l.map O.c).length = l.length := by simp
  have hmq := hQ.len_le
  simp only [iz_len, maxLen] at hmq
  refine W.seq ?_
  refine W.region ?_
  refine RL.q (Yld.assign rfl) rfl ?_
  refine RL.nil ?_
  refine N.next ?_
  refine W.seq ?_
  refine W.seq ?_
  refine W.region ?_
  refine RL.q (Yld.move rfl) rfl ?_
  refine RL.e (Eff.call ent19 [1] [1] (.cons rfl .nil) (rvalidB_ct l H1 p c hS) rfl rfl rfl rfl (by rintro _ _ ⟨_, rfl⟩; rfl)) rfl ?_
  rintro _ _ ⟨_, ⟨rfl, rfl⟩, rfl⟩
  refine RL.q (by first | exact Yld.notD rfl | exact Yld.not rfl) rfl ?_
  refine RL.nil ?_
  refine N.next ?_
  refine W.cond rfl (fun hc19 => ?_) (fun hc19 => ?_)
  ·
    have hnv : ¬ VerOK l ord := fun h => by rw [validB_iff.2 h.val] at hc19; cases hc19
    refine W.seq ?_
    refine W.region ?_
    refine RL.q (Yld.assign rfl) rfl ?_
    refine RL.nil ?_
    refine N.next ?_
    refine W.keep (.cons (k := 4) rfl .nil) (.cons (k := 0) rfl (.cons (k := 1) rfl (.cons (k := 2) rfl .nil))) ?_
    refine W.ret ?_
    refine N.then_ret ?_
    exact N.retBy [1, 2] (.cons (.tmp rfl) .nil) rfl rfl rfl rfl ⟨by rw [verB_not hnv]; rfl, rfl⟩
  ·
    have hv : Valid l := validB_iff.1 (by simpa using hc19)
    have hkl := keysO_len l
    refine W.skip ?_
    refine N.next ?_
    refine W.keep (.cons (k := 0) rfl (.cons (k := 1) rfl .nil)) (.cons (k := 0) rfl (.cons (k := 1) rfl (.cons (k := 2) rfl .nil))) ?_
    refine W.seq ?_
    refine W.region ?_
    refine RL.q (Yld.move rfl) rfl ?_
    refine RL.q (Yld.lenSl Try.underlying22 rfl) rfl ?_
    refine RL.e (Eff.makeSl 122 Try.underlying57 el4 zc4 rfl rfl rfl (by omega) (by omega)) rfl ?_
    rintro _ _ ⟨H22, p22, rfl, hO22, rfl⟩
    refine RL.q (Yld.assign rfl) rfl ?_
    refine RL.nil ?_
    refine N.next ?_
    refine W.seq ?_
    refine W.seq ?_
    refine W.region ?_
    refine RL.q (Yld.assign rfl) rfl ?_
    refine RL.nil ?_
    refine N.next ?_
    refine W.block ?_
    refine W.loopK (ι := V3) (fun x => (x.n ≤ ord.length ∧ Vp l ord x.n ∧ (∀ k : Nat, x.u.testBit k = true ↔ (k : Int) ∈ ord.take x.n) ∧ Own x.H p22 (l.map O.c).length 4 1 (us (l.map O.c).length x.u))) (fun x => [(6, .int .i64 (x.n : Nat))]) (fun x => [(122, x.H)]) (fun x => ord.length - x.n) (.cons (k := 0) rfl (.cons (k := 1) rfl (.cons (k := 5) rfl .nil))) (.cons (k := 0) rfl (.cons (k := 1) rfl (.cons (k := 2) rfl .nil))) ⟨0, 0, H22⟩ ?_ ?_ ?_ ?_
    · exact ⟨Nat.zero_le _, Vp.zero l ord, (fun k => by simp), by rw [us_zero]; exact hO22⟩
    · exact (.as rfl (by first | rfl | (simp; done) | (congr 1; simp; done) | (congr 1; omega)) .nil)
    · exact (.cons rfl .nil)
    rintro x ⟨hn, hV, hU, hOu⟩
    refine W.keep (.cons (k := 6) rfl (.cons (k := 0) rfl (.cons (k := 1) rfl (.cons (k := 5) rfl .nil)))) (.cons (k := 122) rfl (.cons (k := 0) rfl (.cons (k := 1) rfl (.cons (k := 2) rfl .nil)))) ?_
    refine W.seq ?_
    refine W.seq ?_
    refine W.region ?_
    refine RL.q (Yld.move rfl) rfl ?_
    refine RL.q (Yld.move rfl) rfl ?_
    refine RL.q (Yld.lenSl Try.underlying25 rfl) rfl ?_
    refine RL.q (Yld.bin rfl rfl BinV.lss) rfl ?_
    refine RL.nil ?_
    refine N.next ?_
    first | refine W.condD rfl (fun hc26 => ?_) (fun hc26 => ?_) | (refine W.cond rfl (fun hc26 => ?_) (fun hc26 => ?_) <;> try simp only [Bool.or_eq_true, Bool.and_eq_true, Bool.not_eq_true', Bool.not_eq_false', decide_eq_true_eq, Bool.or_eq_false_iff, Bool.and_eq_false_iff, decide_eq_false_iff_not, beq_iff_eq, beq_eq_false_iff_ne, ne_eq, Decidable.not_not] at hc26)
    ·
      obtain ⟨z, hz, hlz⟩ := iz_at (show x.n < ord.length by omega)
      have hol := hOu.sl.len_le
      simp only [us_len, maxLen] at hol
      refine W.skip ?_
      refine N.next ?_
      refine W.keep (.cons (k := 0) rfl (.cons (k := 1) rfl (.cons (k := 5) rfl (.cons (k := 6) rfl .nil)))) (.cons (k := 0) rfl (.cons (k := 1) rfl (.cons (k := 2) rfl (.cons (k := 122) rfl .nil)))) ?_
      refine W.seq ?_
      refine W.block ?_
      refine W.seq ?_
      refine W.region ?_
      refine RL.q (Yld.move rfl) rfl ?_
      refine RL.q (Yld.move rfl) rfl ?_
      refine RL.q (Yld.indexRow Try.underlying25 sz3 rfl rfl (by first | assumption | exact Own.sl (by assumption)) (by first | rfl | omega | (simp; done) | (simp; omega)) (by omega) (by first | omega | (simp; done) | (simp; omega))) rfl ?_
      refine RL.q (by first | exact (by first | exact Yld.loadRow1 (cl := 1) Try.underlying3 rfl rfl rfl (by first | assumption | exact Own.sl (by assumption)) (by assumption) | exact Yld.loadRow1 (cl := 2) Try.underlying3 rfl rfl rfl (by first | assumption | exact Own.sl (by assumption)) (by assumption) | exact Yld.loadRow1 (cl := 122) Try.underlying3 rfl rfl rfl (by first | assumption | exact Own.sl (by assumption)) (by assumption)) | exact (by first | exact Yld.loadRowF (cl := 1) (j := 0) Try.underlying3 rfl rfl rfl (by first | assumption | exact Own.sl (by assumption)) (by assumption) rfl | exact Yld.loadRowF (cl := 2) (j := 0) Try.underlying3 rfl rfl rfl (by first | assumption | exact Own.sl (by assumption)) (by assumption) rfl | exact Yld.loadRowF (cl := 122) (j := 0) Try.underlying3 rfl rfl rfl (by first | assumption | exact Own.sl (by assumption)) (by assumption) rfl)) rfl ?_
      refine RL.q (Yld.assign rfl) rfl ?_
      refine RL.nil ?_
      refine N.next ?_
      refine W.keep (.cons (k := 0) rfl (.cons (k := 1) rfl (.cons (k := 5) rfl (.cons (k := 6) rfl (.cons (k := 7) rfl .nil))))) (.cons (k := 0) rfl (.cons (k := 1) rfl (.cons (k := 2) rfl (.cons (k := 122) rfl .nil)))) ?_
      refine W.seq ?_
      refine W.seq ?_
      refine W.region ?_
      refine RL.q (Yld.move rfl) rfl ?_
      refine RL.q (Yld.bin rfl rfl BinV.lss) rfl ?_
      refine RL.q (Yld.move rfl) rfl ?_
      refine' RL.or (t := 35) (d := 40) 5 rfl (.cons (k := 0) rfl (.cons (k := 1) rfl (.cons (k := 5) rfl (.cons (k := 6) rfl (.cons (k := 7) rfl (.cons (k := 33) rfl (.cons (k := 34) rfl .nil))))))) (.cons (k := 0) rfl (.cons (k := 1) rfl (.cons (k := 2) rfl (.cons (k := 122) rfl .nil)))) ?_ ?_ ?_
      rotate_left 1
      ·
        intro hg35
        refine RL.gq rfl rfl (Yld.move rfl) rfl ?_
        refine RL.gq rfl rfl (Yld.move rfl) rfl ?_
        refine RL.gq rfl rfl (Yld.lenSl Try.underlying22 rfl) rfl ?_
        refine RL.gq rfl rfl (Yld.bin rfl rfl BinV.geq) rfl ?_
        refine RL.q (by first | exact Yld.pickT rfl rfl | exact Yld.pickF rfl rfl) rfl ?_
        exact RL.nil (N.meet (.cons rfl (.cons rfl (.cons rfl (.cons rfl (.cons rfl (.cons rfl (.cons rfl (.cons rfl .nil)))))))) (.cons rfl (.cons rfl (.cons rfl (.cons rfl .nil)))))
      ·
        intro hg35
        refine RL.gskip rfl rfl rfl rfl ?_
        refine RL.gskip rfl rfl rfl rfl ?_
        refine RL.gskip rfl rfl rfl rfl ?_
        refine RL.gskip rfl rfl rfl rfl ?_
        refine RL.q (by first | exact Yld.pickT rfl rfl | exact Yld.pickF rfl rfl) rfl ?_
        exact RL.nil (N.meet (.cons rfl (.cons rfl (.cons rfl (.cons rfl (.cons rfl (.cons rfl (.cons rfl (.cons rfl .nil)))))))) (.cons rfl (.cons rfl (.cons rfl (.cons rfl .nil)))))
      refine RL.q (Yld.move rfl) rfl ?_
      refine' RL.or (t := 41) (d := 46) 5 rfl (.cons (k := 0) rfl (.cons (k := 1) rfl (.cons (k := 5) rfl (.cons (k := 6) rfl (.cons (k := 7) rfl (.cons (k := 33) rfl (.cons (k := 34) rfl (.cons (k := 40) rfl .nil)))))))) (.cons (k := 0) rfl (.cons (k := 1) rfl (.cons (k := 2) rfl (.cons (k := 122) rfl .nil)))) ?_ ?_ ?_
      rotate_left 1
      ·
        intro hg41
        have hg41b : 0 ≤ z ∧ z < l.length := by
          simp only [Bool.or_eq_false_iff, decide_eq_false_iff_not] at hg41
          omega
        have hlu := us_get (t := x.u) (show z.toNat < (l.map O.c).length by omega)
        refine RL.gq rfl rfl (Yld.move rfl) rfl ?_
        refine RL.gq rfl rfl (Yld.move rfl) rfl ?_
        refine RL.gq rfl rfl (Yld.indexRow Try.underlying57 sz4 rfl rfl (by first | assumption | exact Own.sl (by assumption)) (by first | rfl | omega | (simp; done) | (simp; omega)) (by omega) (by first | omega | (simp; done) | (simp; omega))) rfl ?_
        refine RL.gq rfl rfl (by first | exact (by first | exact Yld.loadRow1 (cl := 1) Try.underlying4 rfl rfl rfl (by first | assumption | exact Own.sl (by assumption)) (by assumption) | exact Yld.loadRow1 (cl := 2) Try.underlying4 rfl rfl rfl (by first | assumption | exact Own.sl (by assumption)) (by assumption) | exact Yld.loadRow1 (cl := 122) Try.underlying4 rfl rfl rfl (by first | assumption | exact Own.sl (by assumption)) (by assumption)) | exact (by first | exact Yld.loadRowF (cl := 1) (j := 0) Try.underlying4 rfl rfl rfl (by first | assumption | exact Own.sl (by assumption)) (by assumption) rfl | exact Yld.loadRowF (cl := 2) (j := 0) Try.underlying4 rfl rfl rfl (by first | assumption | exact Own.sl (by assumption)) (by assumption) rfl | exact Yld.loadRowF (cl := 122) (j := 0) Try.underlying4 rfl rfl rfl (by first | assumption | exact Own.sl (by assumption)) (by assumption) rfl)) rfl ?_
        refine RL.q (by first | exact Yld.pickT rfl rfl | exact Yld.pickF rfl rfl) rfl ?_
        exact RL.nil (N.meet (.cons rfl (.cons rfl (.cons rfl (.cons rfl (.cons rfl (.cons rfl (.cons rfl (.cons rfl (.cons rfl .nil))))))))) (.cons rfl (.cons rfl (.cons rfl (.cons rfl .nil)))))
      ·
        intro hg41
        refine RL.gskip rfl rfl rfl rfl ?_
        refine RL.gskip rfl rfl rfl rfl ?_
        refine RL.gskip rfl rfl rfl rfl ?_
        refine RL.gskip rfl rfl rfl rfl ?_
        refine RL.q (by first | exact Yld.pickT rfl rfl | exact Yld.pickF rfl rfl) rfl ?_
        exact RL.nil (N.meet (.cons rfl (.cons rfl (.cons rfl (.cons rfl (.cons rfl (.cons rfl (.cons rfl (.cons rfl (.cons rfl .nil))))))))) (.cons rfl (.cons rfl (.cons rfl (.cons rfl .nil)))))
      refine RL.nil ?_
      refine N.next ?_
      refine W.cond rfl (fun hc46 => ?_) (fun hc46 => ?_)
      ·
        have hnv : ¬ VerOK l ord := fun h => by
          have h1 := h.vp (x.n + 1)
          have h2 := h1.fresh hz
          have h3 := (h1.last hz).1
          simp only [Bool.or_eq_true, decide_eq_true_eq] at hc46
          rcases hc46 with (h4 | h4) | h4
          · omega
          · omega
          · have h5 := (hU z.toNat).1 h4
            rw [Int.toNat_of_nonneg h3.1] at h5
            exact h2 h5
        refine W.seq ?_
        refine W.region ?_
        refine RL.q (Yld.assign rfl) rfl ?_
        refine RL.nil ?_
        refine N.next ?_
        refine W.keep (.cons (k := 4) rfl .nil) (.cons (k := 0) rfl (.cons (k := 1) rfl (.cons (k := 2) rfl (.cons (k := 122) rfl .nil)))) ?_
        refine W.ret ?_
        refine N.then_ret ?_
        refine N.block_ret ?_
        refine N.then_ret ?_
        refine N.then_ret ?_
        refine N.block_ret ?_
        refine N.then_ret ?_
        exact N.retBy [1, 2] (.cons (.tmp rfl) .nil) rfl rfl rfl rfl ⟨by rw [verB_not hnv]; rfl, rfl⟩
      ·
        simp only [Bool.or_eq_false_iff, decide_eq_false_iff_not] at hc46
        obtain ⟨⟨hr0, hr1⟩, hnu⟩ := hc46
        have hr : 0 ≤ z ∧ z < l.length := ⟨by omega, by omega⟩
        have hnt : z ∉ ord.take x.n := fun h => by
          have h5 := (hU z.toNat).2 (by rw [Int.toNat_of_nonneg hr.1]; exact h)
          rw [hnu] at h5; cases h5
        obtain ⟨o, ho⟩ : ∃ o, l[z.toNat]? = some o := ⟨_, List.getElem?_eq_getElem (by omega)⟩
        have hlo : (l.map O.c)[z.toNat]? = some o.c := by rw [List.getElem?_map, ho]; rfl
        have hlu := us_get (t := x.u) (show z.toNat < (l.map O.c).length by omega)
        refine W.skip ?_
        refine N.next ?_
        refine W.keep (.cons (k := 0) rfl (.cons (k := 1) rfl (.cons (k := 5) rfl (.cons (k := 6) rfl (.cons (k := 7) rfl .nil))))) (.cons (k := 0) rfl (.cons (k := 1) rfl (.cons (k := 2) rfl (.cons (k := 122) rfl .nil)))) ?_
        refine W.seq ?_
        refine W.region ?_
        refine RL.q (Yld.move rfl) rfl ?_
        refine RL.q (Yld.move rfl) rfl ?_
        refine RL.q (Yld.indexRow Try.underlying57 sz4 rfl rfl (by first | assumption | exact Own.sl (by assumption)) (by first | rfl | omega | (simp; done) | (simp; omega)) (by omega) (by first | omega | (simp; done) | (simp; omega))) rfl ?_
        refine RL.e0 (Eff.storeRow (tc := 122) (j := 0) sz4 rfl rfl rfl hOu hlu rfl rfl rfl rfl rfl) ?_
        rintro _ _ ⟨Hw, hOw, rfl⟩
        refine RL.nil ?_
        refine N.next ?_
        refine W.seq ?_
        refine W.region ?_
        refine RL.q (Yld.assign rfl) rfl ?_
        refine RL.nil ?_
        refine N.next ?_
        refine W.block ?_
        refine W.loopK (ι := Nat) (fun j => (j ≤ x.n ∧ ∀ (j2 : Nat) y, j2 < j → ord[j2]? = some y → NoPr l y z)) (fun j => [(8, .int .i64 (j : Nat))]) (fun j => []) (fun j => x.n - j) (.cons (k := 0) rfl (.cons (k := 1) rfl (.cons (k := 5) rfl (.cons (k := 6) rfl (.cons (k := 7) rfl .nil))))) (.cons (k := 0) rfl (.cons (k := 1) rfl (.cons (k := 2) rfl (.cons (k := 122) rfl .nil)))) 0 ?_ ?_ ?_ ?_
        · exact ⟨Nat.zero_le _, fun _ _ h => absurd h (Nat.not_lt_zero _)⟩
        · exact (.as rfl (by first | rfl | (simp; done) | (congr 1; simp; done) | (congr 1; omega)) .nil)
        · exact .nil
        rintro j ⟨hj, hI⟩
        refine W.keep (.cons (k := 8) rfl (.cons (k := 0) rfl (.cons (k := 1) rfl (.cons (k := 5) rfl (.cons (k := 6) rfl (.cons (k := 7) rfl .nil)))))) (.cons (k := 0) rfl (.cons (k := 1) rfl (.cons (k := 2) rfl (.cons (k := 122) rfl .nil)))) ?_
        refine W.seq ?_
        refine W.seq ?_
        refine W.region ?_
        refine RL.q (Yld.move rfl) rfl ?_
        refine RL.q (Yld.move rfl) rfl ?_
        refine RL.q (Yld.bin rfl rfl BinV.lss) rfl ?_
        refine RL.nil ?_
        refine N.next ?_
        first | refine W.condD rfl (fun hc52 => ?_) (fun hc52 => ?_) | (refine W.cond rfl (fun hc52 => ?_) (fun hc52 => ?_) <;> try simp only [Bool.or_eq_true, Bool.and_eq_true, Bool.not_eq_true', Bool.not_eq_false', decide_eq_true_eq, Bool.or_eq_false_iff, Bool.and_eq_false_iff, decide_eq_false_iff_not, beq_iff_eq, beq_eq_false_iff_ne, ne_eq, Decidable.not_not] at hc52)
        ·
          obtain ⟨y, hy, hly⟩ := iz_at (show j < ord.length by omega)
          have hym : y ∈ ord.take x.n := List.mem_of_getElem? (i := j) (by rw [List.getElem?_take, if_pos (by omega)]; exact hy)
          obtain ⟨hy0, hy1⟩ := hV.rng y hym
          obtain ⟨w, hw⟩ : ∃ w, l[y.toNat]? = some w := ⟨_, List.getElem?_eq_getElem (by omega)⟩
          have hlw : (l.map O.c)[y.toNat]? = some w.c := by rw [List.getElem?_map, hw]; rfl
          refine W.skip ?_
          refine N.next ?_
          refine W.seq ?_
          refine W.block ?_
          refine W.seq ?_
          refine W.draw (.q 0 (.q 1 (.q 2 (.q 3 (.q 4 (.q 5 (.q 6 (.q 7 (.q 8 (.q 9 (.q 10 (.one 11 .done)))))))))))) (.cons (k := 0) rfl (.cons (k := 1) rfl (.cons (k := 2) rfl (.cons (k := 122) rfl .nil)))) mix (by kernel_rfl) (by kernel_rfl) ?_
          refine DL.q rfl (Yld.move rfl) rfl ?_
          refine DL.q rfl (Yld.move rfl) rfl ?_
          refine DL.q rfl (Yld.indexRow Try.underlying22 sz42 rfl rfl (by first | assumption | exact Own.sl (by assumption)) (by first | rfl | omega | (simp; done) | (simp; omega)) (by omega) (by first | omega | (simp; done) | (simp; omega))) rfl ?_
          refine DL.q rfl (by first | exact Yld.loadRow (cl := 1) Try.underlying42 rfl sz42 rfl rfl (by first | assumption | exact Own.sl (by assumption)) (by assumption) | exact Yld.loadRow (cl := 2) Try.underlying42 rfl sz42 rfl rfl (by first | assumption | exact Own.sl (by assumption)) (by assumption) | exact Yld.loadRow (cl := 122) Try.underlying42 rfl sz42 rfl rfl (by first | assumption | exact Own.sl (by assumption)) (by assumption)) rfl ?_
          refine DL.q rfl (Yld.move rfl) rfl ?_
          refine DL.q rfl (Yld.move rfl) rfl ?_
          refine DL.q rfl (Yld.move rfl) rfl ?_
          refine DL.q rfl (Yld.indexRow Try.underlying25 sz3 rfl rfl (by first | assumption | exact Own.sl (by assumption)) (by first | rfl | omega | (simp; done) | (simp; omega)) (by omega) (by first | omega | (simp; done) | (simp; omega))) rfl ?_
          refine DL.q rfl (by first | exact (by first | exact Yld.loadRow1 (cl := 1) Try.underlying3 rfl rfl rfl (by first | assumption | exact Own.sl (by assumption)) (by assumption) | exact Yld.loadRow1 (cl := 2) Try.underlying3 rfl rfl rfl (by first | assumption | exact Own.sl (by assumption)) (by assumption) | exact Yld.loadRow1 (cl := 122) Try.underlying3 rfl rfl rfl (by first | assumption | exact Own.sl (by assumption)) (by assumption)) | exact (by first | exact Yld.loadRowF (cl := 1) (j := 0) Try.underlying3 rfl rfl rfl (by first | assumption | exact Own.sl (by assumption)) (by assumption) rfl | exact Yld.loadRowF (cl := 2) (j := 0) Try.underlying3 rfl rfl rfl (by first | assumption | exact Own.sl (by assumption)) (by assumption) rfl | exact Yld.loadRowF (cl := 122) (j := 0) Try.underlying3 rfl rfl rfl (by first | assumption | exact Own.sl (by assumption)) (by assumption) rfl)) rfl ?_
          refine DL.q rfl (Yld.indexRow Try.underlying22 sz42 rfl rfl (by first | assumption | exact Own.sl (by assumption)) (by first | rfl | omega | (simp; done) | (simp; omega)) (by omega) (by first | omega | (simp; done) | (simp; omega))) rfl ?_
          refine DL.q rfl (by first | exact Yld.loadRow (cl := 1) Try.underlying42 rfl sz42 rfl rfl (by first | assumption | exact Own.sl (by assumption)) (by assumption) | exact Yld.loadRow (cl := 2) Try.underlying42 rfl sz42 rfl rfl (by first | assumption | exact Own.sl (by assumption)) (by assumption) | exact Yld.loadRow (cl := 122) Try.underlying42 rfl sz42 rfl rfl (by first | assumption | exact Own.sl (by assumption)) (by assumption)) rfl ?_
          refine DL.one rfl (Eff.call ent32 [] [] (.cons rfl (.cons rfl .nil)) (rprecedes_ct o w) rfl rfl rfl rfl (by rintro _ _ ⟨_, rfl⟩; rfl)) rfl (by rintro _ _ ⟨_, ⟨rfl, rfl⟩, rfl⟩; repeat (first | exact .nil | refine .cons rfl ?_)) ?_
          rintro _ _ ⟨_, ⟨rfl, rfl⟩, rfl⟩
          refine DL.done ?_
          refine N.next ?_
          refine W.keep (.cons (k := 0) rfl (.cons (k := 1) rfl (.cons (k := 5) rfl (.cons (k := 6) rfl (.cons (k := 7) rfl (.cons (k := 8) rfl (.cons (k := 66) rfl .nil))))))) (.cons (k := 0) rfl (.cons (k := 1) rfl (.cons (k := 2) rfl (.cons (k := 122) rfl .nil)))) ?_
          first | refine W.condD rfl (fun hc66 => ?_) (fun hc66 => ?_) | (refine W.cond rfl (fun hc66 => ?_) (fun hc66 => ?_) <;> try simp only [Bool.or_eq_true, Bool.and_eq_true, Bool.not_eq_true', Bool.not_eq_false', decide_eq_true_eq, Bool.or_eq_false_iff, Bool.and_eq_false_iff, decide_eq_false_iff_not, beq_iff_eq, beq_eq_false_iff_ne, ne_eq, Decidable.not_not] at hc66)
          ·
            have hnv : ¬ VerOK l ord := fun h => ((h.vp (x.n + 1)).last hz).2 y hym w o hw ho hc66
            refine W.seq ?_
            refine W.region ?_
            refine RL.q (Yld.assign rfl) rfl ?_
            refine RL.nil ?_
            refine N.next ?_
            refine W.keep (.cons (k := 4) rfl .nil) (.cons (k := 0) rfl (.cons (k := 1) rfl (.cons (k := 2) rfl (.cons (k := 122) rfl .nil)))) ?_
            refine W.ret ?_
            refine N.block_ret ?_
            refine N.then_ret ?_
            refine N.then_ret ?_
            refine N.block_ret ?_
            refine N.block_ret ?_
            refine N.then_ret ?_
            refine N.then_ret ?_
            refine N.block_ret ?_
            refine N.then_ret ?_
            exact N.retBy [1, 2] (.cons (.tmp rfl) .nil) rfl rfl rfl rfl ⟨by rw [verB_not hnv]; rfl, rfl⟩
          ·
            have hstep : ∀ (j2 : Nat) y2, j2 < j + 1 → ord[j2]? = some y2 → NoPr l y2 z := fun j2 y2 hj2 hy2 => by
              by_cases e : j2 = j
              · subst e; rw [hy] at hy2; cases hy2
                intro a b ha hb hp
                rw [hw] at ha; rw [ho] at hb; cases ha; cases hb
                exact hc66 hp
              · exact hI j2 y2 (by omega) hy2
            refine W.skip ?_
            refine N.block_normal ?_
            refine N.next ?_
            refine W.region ?_
            refine RL.q (Yld.move rfl) rfl ?_
            refine RL.q (Yld.bin rfl rfl (by first | exact BinV.add (by omega) (by omega) | exact BinV.addW)) rfl ?_
            refine RL.q (Yld.assign rfl) rfl ?_
            refine RL.nil ?_
            exact N.famK (j + 1) ⟨⟨by omega, hstep⟩, by omega⟩ (.as rfl (by first | rfl | (simp; done) | (congr 1; simp; done) | (congr 1; omega)) .nil) (.cons rfl (.cons rfl (.cons rfl (.cons rfl (.cons rfl .nil))))) .nil (.cons rfl (.cons rfl (.cons rfl (.cons rfl .nil))))
        ·
          have hendj : j = x.n := by omega
          have hpr : ∀ y ∈ ord.take x.n, NoPr l y z := fun y hy => by
            obtain ⟨j2, hj2⟩ := List.getElem?_of_mem hy
            rw [List.getElem?_take] at hj2
            split at hj2
            · exact hI j2 y (by omega) hj2
            · cases hj2
          have hU2 : ∀ k : Nat, (addB x.u z.toNat).testBit k = true ↔ (k : Int) ∈ ord.take (x.n + 1) := fun k => by
            rw [addB_bit, Bool.or_eq_true, hU k, take_snoc hz, List.mem_append, List.mem_singleton, decide_eq_true_eq]
            constructor
            · rintro (h | h)
              · exact .inl h
              · exact .inr (by omega)
            · rintro (h | h)
              · exact .inl h
              · exact .inr (by omega)
          refine W.exit ?_
          refine N.then_exit ?_
          refine N.then_exit ?_
          refine N.block_eq ?_
          refine N.block_normal ?_
          refine N.next ?_
          refine W.keep (.cons (k := 0) rfl (.cons (k := 1) rfl (.cons (k := 5) rfl (.cons (k := 6) rfl .nil)))) (.cons (k := 0) rfl (.cons (k := 1) rfl (.cons (k := 2) rfl (.cons (k := 122) rfl .nil)))) ?_
          refine W.region ?_
          refine RL.q (Yld.move rfl) rfl ?_
          refine RL.q (Yld.bin rfl rfl (by first | exact BinV.add (by omega) (by omega) | exact BinV.addW)) rfl ?_
          refine RL.q (Yld.assign rfl) rfl ?_
          refine RL.nil ?_
          exact N.famK ⟨x.n + 1, addB x.u z.toNat, Hw⟩ ⟨⟨by dsimp only; omega, hV.step hz hr hnt hpr, hU2, by dsimp only; rw [← us_set]; exact hOw⟩, by dsimp only; omega⟩ (.as rfl (by first | rfl | (simp; done) | (congr 1; simp; done) | (congr 1; omega)) .nil) (.cons rfl (.cons rfl (.cons rfl .nil))) (.cons rfl .nil) (.cons rfl (.cons rfl (.cons rfl .nil)))
    ·
      have hend : x.n = ord.length := by omega
      rw [hend] at hV hU
      rw [List.take_length] at hU
      have hVs0 := hV.some
      rw [List.take_length] at hVs0
      refine W.exit ?_
      refine N.then_exit ?_
      refine N.then_exit ?_
      refine N.block_eq ?_
      refine N.next ?_
      refine W.keep (.cons (k := 0) rfl (.cons (k := 1) rfl (.cons (k := 5) rfl .nil))) (.cons (k := 0) rfl (.cons (k := 1) rfl (.cons (k := 2) rfl (.cons (k := 122) rfl .nil)))) ?_
      refine W.seq ?_
      refine W.seq ?_
      refine W.region ?_
      refine RL.q (Yld.assign rfl) rfl ?_
      refine RL.nil ?_
      refine N.next ?_
      refine W.block ?_
      refine W.loopK (ι := Nat) (fun i => (i ≤ l.length ∧ ∀ (j : Nat) a, j < i → l[j]? = some a → 0 ≤ a.rsp → (j : Int) ∈ ord)) (fun i => [(9, .int .i64 (i : Nat))]) (fun i => []) (fun i => l.length - i) (.cons (k := 0) rfl (.cons (k := 1) rfl (.cons (k := 5) rfl .nil))) (.cons (k := 0) rfl (.cons (k := 1) rfl (.cons (k := 2) rfl (.cons (k := 122) rfl .nil)))) 0 ?_ ?_ ?_ ?_
      · exact ⟨Nat.zero_le _, fun _ _ h => absurd h (Nat.not_lt_zero _)⟩
      · exact (.as rfl (by first | rfl | (simp; done) | (congr 1; simp; done) | (congr 1; omega)) .nil)
      · exact .nil
      rintro i ⟨hi, hA⟩
      refine W.keep (.cons (k := 9) rfl (.cons (k := 0) rfl (.cons (k := 1) rfl (.cons (k := 5) rfl .nil)))) (.cons (k := 0) rfl (.cons (k := 1) rfl (.cons (k := 2) rfl (.cons (k := 122) rfl .nil)))) ?_
      refine W.seq ?_
      refine W.seq ?_
      refine W.region ?_
      refine RL.q (Yld.move rfl) rfl ?_
      refine RL.q (Yld.move rfl) rfl ?_
      refine RL.q (Yld.lenSl Try.underlying22 rfl) rfl ?_
      refine RL.q (Yld.bin rfl rfl BinV.lss) rfl ?_
      refine RL.nil ?_
      refine N.next ?_
      first | refine W.condD rfl (fun hc70 => ?_) (fun hc70 => ?_) | (refine W.cond rfl (fun hc70 => ?_) (fun hc70 => ?_) <;> try simp only [Bool.or_eq_true, Bool.and_eq_true, Bool.not_eq_true', Bool.not_eq_false', decide_eq_true_eq, Bool.or_eq_false_iff, Bool.and_eq_false_iff, decide_eq_false_iff_not, beq_iff_eq, beq_eq_false_iff_ne, ne_eq, Decidable.not_not] at hc70)
      ·
        obtain ⟨o, ho⟩ : ∃ o, l[i]? = some o := ⟨_, List.getElem?_eq_getElem (show i < l.length by simp only [List.length_map] at *; omega)⟩
        have hlo : (l.map O.c)[i]? = some o.c := by simp [ho]
        have hlu := us_get (t := x.u) (show i < (l.map O.c).length by omega)
        refine W.skip ?_
        refine N.next ?_
        refine W.keep (.cons (k := 0) rfl (.cons (k := 1) rfl (.cons (k := 5) rfl (.cons (k := 9) rfl .nil)))) (.cons (k := 0) rfl (.cons (k := 1) rfl (.cons (k := 2) rfl (.cons (k := 122) rfl .nil)))) ?_
        refine W.seq ?_
        refine W.block ?_
        refine W.seq ?_
        refine W.region ?_
        refine RL.q (Yld.move rfl) rfl ?_
        refine RL.q (Yld.move rfl) rfl ?_
        refine RL.q (Yld.indexRow Try.underlying22 sz42 rfl rfl (by first | assumption | exact Own.sl (by assumption)) (by first | rfl | omega | (simp; done) | (simp; omega)) (by omega) (by first | omega | (simp; done) | (simp; omega))) rfl ?_
        refine RL.q (Yld.fieldAddr fo42_6 rfl) rfl ?_
        refine RL.q (by first | exact Yld.loadRowF (cl := 1) (j := 11) Try.underlying3 rfl rfl rfl (by first | assumption | exact Own.sl (by assumption)) (by assumption) rfl | exact Yld.loadRowF (cl := 2) (j := 11) Try.underlying3 rfl rfl rfl (by first | assumption | exact Own.sl (by assumption)) (by assumption) rfl | exact Yld.loadRowF (cl := 122) (j := 11) Try.underlying3 rfl rfl rfl (by first | assumption | exact Own.sl (by assumption)) (by assumption) rfl) rfl ?_
        refine RL.q (Yld.bin rfl rfl BinV.geq) rfl ?_
        refine RL.q (Yld.move rfl) rfl ?_
        refine' RL.and (t := 79) (d := 85) 6 rfl (.cons (k := 0) rfl (.cons (k := 1) rfl (.cons (k := 5) rfl (.cons (k := 9) rfl (.cons (k := 73) rfl (.cons (k := 74) rfl (.cons (k := 75) rfl (.cons (k := 76) rfl (.cons (k := 77) rfl (.cons (k := 78) rfl .nil)))))))))) (.cons (k := 0) rfl (.cons (k := 1) rfl (.cons (k := 2) rfl (.cons (k := 122) rfl .nil)))) ?_ ?_ ?_
        rotate_left 1
        ·
          intro hg79
          refine RL.gq rfl rfl (Yld.move rfl) rfl ?_
          refine RL.gq rfl rfl (Yld.move rfl) rfl ?_
          refine RL.gq rfl rfl (Yld.indexRow Try.underlying57 sz4 rfl rfl (by first | assumption | exact Own.sl (by assumption)) (by first | rfl | omega | (simp; done) | (simp; omega)) (by omega) (by first | omega | (simp; done) | (simp; omega))) rfl ?_
          refine RL.gq rfl rfl (by first | exact (by first | exact Yld.loadRow1 (cl := 1) Try.underlying4 rfl rfl rfl (by first | assumption | exact Own.sl (by assumption)) (by assumption) | exact Yld.loadRow1 (cl := 2) Try.underlying4 rfl rfl rfl (by first | assumption | exact Own.sl (by assumption)) (by assumption) | exact Yld.loadRow1 (cl := 122) Try.underlying4 rfl rfl rfl (by first | assumption | exact Own.sl (by assumption)) (by assumption)) | exact (by first | exact Yld.loadRowF (cl := 1) (j := 0) Try.underlying4 rfl rfl rfl (by first | assumption | exact Own.sl (by assumption)) (by assumption) rfl | exact Yld.loadRowF (cl := 2) (j := 0) Try.underlying4 rfl rfl rfl (by first | assumption | exact Own.sl (by assumption)) (by assumption) rfl | exact Yld.loadRowF (cl := 122) (j := 0) Try.underlying4 rfl rfl rfl (by first | assumption | exact Own.sl (by assumption)) (by assumption) rfl)) rfl ?_
          refine RL.gq rfl rfl (by first | exact Yld.notD rfl | exact Yld.not rfl) rfl ?_
          refine RL.q (by first | exact Yld.pickT rfl rfl | exact Yld.pickF rfl rfl) rfl ?_
          exact RL.nil (N.meet (.cons rfl (.cons rfl (.cons rfl (.cons rfl (.cons rfl (.cons rfl (.cons rfl (.cons rfl (.cons rfl (.cons rfl (.cons rfl .nil))))))))))) (.cons rfl (.cons rfl (.cons rfl (.cons rfl .nil)))))
        ·
          intro hg79
          refine RL.gskip rfl rfl rfl rfl ?_
          refine RL.gskip rfl rfl rfl rfl ?_
          refine RL.gskip rfl rfl rfl rfl ?_
          refine RL.gskip rfl rfl rfl rfl ?_
          refine RL.gskip rfl rfl rfl rfl ?_
          refine RL.q (by first | exact Yld.pickT rfl rfl | exact Yld.pickF rfl rfl) rfl ?_
          exact RL.nil (N.meet (.cons rfl (.cons rfl (.cons rfl (.cons rfl (.cons rfl (.cons rfl (.cons rfl (.cons rfl (.cons rfl (.cons rfl (.cons rfl .nil))))))))))) (.cons rfl (.cons rfl (.cons rfl (.cons rfl .nil)))))
        refine RL.nil ?_
        refine N.next ?_
        refine W.keep (.cons (k := 0) rfl (.cons (k := 1) rfl (.cons (k := 5) rfl (.cons (k := 9) rfl (.cons (k := 85) rfl .nil))))) (.cons (k := 0) rfl (.cons (k := 1) rfl (.cons (k := 2) rfl (.cons (k := 122) rfl .nil)))) ?_
        refine W.cond rfl (fun hc85 => ?_) (fun hc85 => ?_)
        ·
          have hnv : ¬ VerOK l ord := fun h => by
            simp only [Bool.and_eq_true, Bool.not_eq_true', decide_eq_true_eq] at hc85
            have := (hU i).2 (h.all i o ho hc85.1)
            rw [hc85.2] at this; cases this
          refine W.seq ?_
          refine W.region ?_
          refine RL.q (Yld.assign rfl) rfl ?_
          refine RL.nil ?_
          refine N.next ?_
          refine W.keep (.cons (k := 4) rfl .nil) (.cons (k := 0) rfl (.cons (k := 1) rfl (.cons (k := 2) rfl (.cons (k := 122) rfl .nil)))) ?_
          refine W.ret ?_
          refine N.block_ret ?_
          refine N.then_ret ?_
          refine N.then_ret ?_
          refine N.block_ret ?_
          refine N.then_ret ?_
          exact N.retBy [1, 2] (.cons (.tmp rfl) .nil) rfl rfl rfl rfl ⟨by rw [verB_not hnv]; rfl, rfl⟩
        ·
          have hA2 : ∀ (j : Nat) a, j < i + 1 → l[j]? = some a → 0 ≤ a.rsp → (j : Int) ∈ ord := fun j a hj ha h0 => by
            by_cases e : j = i
            · subst e; rw [ho] at ha; cases ha
              rw [decide_eq_true h0, Bool.true_and, Bool.not_eq_false'] at hc85
              exact (hU j).1 hc85
            · exact hA j a (by omega) ha h0
          refine W.skip ?_
          refine N.block_normal ?_
          refine N.next ?_
          refine W.region ?_
          refine RL.q (Yld.move rfl) rfl ?_
          refine RL.q (Yld.bin rfl rfl (by first | exact BinV.add (by omega) (by omega) | exact BinV.addW)) rfl ?_
          refine RL.q (Yld.assign rfl) rfl ?_
          refine RL.nil ?_
          exact N.famK (i + 1) ⟨⟨by omega, hA2⟩, by omega⟩ (.as rfl (by first | rfl | (simp; done) | (congr 1; simp; done) | (congr 1; omega)) .nil) (.cons rfl (.cons rfl (.cons rfl .nil))) .nil (.cons rfl (.cons rfl (.cons rfl (.cons rfl .nil))))
      ·
        have hendi : i = l.length := by omega
        refine W.exit ?_
        refine N.then_exit ?_
        refine N.then_exit ?_
        refine N.block_eq ?_
        refine N.next ?_
        refine W.keep (.cons (k := 0) rfl (.cons (k := 1) rfl .nil)) (.cons (k := 0) rfl (.cons (k := 1) rfl (.cons (k := 2) rfl (.cons (k := 122) rfl .nil)))) ?_
        refine W.seq ?_
        refine W.region ?_
        refine RL.q (Yld.move rfl) rfl ?_
        refine RL.e (Eff.call ent13 [1] [1, 140] (.cons rfl .nil) (rkeys_ct l (by omega) _ _ _ hS) rfl rfl rfl rfl (by rintro _ _ ⟨_, _, _, _, _, rfl⟩; rfl)) rfl ?_
        rintro _ _ ⟨_, ⟨Hk, pk, ck0, rfl, hOk, rfl⟩, rfl⟩
        refine RL.q (Yld.assign rfl) rfl ?_
        refine RL.nil ?_
        refine N.next ?_
        refine W.seq ?_
        refine W.seq ?_
        refine W.region ?_
        refine RL.q (Yld.assign rfl) rfl ?_
        refine RL.nil ?_
        refine N.next ?_
        refine W.block ?_
        refine W.loopK (ι := Nat) (fun j => (j ≤ (keysO l).length ∧ ∀ (j2 : Nat) k, j2 < j → (keysO l)[j2]? = some k → repK l k (false, 0) ord)) (fun j => [(11, .int .i64 (j : Nat))]) (fun j => []) (fun j => (keysO l).length - j) (.cons (k := 0) rfl (.cons (k := 1) rfl (.cons (k := 10) rfl .nil))) (.cons (k := 0) rfl (.cons (k := 1) rfl (.cons (k := 2) rfl (.cons (k := 122) rfl (.cons (k := 140) rfl .nil))))) 0 ?_ ?_ ?_ ?_
        · exact ⟨Nat.zero_le _, fun _ _ h => absurd h (Nat.not_lt_zero _)⟩
        · exact (.as rfl (by first | rfl | (simp; done) | (congr 1; simp; done) | (congr 1; omega)) .nil)
        · exact .nil
        rintro j ⟨hj, hK⟩
        refine W.keep (.cons (k := 11) rfl (.cons (k := 0) rfl (.cons (k := 1) rfl (.cons (k := 10) rfl .nil)))) (.cons (k := 0) rfl (.cons (k := 1) rfl (.cons (k := 2) rfl (.cons (k := 122) rfl (.cons (k := 140) rfl .nil))))) ?_
        refine W.seq ?_
        refine W.seq ?_
        refine W.region ?_
        refine RL.q (Yld.move rfl) rfl ?_
        refine RL.q (Yld.move rfl) rfl ?_
        refine RL.q (Yld.lenSl Try.underlying32 rfl) rfl ?_
        refine RL.q (Yld.bin rfl rfl BinV.lss) rfl ?_
        refine RL.nil ?_
        refine N.next ?_
        first | refine W.condD rfl (fun hc91 => ?_) (fun hc91 => ?_) | (refine W.cond rfl (fun hc91 => ?_) (fun hc91 => ?_) <;> try simp only [Bool.or_eq_true, Bool.and_eq_true, Bool.not_eq_true', Bool.not_eq_false', decide_eq_true_eq, Bool.or_eq_false_iff, Bool.and_eq_false_iff, decide_eq_false_iff_not, beq_iff_eq, beq_eq_false_iff_ne, ne_eq, Decidable.not_not] at hc91)
        ·
          obtain ⟨k, hk, hlk⟩ := kz_at (show j < (keysO l).length by omega)
          refine W.skip ?_
          refine N.next ?_
          refine W.keep (.cons (k := 0) rfl (.cons (k := 1) rfl (.cons (k := 10) rfl (.cons (k := 11) rfl .nil)))) (.cons (k := 0) rfl (.cons (k := 1) rfl (.cons (k := 2) rfl (.cons (k := 122) rfl (.cons (k := 140) rfl .nil))))) ?_
          refine W.seq ?_
          refine W.block ?_
          refine W.seq ?_
          refine W.region ?_
          refine RL.q (Yld.buildP lay59 .nil rfl) rfl ?_
          refine RL.e (Eff.alloc 112 zc59) rfl ?_
          rintro _ _ ⟨b12, rfl, rfl⟩
          refine RL.e0 (Eff.storeS (c := 112) _ sz59 rfl rfl rfl rfl rfl rfl rfl (by (try simp only [putAt, List.take, List.drop, List.nil_append, List.cons_append, List.append_nil, List.length_cons, List.length_nil, Nat.add_zero, Nat.zero_add, Nat.reduceAdd]); rfl)) ?_
          rintro _ _ rfl
          refine RL.nil ?_
          refine N.next ?_
          refine W.seq ?_
          refine W.region ?_
          refine RL.q (Yld.assign rfl) rfl ?_
          refine RL.nil ?_
          refine N.next ?_
          refine W.block ?_
          refine W.loopK (ι := Nat) (fun n => (n ≤ ord.length ∧ repK l k (false, 0) (ord.take n))) (fun n => [(13, .int .i64 (n : Nat))]) (fun n => [(112, single b12 (.cells [.bool (repC l k (false, 0) (ord.take n)).1, .int .i64 (repC l k (false, 0) (ord.take n)).2].toArray 59 (0, 0)))]) (fun n => ord.length - n) (.cons (k := 0) rfl (.cons (k := 1) rfl (.cons (k := 10) rfl (.cons (k := 11) rfl (.cons (k := 12) rfl .nil))))) (.cons (k := 0) rfl (.cons (k := 1) rfl (.cons (k := 2) rfl (.cons (k := 122) rfl (.cons (k := 140) rfl .nil))))) 0 ?_ ?_ ?_ ?_
          · exact ⟨Nat.zero_le _, trivial⟩
          · exact (.as rfl (by first | rfl | (simp; done) | (congr 1; simp; done) | (congr 1; omega)) .nil)
          · exact (.cons rfl .nil)
          rintro n ⟨hn2, hR⟩
          refine W.keep (.cons (k := 13) rfl (.cons (k := 0) rfl (.cons (k := 1) rfl (.cons (k := 10) rfl (.cons (k := 11) rfl (.cons (k := 12) rfl .nil)))))) (.cons (k := 112) rfl (.cons (k := 0) rfl (.cons (k := 1) rfl (.cons (k := 2) rfl (.cons (k := 122) rfl (.cons (k := 140) rfl .nil)))))) ?_
          refine W.seq ?_
          refine W.seq ?_
          refine W.region ?_
          refine RL.q (Yld.move rfl) rfl ?_
          refine RL.q (Yld.move rfl) rfl ?_
          refine RL.q (Yld.lenSl Try.underlying25 rfl) rfl ?_
          refine RL.q (Yld.bin rfl rfl BinV.lss) rfl ?_
          refine RL.nil ?_
          refine N.next ?_
          first | refine W.condD rfl (fun hc98 => ?_) (fun hc98 => ?_) | (refine W.cond rfl (fun hc98 => ?_) (fun hc98 => ?_) <;> try simp only [Bool.or_eq_true, Bool.and_eq_true, Bool.not_eq_true', Bool.not_eq_false', decide_eq_true_eq, Bool.or_eq_false_iff, Bool.and_eq_false_iff, decide_eq_false_iff_not, beq_iff_eq, beq_eq_false_iff_ne, ne_eq, Decidable.not_not] at hc98)
          ·
            obtain ⟨z, hz, hlz⟩ := iz_at (show n < ord.length by omega)
            obtain ⟨hr0, hr1⟩ := hV.rng z (by rw [List.take_length]; exact List.mem_of_getElem? hz)
            obtain ⟨o, ho⟩ : ∃ o, l[z.toNat]? = some o := ⟨_, List.getElem?_eq_getElem (by omega)⟩
            have hlo : (l.map O.c)[z.toNat]? = some o.c := by rw [List.getElem?_map, ho]; rfl
            have hVs : ∀ z ∈ ord.take n, ∃ a, l[z.toNat]? = some a := fun z h => hVs0 z (List.mem_of_mem_take h)
            refine W.skip ?_
            refine N.next ?_
            refine W.keep (.cons (k := 0) rfl (.cons (k := 1) rfl (.cons (k := 10) rfl (.cons (k := 11) rfl (.cons (k := 12) rfl (.cons (k := 13) rfl .nil)))))) (.cons (k := 0) rfl (.cons (k := 1) rfl (.cons (k := 2) rfl (.cons (k := 112) rfl (.cons (k := 122) rfl (.cons (k := 140) rfl .nil)))))) ?_
            refine W.seq ?_
            refine W.block ?_
            refine W.seq ?_
            refine W.region ?_
            refine RL.q (Yld.move rfl) rfl ?_
            refine RL.q (Yld.move rfl) rfl ?_
            refine RL.q (Yld.move rfl) rfl ?_
            refine RL.q (Yld.indexRow Try.underlying25 sz3 rfl rfl (by first | assumption | exact Own.sl (by assumption)) (by first | rfl | omega | (simp; done) | (simp; omega)) (by omega) (by first | omega | (simp; done) | (simp; omega))) rfl ?_
            refine RL.q (by first | exact (by first | exact Yld.loadRow1 (cl := 1) Try.underlying3 rfl rfl rfl (by first | assumption | exact Own.sl (by assumption)) (by assumption) | exact Yld.loadRow1 (cl := 2) Try.underlying3 rfl rfl rfl (by first | assumption | exact Own.sl (by assumption)) (by assumption) | exact Yld.loadRow1 (cl := 122) Try.underlying3 rfl rfl rfl (by first | assumption | exact Own.sl (by assumption)) (by assumption) | exact Yld.loadRow1 (cl := 140) Try.underlying3 rfl rfl rfl (by first | assumption | exact Own.sl (by assumption)) (by assumption) | exact Yld.loadRow1 (cl := 112) Try.underlying3 rfl rfl rfl (by first | assumption | exact Own.sl (by assumption)) (by assumption)) | exact (by first | exact Yld.loadRowF (cl := 1) (j := 0) Try.underlying3 rfl rfl rfl (by first | assumption | exact Own.sl (by assumption)) (by assumption) rfl | exact Yld.loadRowF (cl := 2) (j := 0) Try.underlying3 rfl rfl rfl (by first | assumption | exact Own.sl (by assumption)) (by assumption) rfl | exact Yld.loadRowF (cl := 122) (j := 0) Try.underlying3 rfl rfl rfl (by first | assumption | exact Own.sl (by assumption)) (by assumption) rfl | exact Yld.loadRowF (cl := 140) (j := 0) Try.underlying3 rfl rfl rfl (by first | assumption | exact Own.sl (by assumption)) (by assumption) rfl | exact Yld.loadRowF (cl := 112) (j := 0) Try.underlying3 rfl rfl rfl (by first | assumption | exact Own.sl (by assumption)) (by assumption) rfl)) rfl ?_
            refine RL.q (Yld.indexRow Try.underlying22 sz42 rfl rfl (by first | assumption | exact Own.sl (by assumption)) (by first | rfl | omega | (simp; done) | (simp; omega)) (by omega) (by first | omega | (simp; done) | (simp; omega))) rfl ?_
            refine RL.q (by first | exact Yld.loadRow (cl := 1) Try.underlying42 rfl sz42 rfl rfl (by first | assumption | exact Own.sl (by assumption)) (by assumption) | exact Yld.loadRow (cl := 2) Try.underlying42 rfl sz42 rfl rfl (by first | assumption | exact Own.sl (by assumption)) (by assumption) | exact Yld.loadRow (cl := 122) Try.underlying42 rfl sz42 rfl rfl (by first | assumption | exact Own.sl (by assumption)) (by assumption) | exact Yld.loadRow (cl := 140) Try.underlying42 rfl sz42 rfl rfl (by first | assumption | exact Own.sl (by assumption)) (by assumption) | exact Yld.loadRow (cl := 112) Try.underlying42 rfl sz42 rfl rfl (by first | assumption | exact Own.sl (by assumption)) (by assumption)) rfl ?_
            refine RL.e (Eff.alloc 114 zc42) rfl ?_
            rintro _ _ ⟨b14, rfl, rfl⟩
            refine RL.e0 (Eff.storeS (c := 114) _ sz42 rfl rfl rfl rfl rfl rfl rfl (by (try simp only [putAt, List.take, List.drop, List.nil_append, List.cons_append, List.append_nil, List.length_cons, List.length_nil, Nat.add_zero, Nat.zero_add, Nat.reduceAdd]); rfl)) ?_
            rintro _ _ rfl
            refine RL.nil ?_
            refine N.next ?_
            refine W.keep (.cons (k := 0) rfl (.cons (k := 1) rfl (.cons (k := 10) rfl (.cons (k := 11) rfl (.cons (k := 12) rfl (.cons (k := 13) rfl (.cons (k := 14) rfl .nil))))))) (.cons (k := 0) rfl (.cons (k := 1) rfl (.cons (k := 2) rfl (.cons (k := 112) rfl (.cons (k := 114) rfl (.cons (k := 122) rfl (.cons (k := 140) rfl .nil))))))) ?_
            refine W.seq ?_
            refine W.seq ?_
            refine W.draw (.q 0 (.q 1 (.q 2 (.q 3 (.q 4 (.q 5 (.q 6 (.q 7 .done)))))))) (.cons (k := 0) rfl (.cons (k := 1) rfl (.cons (k := 2) rfl (.cons (k := 112) rfl (.cons (k := 114) rfl (.cons (k := 122) rfl (.cons (k := 140) rfl .nil))))))) mix (by kernel_rfl) (by kernel_rfl) ?_
            refine DL.q rfl (Yld.fieldAddr fo42_3 rfl) rfl ?_
            refine DL.q rfl (Yld.fieldAddr fo38_1 rfl) rfl ?_
            refine DL.q rfl (Yld.load1 (c := 114) Try.underlying9 rfl rfl rfl (by first | exact single_self _ _ | exact pset_self _ _ _ | assumption) rfl) rfl ?_
            refine DL.q rfl (Yld.move rfl) rfl ?_
            refine DL.q rfl (Yld.move rfl) rfl ?_
            refine DL.q rfl (Yld.indexRow Try.underlying32 sz9 rfl rfl (by first | assumption | exact Own.sl (by assumption)) (by first | rfl | omega | (simp; done) | (simp; omega)) (by omega) (by first | omega | (simp; done) | (simp; omega))) rfl ?_
            refine DL.q rfl (by first | exact (by first | exact Yld.loadRow1 (cl := 114) Try.underlying9 rfl rfl rfl (by first | assumption | exact Own.sl (by assumption)) (by assumption) | exact Yld.loadRow1 (cl := 1) Try.underlying9 rfl rfl rfl (by first | assumption | exact Own.sl (by assumption)) (by assumption) | exact Yld.loadRow1 (cl := 2) Try.underlying9 rfl rfl rfl (by first | assumption | exact Own.sl (by assumption)) (by assumption) | exact Yld.loadRow1 (cl := 122) Try.underlying9 rfl rfl rfl (by first | assumption | exact Own.sl (by assumption)) (by assumption) | exact Yld.loadRow1 (cl := 140) Try.underlying9 rfl rfl rfl (by first | assumption | exact Own.sl (by assumption)) (by assumption) | exact Yld.loadRow1 (cl := 112) Try.underlying9 rfl rfl rfl (by first | assumption | exact Own.sl (by assumption)) (by assumption)) | exact (by first | exact Yld.loadRowF (cl := 114) (j := 0) Try.underlying9 rfl rfl rfl (by first | assumption | exact Own.sl (by assumption)) (by assumption) rfl | exact Yld.loadRowF (cl := 1) (j := 0) Try.underlying9 rfl rfl rfl (by first | assumption | exact Own.sl (by assumption)) (by assumption) rfl | exact Yld.loadRowF (cl := 2) (j := 0) Try.underlying9 rfl rfl rfl (by first | assumption | exact Own.sl (by assumption)) (by assumption) rfl | exact Yld.loadRowF (cl := 122) (j := 0) Try.underlying9 rfl rfl rfl (by first | assumption | exact Own.sl (by assumption)) (by assumption) rfl | exact Yld.loadRowF (cl := 140) (j := 0) Try.underlying9 rfl rfl rfl (by first | assumption | exact Own.sl (by assumption)) (by assumption) rfl | exact Yld.loadRowF (cl := 112) (j := 0) Try.underlying9 rfl rfl rfl (by first | assumption | exact Own.sl (by assumption)) (by assumption) rfl)) rfl ?_
            refine DL.q rfl (Yld.bin rfl rfl BinV.neqS) rfl ?_
            refine DL.done ?_
            refine N.next ?_
            refine W.keep (.cons (k := 0) rfl (.cons (k := 1) rfl (.cons (k := 10) rfl (.cons (k := 11) rfl (.cons (k := 12) rfl (.cons (k := 13) rfl (.cons (k := 14) rfl (.cons (k := 115) rfl .nil)))))))) (.cons (k := 0) rfl (.cons (k := 1) rfl (.cons (k := 2) rfl (.cons (k := 112) rfl (.cons (k := 114) rfl (.cons (k := 122) rfl (.cons (k := 140) rfl .nil))))))) ?_
            first | refine W.condD rfl (fun hc115 => ?_) (fun hc115 => ?_) | (refine W.cond rfl (fun hc115 => ?_) (fun hc115 => ?_) <;> try simp only [Bool.or_eq_true, Bool.and_eq_true, Bool.not_eq_true', Bool.not_eq_false', decide_eq_true_eq, Bool.or_eq_false_iff, Bool.and_eq_false_iff, decide_eq_false_iff_not, beq_iff_eq, beq_eq_false_iff_ne, ne_eq, Decidable.not_not] at hc115)
            ·
              have hne : ¬ o.key = k := hc115
              refine W.exit ?_
              refine N.then_exit ?_
              refine N.block_eq ?_
              refine N.next ?_
              refine W.region ?_
              refine RL.q (Yld.move rfl) rfl ?_
              refine RL.q (Yld.bin rfl rfl (by first | exact BinV.add (by omega) (by omega) | exact BinV.addW)) rfl ?_
              refine RL.q (Yld.assign rfl) rfl ?_
              refine RL.nil ?_
              exact N.famK (n + 1) ⟨⟨by omega, (rep_step hVs hz ho).2 ⟨hR, fun e => absurd e hne⟩⟩, by omega⟩ (.as rfl (by first | rfl | (simp; done) | (congr 1; simp; done) | (congr 1; omega)) .nil) (.cons rfl (.cons rfl (.cons rfl (.cons rfl (.cons rfl .nil))))) (.as rfl (by rw [repC_step hz ho, if_neg hne]) .nil) (.cons rfl (.cons rfl (.cons rfl (.cons rfl (.cons rfl .nil)))))
            ·
              have heq : o.key = k := Classical.not_not.1 hc115
              refine W.skip ?_
              refine N.next ?_
              refine W.seq ?_
              refine W.region ?_
              refine RL.q (Yld.loadW (c := 112) Try.underlying59 rfl sz59 rfl rfl (by first | exact single_self _ _ | exact pset_self _ _ _ | assumption) rfl) rfl ?_
              refine RL.q (Yld.fieldAddr fo42_3 rfl) rfl ?_
              refine RL.q (Yld.loadA (c := 114) Try.underlying38 rfl sz38 rfl rfl (by first | exact single_self _ _ | exact pset_self _ _ _ | assumption) rfl rfl) rfl ?_
              refine RL.e (Eff.call ent33 [] [] (.cons rfl (.cons rfl .nil)) (rdo_ct (repC l k (false, 0) (ord.take n)) o) rfl rfl rfl rfl (by rintro _ _ ⟨_, rfl⟩; rfl)) rfl ?_
              rintro _ _ ⟨_, ⟨rfl, rfl⟩, rfl⟩
              refine RL.q (Yld.move rfl) rfl ?_
              refine RL.q (Yld.extract rfl rfl) rfl ?_
              refine RL.q (Yld.extract rfl rfl) rfl ?_
              refine RL.e (Eff.alloc 115 zc59) rfl ?_
              rintro _ _ ⟨b15, rfl, rfl⟩
              refine RL.e (Eff.alloc 116 zc40) rfl ?_
              rintro _ _ ⟨b16, rfl, rfl⟩
              refine RL.e0 (Eff.storeS (c := 115) _ sz59 rfl rfl rfl rfl rfl rfl rfl (by (try simp only [putAt, List.take, List.drop, List.nil_append, List.cons_append, List.append_nil, List.length_cons, List.length_nil, Nat.add_zero, Nat.zero_add, Nat.reduceAdd]); rfl)) ?_
              rintro _ _ rfl
              refine RL.e0 (Eff.storeS (c := 116) _ sz40 rfl rfl rfl rfl rfl rfl rfl (by (try simp only [putAt, List.take, List.drop, List.nil_append, List.cons_append, List.append_nil, List.length_cons, List.length_nil, Nat.add_zero, Nat.zero_add, Nat.reduceAdd]); rfl)) ?_
              rintro _ _ rfl
              refine RL.nil ?_
              refine N.next ?_
              refine W.keep (.cons (k := 0) rfl (.cons (k := 1) rfl (.cons (k := 10) rfl (.cons (k := 11) rfl (.cons (k := 12) rfl (.cons (k := 13) rfl (.cons (k := 14) rfl (.cons (k := 15) rfl (.cons (k := 16) rfl .nil))))))))) (.cons (k := 0) rfl (.cons (k := 1) rfl (.cons (k := 2) rfl (.cons (k := 112) rfl (.cons (k := 114) rfl (.cons (k := 115) rfl (.cons (k := 116) rfl (.cons (k := 122) rfl (.cons (k := 140) rfl .nil))))))))) ?_
              refine W.seq ?_
              refine W.seq ?_
              refine W.region ?_
              refine RL.q (Yld.fieldAddr fo42_6 rfl) rfl ?_
              refine RL.q (Yld.load1 (c := 114) Try.underlying3 rfl rfl rfl (by first | exact single_self _ _ | exact pset_self _ _ _ | assumption) rfl) rfl ?_
              refine RL.q (Yld.bin rfl rfl BinV.geq) rfl ?_
              refine RL.q (Yld.move rfl) rfl ?_
              refine' RL.and (t := 126) (d := 131) 5 rfl (.cons (k := 0) rfl (.cons (k := 1) rfl (.cons (k := 10) rfl (.cons (k := 11) rfl (.cons (k := 12) rfl (.cons (k := 13) rfl (.cons (k := 14) rfl (.cons (k := 15) rfl (.cons (k := 16) rfl (.cons (k := 123) rfl (.cons (k := 124) rfl (.cons (k := 125) rfl .nil)))))))))))) (.cons (k := 0) rfl (.cons (k := 1) rfl (.cons (k := 2) rfl (.cons (k := 112) rfl (.cons (k := 114) rfl (.cons (k := 115) rfl (.cons (k := 116) rfl (.cons (k := 122) rfl (.cons (k := 140) rfl .nil))))))))) ?_ ?_ ?_
              rotate_left 1
              ·
                intro hg126
                refine RL.gq rfl rfl (Yld.loadW (c := 116) Try.underlying40 rfl sz40 rfl rfl (by first | exact single_self _ _ | exact pset_self _ _ _ | assumption) rfl) rfl ?_
                refine RL.gq rfl rfl (Yld.fieldAddr fo42_4 rfl) rfl ?_
                refine RL.gq rfl rfl (Yld.loadA (c := 114) Try.underlying40 rfl sz40 rfl rfl (by first | exact single_self _ _ | exact pset_self _ _ _ | assumption) rfl rfl) rfl ?_
                refine RL.gq rfl rfl (Yld.bin rfl rfl (BinV.neqT eqg40 (EqV.struct Try.underlying40 sih40 (EqF.cons rfl (PartV.one Try.underlying26 rfl rfl) (PartV.one Try.underlying26 rfl rfl) (EqV.int Try.underlying26) (EqF.cons rfl (PartV.one Try.underlying4 rfl rfl) (PartV.one Try.underlying4 rfl rfl) (EqV.bool Try.underlying4) (EqF.cons rfl (PartV.one Try.underlying2 rfl rfl) (PartV.one Try.underlying2 rfl rfl) (EqV.int Try.underlying2) EqF.nil)))))) rfl ?_
                refine RL.q (by first | exact Yld.pickT rfl rfl | exact Yld.pickF rfl rfl) rfl ?_
                exact RL.nil (N.meet (.cons rfl (.cons rfl (.cons rfl (.cons rfl (.cons rfl (.cons rfl (.cons rfl (.cons rfl (.cons rfl (.cons rfl (.cons rfl (.cons rfl (.cons rfl .nil))))))))))))) (.cons rfl (.cons rfl (.cons rfl (.cons rfl (.cons rfl (.cons rfl (.cons rfl (.cons rfl (.cons rfl .nil))))))))))
              ·
                intro hg126
                refine RL.gskip rfl rfl rfl rfl ?_
                refine RL.gskip rfl rfl rfl rfl ?_
                refine RL.gskip rfl rfl rfl rfl ?_
                refine RL.gskip rfl rfl rfl rfl ?_
                refine RL.q (by first | exact Yld.pickT rfl rfl | exact Yld.pickF rfl rfl) rfl ?_
                exact RL.nil (N.meet (.cons rfl (.cons rfl (.cons rfl (.cons rfl (.cons rfl (.cons rfl (.cons rfl (.cons rfl (.cons rfl (.cons rfl (.cons rfl (.cons rfl (.cons rfl .nil))))))))))))) (.cons rfl (.cons rfl (.cons rfl (.cons rfl (.cons rfl (.cons rfl (.cons rfl (.cons rfl (.cons rfl .nil))))))))))
              refine RL.nil ?_
              refine N.next ?_
              refine W.keep (.cons (k := 0) rfl (.cons (k := 1) rfl (.cons (k := 10) rfl (.cons (k := 11) rfl (.cons (k := 12) rfl (.cons (k := 13) rfl (.cons (k := 15) rfl (.cons (k := 131) rfl .nil)))))))) (.cons (k := 0) rfl (.cons (k := 1) rfl (.cons (k := 2) rfl (.cons (k := 112) rfl (.cons (k := 114) rfl (.cons (k := 115) rfl (.cons (k := 116) rfl (.cons (k := 122) rfl (.cons (k := 140) rfl .nil))))))))) ?_
              refine W.cond rfl (fun hc131 => ?_) (fun hc131 => ?_)
              ·
                have hnv : ¬ VerOK l ord := fun h => by
                  have h1 := h.ok hz ho
                  rw [heq] at h1
                  rw [okR_b.2 h1] at hc131; cases hc131
                refine W.seq ?_
                refine W.region ?_
                refine RL.q (Yld.assign rfl) rfl ?_
                refine RL.nil ?_
                refine N.next ?_
                refine W.keep (.cons (k := 4) rfl .nil) (.cons (k := 0) rfl (.cons (k := 1) rfl (.cons (k := 2) rfl (.cons (k := 112) rfl (.cons (k := 114) rfl (.cons (k := 115) rfl (.cons (k := 116) rfl (.cons (k := 122) rfl (.cons (k := 140) rfl .nil))))))))) ?_
                refine W.ret ?_
                refine N.then_ret ?_
                refine N.block_ret ?_
                refine N.then_ret ?_
                refine N.then_ret ?_
                refine N.block_ret ?_
                refine N.block_ret ?_
                refine N.then_ret ?_
                refine N.then_ret ?_
                refine N.block_ret ?_
                refine N.then_ret ?_
                exact N.retBy [1, 2] (.cons (.tmp rfl) .nil) rfl rfl rfl rfl ⟨by rw [verB_not hnv]; rfl, rfl⟩
              ·
                have hok : okR o (doL (repC l k (false, 0) (ord.take n)) o).2 := okR_b.1 hc131
                refine W.skip ?_
                refine N.next ?_
                refine W.region ?_
                refine RL.q (Yld.loadW (c := 115) Try.underlying59 rfl sz59 rfl rfl (by first | exact single_self _ _ | exact pset_self _ _ _ | assumption) rfl) rfl ?_
                refine RL.e0 (Eff.storeS (c := 112) _ sz59 rfl rfl rfl rfl rfl rfl rfl (by (try simp only [putAt, List.take, List.drop, List.nil_append, List.cons_append, List.append_nil, List.length_cons, List.length_nil, Nat.add_zero, Nat.zero_add, Nat.reduceAdd]); rfl)) ?_
                rintro _ _ rfl
                refine RL.nil ?_
                refine N.block_normal ?_
                refine N.next ?_
                refine W.region ?_
                refine RL.q (Yld.move rfl) rfl ?_
                refine RL.q (Yld.bin rfl rfl (by first | exact BinV.add (by omega) (by omega) | exact BinV.addW)) rfl ?_
                refine RL.q (Yld.assign rfl) rfl ?_
                refine RL.nil ?_
                exact N.famK (n + 1) ⟨⟨by omega, (rep_step hVs hz ho).2 ⟨hR, fun _ => hok⟩⟩, by omega⟩ (.as rfl (by first | rfl | (simp; done) | (congr 1; simp; done) | (congr 1; omega)) .nil) (.cons rfl (.cons rfl (.cons rfl (.cons rfl (.cons rfl .nil))))) (.as rfl (by rw [repC_step hz ho, if_pos heq]) .nil) (.cons rfl (.cons rfl (.cons rfl (.cons rfl (.cons rfl .nil)))))
          ·
            have hendn : n = ord.length := by omega
            have hrk : repK l k (false, 0) ord := by rw [hendn, List.take_length] at hR; exact hR
            refine W.exit ?_
            refine N.then_exit ?_
            refine N.then_exit ?_
            refine N.block_eq ?_
            refine N.block_normal ?_
            refine N.next ?_
            refine W.keep (.cons (k := 0) rfl (.cons (k := 1) rfl (.cons (k := 10) rfl (.cons (k := 11) rfl .nil)))) (.cons (k := 0) rfl (.cons (k := 1) rfl (.cons (k := 2) rfl (.cons (k := 112) rfl (.cons (k := 122) rfl (.cons (k := 140) rfl .nil)))))) ?_
            refine W.region ?_
            refine RL.q (Yld.move rfl) rfl ?_
            refine RL.q (Yld.bin rfl rfl (by first | exact BinV.add (by omega) (by omega) | exact BinV.addW)) rfl ?_
            refine RL.q (Yld.assign rfl) rfl ?_
            refine RL.nil ?_
            exact N.famK (j + 1) ⟨⟨by omega, kupd (P := fun k => repK l k (false, 0) ord) hK hk hrk⟩, by omega⟩ (.as rfl (by first | rfl | (simp; done) | (congr 1; simp; done) | (congr 1; omega)) .nil) (.cons rfl (.cons rfl (.cons rfl .nil))) .nil (.cons rfl (.cons rfl (.cons rfl (.cons rfl (.cons rfl .nil)))))
        ·
          have hendk : j = (keysO l).length := by omega
          have hver : VerOK l ord := VerOK.of hv hV (fun i a ha h0 => hA i a (by have := (List.getElem?_eq_some_iff.1 ha).1; omega) ha h0) (fun k => by
            by_cases hk : k ∈ keysO l
            · exact kall (P := fun k => repK l k (false, 0) ord) hK hendk k hk
            · exact repK_none hk)
          refine W.exit ?_
          refine N.then_exit ?_
          refine N.then_exit ?_
          refine N.block_eq ?_
          refine N.next ?_
          refine W.keep .nil (.cons (k := 0) rfl (.cons (k := 1) rfl (.cons (k := 2) rfl (.cons (k := 122) rfl (.cons (k := 140) rfl .nil))))) ?_
          refine W.seq ?_
          refine W.region ?_
          refine RL.q (Yld.assign rfl) rfl ?_
          refine RL.nil ?_
          refine N.next ?_
          refine W.ret ?_
          exact N.retBy [1, 2] (.cons (.tmp rfl) .nil) rfl rfl rfl rfl ⟨by rw [verB_iff.2 hver]; rfl, rfl⟩

end Go.Proofs.Ytbgppnkccbhbpaa
