/- ActTargets. Written by program (walk2.py). -/
import Derived.Test.YtdblglgnhjankaaDoorA15
namespace Go.Proofs.YtdblglgnhjankaaDoor
open SL Cfg
set_option linter.unusedVariables false
set_option linter.unusedSimpArgs false
theorem ent21 : Ent Tryd.prog 21 := ⟨_, _, Tryd.func21, by kernel_rfl, rfl⟩
set_option maxRecDepth 100000 in
set_option maxHeartbeats 3200000 in
theorem targets_ct (l : List Int) (H1 : PH) (p : Option Addr) (c : Nat) (hl : Sl H1 p c 1 (iz l)) (f t : Int) (hT : TabH H1) : Ct Tryd.prog 5 [.slice p l.length c, .int .i64 f, .int .i64 t] [H1] (fun v Hs => v = .bool true ∧ Hs = [H1]) := by
  refine Ct.body Tryd.func5 rfl Tryd.ntmps5 rfl ?_
  intro E F
  have hmxl := hl.len_le
  simp only [iz_len, maxLen] at hmxl
  have htl := tgL_len l f t
  refine W.seq ?_
  refine W.region ?_
  refine RL.q (Yld.assign rfl) rfl ?_
  refine RL.nil ?_
  refine N.next ?_
  refine W.seq ?_
  refine W.seq ?_
  refine W.region ?_
  refine RL.q (Yld.move rfl) rfl ?_
  refine RL.q (Yld.lenSl Tryd.underlying54 rfl) rfl ?_
  refine RL.q (Yld.bin rfl rfl BinV.gtr) rfl ?_
  refine RL.nil ?_
  refine N.next ?_
  first | refine W.condD rfl (fun hc18 => ?_) (fun hc18 => ?_) | (refine W.cond rfl (fun hc18 => ?_) (fun hc18 => ?_) <;> try simp only [Bool.or_eq_true, Bool.and_eq_true, Bool.not_eq_true', Bool.not_eq_false', decide_eq_true_eq, Bool.or_eq_false_iff, Bool.and_eq_false_iff, decide_eq_false_iff_not, beq_iff_eq, beq_eq_false_iff_ne, ne_eq, Decidable.not_not] at hc18)
  ·
    refine W.seq ?_
    refine W.region ?_
    refine RL.e (Eff.call ent11 [1] [1] .nil (awake_ct H1 hT) rfl rfl rfl rfl (by rintro _ _ ⟨_, rfl⟩; rfl)) rfl ?_
    rintro _ _ ⟨_, ⟨rfl, rfl⟩, rfl⟩
    refine RL.q (Yld.assign rfl) rfl ?_
    refine RL.nil ?_
    refine N.next ?_
    refine W.keep (.cons (k := 6) rfl .nil) (.cons (k := 0) rfl (.cons (k := 1) rfl .nil)) ?_
    refine W.ret ?_
    refine N.then_ret ?_
    exact N.retBy [1] (.cons (.tmp rfl) .nil) rfl rfl rfl rfl ⟨rfl, rfl⟩
  ·
    refine W.skip ?_
    refine N.next ?_
    refine W.keep (.cons (k := 0) rfl (.cons (k := 1) rfl (.cons (k := 2) rfl .nil))) (.cons (k := 0) rfl (.cons (k := 1) rfl .nil)) ?_
    refine W.seq ?_
    refine W.region ?_
    refine RL.q (Yld.move rfl) rfl ?_
    refine RL.q (Yld.move rfl) rfl ?_
    refine RL.q (Yld.move rfl) rfl ?_
    refine RL.e (Eff.call ent19 [1] [1, 130] (.cons rfl (.cons rfl (.cons rfl .nil))) (target_ct l _ _ _ hl (by omega) f t) rfl rfl rfl rfl (by rintro _ _ ⟨_, _, _, _, _, rfl⟩; rfl)) rfl ?_
    rintro _ _ ⟨_, ⟨Ha, pa, ca, rfl, hOa, rfl⟩, rfl⟩
    have hla := hOa.sl
    refine RL.q (Yld.assign rfl) rfl ?_
    refine RL.nil ?_
    refine N.next ?_
    refine W.keep (.cons (k := 0) rfl (.cons (k := 1) rfl (.cons (k := 2) rfl (.cons (k := 7) rfl .nil)))) (.cons (k := 0) rfl (.cons (k := 1) rfl (.cons (k := 130) rfl .nil))) ?_
    refine W.seq ?_
    refine W.seq ?_
    refine W.region ?_
    refine RL.q (Yld.move rfl) rfl ?_
    refine RL.q (Yld.move rfl) rfl ?_
    refine RL.q (Yld.move rfl) rfl ?_
    refine RL.q (Yld.move rfl) rfl ?_
    refine RL.e (Eff.call ent21 [1] [1, 131] (.cons rfl (.cons rfl (.cons rfl .nil))) (rtarget_ct l _ _ _ hl (by omega) f t) rfl rfl rfl rfl (by rintro _ _ ⟨_, _, _, _, _, rfl⟩; rfl)) rfl ?_
    rintro _ _ ⟨_, ⟨Hb, pb, cb, rfl, hOb, rfl⟩, rfl⟩
    refine RL.e (Eff.call ent20 [130, 131] [130, 131] (.cons rfl (.cons rfl .nil)) (rints_ct (tgL l f t) _ _ _ hOa.sl (tgL l f t) _ _ _ hOb.sl) rfl rfl rfl rfl (by rintro _ _ ⟨_, rfl⟩; rfl)) rfl ?_
    rintro _ _ ⟨_, ⟨rfl, rfl⟩, rfl⟩
    refine RL.q (by first | exact Yld.notD rfl | exact Yld.not rfl) rfl ?_
    refine RL.nil ?_
    refine N.next ?_
    refine W.keep (.cons (k := 0) rfl (.cons (k := 1) rfl (.cons (k := 2) rfl (.cons (k := 7) rfl (.cons (k := 30) rfl .nil))))) (.cons (k := 0) rfl (.cons (k := 1) rfl (.cons (k := 130) rfl (.cons (k := 131) rfl .nil)))) ?_
    refine W.cond rfl (fun hc30 => ?_) (fun hc30 => ?_)
    ·
      simp at hc30
    ·
      refine W.skip ?_
      refine N.next ?_
      refine W.seq ?_
      refine W.region ?_
      refine RL.q (Yld.assign rfl) rfl ?_
      refine RL.nil ?_
      refine N.next ?_
      refine W.seq ?_
      refine W.seq ?_
      refine W.region ?_
      refine RL.q (Yld.move rfl) rfl ?_
      refine RL.q (Yld.lenSl Tryd.underlying54 rfl) rfl ?_
      refine RL.q (Yld.move rfl) rfl ?_
      refine RL.nil ?_
      refine N.next ?_
      refine W.block ?_
      refine W.loopK (ι := Nat) (fun j => (j ≤ (tgL l f t).length)) (fun j => [(8, .bool (decide (t ∈ (tgL l f t).take j))), (33, .int .i64 (j : Nat))]) (fun j => []) (fun j => (tgL l f t).length - j) (.cons (k := 0) rfl (.cons (k := 1) rfl (.cons (k := 2) rfl (.cons (k := 7) rfl (.cons (k := 31) rfl (.cons (k := 32) rfl .nil)))))) (.cons (k := 0) rfl (.cons (k := 1) rfl (.cons (k := 130) rfl (.cons (k := 131) rfl .nil)))) 0 ?_ ?_ ?_ ?_
      · exact Nat.zero_le _
      · exact (.as rfl (by simp) (.as rfl (by first | rfl | (simp; done) | (congr 1; simp; done) | (congr 1; omega)) .nil))
      · exact .nil
      rintro j hj
      refine W.keep (.cons (k := 8) rfl (.cons (k := 33) rfl (.cons (k := 0) rfl (.cons (k := 1) rfl (.cons (k := 2) rfl (.cons (k := 7) rfl (.cons (k := 31) rfl (.cons (k := 32) rfl .nil)))))))) (.cons (k := 0) rfl (.cons (k := 1) rfl (.cons (k := 130) rfl (.cons (k := 131) rfl .nil)))) ?_
      refine W.seq ?_
      refine W.region ?_
      refine RL.q (Yld.bin rfl rfl BinV.lss) rfl ?_
      refine RL.nil ?_
      refine N.next ?_
      refine W.seq ?_
      first | refine W.condD rfl (fun hc34 => ?_) (fun hc34 => ?_) | (refine W.cond rfl (fun hc34 => ?_) (fun hc34 => ?_) <;> try simp only [Bool.or_eq_true, Bool.and_eq_true, Bool.not_eq_true', Bool.not_eq_false', decide_eq_true_eq, Bool.or_eq_false_iff, Bool.and_eq_false_iff, decide_eq_false_iff_not, beq_iff_eq, beq_eq_false_iff_ne, ne_eq, Decidable.not_not] at hc34)
      ·
        obtain ⟨z, hz, hlz⟩ := iz_at (show j < (tgL l f t).length by omega)
        refine W.skip ?_
        refine N.next ?_
        refine W.seq ?_
        refine W.block ?_
        refine W.seq ?_
        refine W.region ?_
        refine RL.q (Yld.move rfl) rfl ?_
        refine RL.q (Yld.indexRow Tryd.underlying54 sz3 rfl rfl (by first | assumption | exact Own.sl (by assumption)) (by first | rfl | omega | (simp; done) | (simp; omega)) (by omega) (by first | omega | (simp; done) | (simp; omega))) rfl ?_
        refine RL.q (by first | exact (by first | exact Yld.loadRow1 (cl := 1) Tryd.underlying3 rfl rfl rfl (by first | assumption | exact Own.sl (by assumption)) (by assumption) | exact Yld.loadRow1 (cl := 130) Tryd.underlying3 rfl rfl rfl (by first | assumption | exact Own.sl (by assumption)) (by assumption) | exact Yld.loadRow1 (cl := 131) Tryd.underlying3 rfl rfl rfl (by first | assumption | exact Own.sl (by assumption)) (by assumption)) | exact (by first | exact Yld.loadRowF (cl := 1) (j := 0) Tryd.underlying3 rfl rfl rfl (by first | assumption | exact Own.sl (by assumption)) (by assumption) rfl | exact Yld.loadRowF (cl := 130) (j := 0) Tryd.underlying3 rfl rfl rfl (by first | assumption | exact Own.sl (by assumption)) (by assumption) rfl | exact Yld.loadRowF (cl := 131) (j := 0) Tryd.underlying3 rfl rfl rfl (by first | assumption | exact Own.sl (by assumption)) (by assumption) rfl)) rfl ?_
        refine RL.q (Yld.assign rfl) rfl ?_
        refine RL.q (Yld.assign rfl) rfl ?_
        refine RL.nil ?_
        refine N.next ?_
        refine W.keep (.cons (k := 0) rfl (.cons (k := 1) rfl (.cons (k := 2) rfl (.cons (k := 7) rfl (.cons (k := 8) rfl (.cons (k := 9) rfl (.cons (k := 10) rfl (.cons (k := 31) rfl (.cons (k := 32) rfl (.cons (k := 33) rfl .nil)))))))))) (.cons (k := 0) rfl (.cons (k := 1) rfl (.cons (k := 130) rfl (.cons (k := 131) rfl .nil)))) ?_
        refine W.seq ?_
        refine W.seq ?_
        refine W.region ?_
        refine RL.q (Yld.move rfl) rfl ?_
        refine RL.q (Yld.bin rfl rfl BinV.gtr) rfl ?_
        refine RL.q (Yld.move rfl) rfl ?_
        refine' RL.and (t := 40) (d := 48) 8 rfl (.cons (k := 0) rfl (.cons (k := 1) rfl (.cons (k := 2) rfl (.cons (k := 7) rfl (.cons (k := 8) rfl (.cons (k := 9) rfl (.cons (k := 10) rfl (.cons (k := 31) rfl (.cons (k := 32) rfl (.cons (k := 33) rfl (.cons (k := 38) rfl (.cons (k := 39) rfl .nil)))))))))))) (.cons (k := 0) rfl (.cons (k := 1) rfl (.cons (k := 130) rfl (.cons (k := 131) rfl .nil)))) ?_ ?_ ?_
        rotate_left 1
        ·
          intro hg40
          have hg40 := of_decide_eq_true hg40
          have hki : ((j : Int) - 1).toNat = j - 1 := by omega
          have hlb : (iz (tgL l f t))[((j : Int) - 1).toNat]? = some [.int .i64 ((tgL l f t).getD (j - 1) 0)] := by rw [hki]; exact iz_getD (show j - 1 < (tgL l f t).length by omega)
          refine RL.gq rfl rfl (Yld.move rfl) rfl ?_
          refine RL.gq rfl rfl (Yld.move rfl) rfl ?_
          refine RL.gq rfl rfl (Yld.bin rfl rfl (by first | exact BinV.sub (by omega) (by omega) | exact BinV.subW)) rfl ?_
          refine RL.gq rfl rfl (Yld.indexRow Tryd.underlying54 sz3 rfl rfl (by first | assumption | exact Own.sl (by assumption)) (by first | rfl | omega | (simp; done) | (simp; omega)) (by omega) (by first | omega | (simp; done) | (simp; omega))) rfl ?_
          refine RL.gq rfl rfl (by first | exact (by first | exact Yld.loadRow1 (cl := 1) Tryd.underlying3 rfl rfl rfl (by first | assumption | exact Own.sl (by assumption)) (by assumption) | exact Yld.loadRow1 (cl := 130) Tryd.underlying3 rfl rfl rfl (by first | assumption | exact Own.sl (by assumption)) (by assumption) | exact Yld.loadRow1 (cl := 131) Tryd.underlying3 rfl rfl rfl (by first | assumption | exact Own.sl (by assumption)) (by assumption)) | exact (by first | exact Yld.loadRowF (cl := 1) (j := 0) Tryd.underlying3 rfl rfl rfl (by first | assumption | exact Own.sl (by assumption)) (by assumption) rfl | exact Yld.loadRowF (cl := 130) (j := 0) Tryd.underlying3 rfl rfl rfl (by first | assumption | exact Own.sl (by assumption)) (by assumption) rfl | exact Yld.loadRowF (cl := 131) (j := 0) Tryd.underlying3 rfl rfl rfl (by first | assumption | exact Own.sl (by assumption)) (by assumption) rfl)) rfl ?_
          refine RL.gq rfl rfl (Yld.move rfl) rfl ?_
          refine RL.gq rfl rfl (Yld.bin rfl rfl BinV.geq) rfl ?_
          refine RL.q (by first | exact Yld.pickT rfl rfl | exact Yld.pickF rfl rfl) rfl ?_
          exact RL.nil (N.meet (.cons rfl (.cons rfl (.cons rfl (.cons rfl (.cons rfl (.cons rfl (.cons rfl (.cons rfl (.cons rfl (.cons rfl (.cons rfl (.cons rfl (.cons rfl .nil))))))))))))) (.cons rfl (.cons rfl (.cons rfl (.cons rfl .nil)))))
        ·
          intro hg40
          refine RL.gskip rfl rfl rfl rfl ?_
          refine RL.gskip rfl rfl rfl rfl ?_
          refine RL.gskip rfl rfl rfl rfl ?_
          refine RL.gskip rfl rfl rfl rfl ?_
          refine RL.gskip rfl rfl rfl rfl ?_
          refine RL.gskip rfl rfl rfl rfl ?_
          refine RL.gskip rfl rfl rfl rfl ?_
          refine RL.q (by first | exact Yld.pickT rfl rfl | exact Yld.pickF rfl rfl) rfl ?_
          exact RL.nil (N.meet (.cons rfl (.cons rfl (.cons rfl (.cons rfl (.cons rfl (.cons rfl (.cons rfl (.cons rfl (.cons rfl (.cons rfl (.cons rfl (.cons rfl (.cons rfl .nil))))))))))))) (.cons rfl (.cons rfl (.cons rfl (.cons rfl .nil)))))
        refine RL.q (Yld.move rfl) rfl ?_
        refine' RL.or (t := 49) (d := 59) 10 rfl (.cons (k := 0) rfl (.cons (k := 1) rfl (.cons (k := 2) rfl (.cons (k := 7) rfl (.cons (k := 8) rfl (.cons (k := 9) rfl (.cons (k := 10) rfl (.cons (k := 31) rfl (.cons (k := 32) rfl (.cons (k := 33) rfl (.cons (k := 38) rfl (.cons (k := 39) rfl (.cons (k := 48) rfl .nil))))))))))))) (.cons (k := 0) rfl (.cons (k := 1) rfl (.cons (k := 130) rfl (.cons (k := 131) rfl .nil)))) ?_ ?_ ?_
        rotate_left 1
        ·
          intro hg49
          refine RL.gq rfl rfl (Yld.move rfl) rfl ?_
          refine RL.gq rfl rfl (Yld.move rfl) rfl ?_
          refine RL.gq rfl rfl (Yld.bin rfl rfl BinV.neq) rfl ?_
          refine RL.gq rfl rfl (Yld.move rfl) rfl ?_
          refine' RL.and (t := 53) (d := 58) 5 rfl (.cons (k := 0) rfl (.cons (k := 1) rfl (.cons (k := 2) rfl (.cons (k := 7) rfl (.cons (k := 8) rfl (.cons (k := 9) rfl (.cons (k := 10) rfl (.cons (k := 31) rfl (.cons (k := 32) rfl (.cons (k := 33) rfl (.cons (k := 38) rfl (.cons (k := 39) rfl (.cons (k := 48) rfl (.cons (k := 49) rfl (.cons (k := 50) rfl (.cons (k := 51) rfl (.cons (k := 52) rfl .nil))))))))))))))))) (.cons (k := 0) rfl (.cons (k := 1) rfl (.cons (k := 130) rfl (.cons (k := 131) rfl .nil)))) ?_ ?_ ?_
          rotate_left 1
          ·
            intro hg53
            refine RL.gq rfl rfl (Yld.move rfl) rfl ?_
            refine RL.gq rfl rfl (Yld.bin rfl rfl (by first | exact BinV.rem (by omega) (by omega) | exact BinV.remW (by omega))) rfl ?_
            refine RL.gq rfl rfl (Yld.move rfl) rfl ?_
            refine RL.gq rfl rfl (Yld.bin rfl rfl BinV.eql) rfl ?_
            refine RL.gq rfl rfl (by first | exact Yld.pickT rfl rfl | exact Yld.pickF rfl rfl) rfl ?_
            exact RL.nil (N.meet (.cons rfl (.cons rfl (.cons rfl (.cons rfl (.cons rfl (.cons rfl (.cons rfl (.cons rfl (.cons rfl (.cons rfl (.cons rfl (.cons rfl (.cons rfl (.cons rfl (.cons rfl (.cons rfl (.cons rfl (.cons rfl .nil)))))))))))))))))) (.cons rfl (.cons rfl (.cons rfl (.cons rfl .nil)))))
          ·
            intro hg53
            refine RL.gskip rfl rfl rfl rfl ?_
            refine RL.gskip rfl rfl rfl rfl ?_
            refine RL.gskip rfl rfl rfl rfl ?_
            refine RL.gskip rfl rfl rfl rfl ?_
            refine RL.gq rfl rfl (by first | exact Yld.pickT rfl rfl | exact Yld.pickF rfl rfl) rfl ?_
            exact RL.nil (N.meet (.cons rfl (.cons rfl (.cons rfl (.cons rfl (.cons rfl (.cons rfl (.cons rfl (.cons rfl (.cons rfl (.cons rfl (.cons rfl (.cons rfl (.cons rfl (.cons rfl (.cons rfl (.cons rfl (.cons rfl (.cons rfl .nil)))))))))))))))))) (.cons rfl (.cons rfl (.cons rfl (.cons rfl .nil)))))
          refine RL.q (by first | exact Yld.pickT rfl rfl | exact Yld.pickF rfl rfl) rfl ?_
          exact RL.nil (N.meet (.cons rfl (.cons rfl (.cons rfl (.cons rfl (.cons rfl (.cons rfl (.cons rfl (.cons rfl (.cons rfl (.cons rfl (.cons rfl (.cons rfl (.cons rfl (.cons rfl .nil)))))))))))))) (.cons rfl (.cons rfl (.cons rfl (.cons rfl .nil)))))
        ·
          intro hg49
          refine RL.gskip rfl rfl rfl rfl ?_
          refine RL.gskip rfl rfl rfl rfl ?_
          refine RL.gskip rfl rfl rfl rfl ?_
          refine RL.gskip rfl rfl rfl rfl ?_
          refine RL.gskipU rfl rfl rfl ?_
          refine RL.gskipU rfl rfl rfl ?_
          refine RL.gskipU rfl rfl rfl ?_
          refine RL.gskipU rfl rfl rfl ?_
          refine RL.gskip rfl rfl rfl rfl ?_
          refine RL.q (by first | exact Yld.pickT rfl rfl | exact Yld.pickF rfl rfl) rfl ?_
          exact RL.nil (N.meet (.cons rfl (.cons rfl (.cons rfl (.cons rfl (.cons rfl (.cons rfl (.cons rfl (.cons rfl (.cons rfl (.cons rfl (.cons rfl (.cons rfl (.cons rfl (.cons rfl .nil)))))))))))))) (.cons rfl (.cons rfl (.cons rfl (.cons rfl .nil)))))
        refine RL.nil ?_
        refine N.next ?_
        refine W.keep (.cons (k := 0) rfl (.cons (k := 1) rfl (.cons (k := 2) rfl (.cons (k := 7) rfl (.cons (k := 8) rfl (.cons (k := 10) rfl (.cons (k := 31) rfl (.cons (k := 32) rfl (.cons (k := 33) rfl (.cons (k := 59) rfl .nil)))))))))) (.cons (k := 0) rfl (.cons (k := 1) rfl (.cons (k := 130) rfl (.cons (k := 131) rfl .nil)))) ?_
        first | refine W.condD rfl (fun hc59 => ?_) (fun hc59 => ?_) | (refine W.cond rfl (fun hc59 => ?_) (fun hc59 => ?_) <;> try simp only [Bool.or_eq_true, Bool.and_eq_true, Bool.not_eq_true', Bool.not_eq_false', decide_eq_true_eq, Bool.or_eq_false_iff, Bool.and_eq_false_iff, decide_eq_false_iff_not, beq_iff_eq, beq_eq_false_iff_ne, ne_eq, Decidable.not_not] at hc59)
        ·
          have hso := tgL_sorted l f t
          rw [List.pairwise_iff_getElem] at hso
          exfalso
          rcases hc59 with ⟨h1, h2⟩ | ⟨h1, h2⟩
          · have hjl : j < (tgL l f t).length := by omega
            have h3 := hso (j - 1) j (by omega) hjl (by omega)
            rw [List.getD_eq_getElem?_getD, List.getElem?_eq_getElem (show j - 1 < (tgL l f t).length by omega)] at h2
            rw [List.getElem?_eq_getElem hjl] at hz
            cases hz
            simp at h2; omega
          · rcases tgL_mem.1 (List.mem_of_getElem? hz) with h3 | h3
            · exact h1 h3
            · exact h3.2 h2
        ·
          refine W.skip ?_
          refine N.next ?_
          refine W.region ?_
          refine RL.q (Yld.move rfl) rfl ?_
          refine RL.q (Yld.move rfl) rfl ?_
          refine' RL.or (t := 61) (d := 65) 4 rfl (.cons (k := 0) rfl (.cons (k := 1) rfl (.cons (k := 2) rfl (.cons (k := 7) rfl (.cons (k := 8) rfl (.cons (k := 10) rfl (.cons (k := 31) rfl (.cons (k := 32) rfl (.cons (k := 33) rfl (.cons (k := 59) rfl (.cons (k := 60) rfl .nil))))))))))) (.cons (k := 0) rfl (.cons (k := 1) rfl (.cons (k := 130) rfl (.cons (k := 131) rfl .nil)))) ?_ ?_ ?_
          rotate_left 1
          ·
            intro hg61
            refine RL.gq rfl rfl (Yld.move rfl) rfl ?_
            refine RL.gq rfl rfl (Yld.move rfl) rfl ?_
            refine RL.gq rfl rfl (Yld.bin rfl rfl BinV.eql) rfl ?_
            refine RL.q (by first | exact Yld.pickT rfl rfl | exact Yld.pickF rfl rfl) rfl ?_
            exact RL.nil (N.meet (.cons rfl (.cons rfl (.cons rfl (.cons rfl (.cons rfl (.cons rfl (.cons rfl (.cons rfl (.cons rfl (.cons rfl (.cons rfl (.cons rfl .nil)))))))))))) (.cons rfl (.cons rfl (.cons rfl (.cons rfl .nil)))))
          ·
            intro hg61
            refine RL.gskip rfl rfl rfl rfl ?_
            refine RL.gskip rfl rfl rfl rfl ?_
            refine RL.gskip rfl rfl rfl rfl ?_
            refine RL.q (by first | exact Yld.pickT rfl rfl | exact Yld.pickF rfl rfl) rfl ?_
            exact RL.nil (N.meet (.cons rfl (.cons rfl (.cons rfl (.cons rfl (.cons rfl (.cons rfl (.cons rfl (.cons rfl (.cons rfl (.cons rfl (.cons rfl (.cons rfl .nil)))))))))))) (.cons rfl (.cons rfl (.cons rfl (.cons rfl .nil)))))
          refine RL.q (Yld.assign rfl) rfl ?_
          refine RL.nil ?_
          refine N.block_normal ?_
          refine N.next ?_
          refine W.keep (.cons (k := 0) rfl (.cons (k := 1) rfl (.cons (k := 2) rfl (.cons (k := 7) rfl (.cons (k := 8) rfl (.cons (k := 31) rfl (.cons (k := 32) rfl (.cons (k := 33) rfl .nil)))))))) (.cons (k := 0) rfl (.cons (k := 1) rfl (.cons (k := 130) rfl (.cons (k := 131) rfl .nil)))) ?_
          refine W.region ?_
          refine RL.q (Yld.bin rfl rfl (by first | exact BinV.add (by omega) (by omega) | exact BinV.addW)) rfl ?_
          refine RL.q (Yld.move rfl) rfl ?_
          refine RL.nil ?_
          exact N.famK (j + 1) ⟨by omega, by omega⟩ (.as rfl (by show Value.bool _ = Value.bool _; rw [Value.bool.injEq, Bool.eq_iff_iff]; simp only [Bool.or_eq_true, decide_eq_true_eq, mem_take hz]) (.as rfl (by first | rfl | (simp; done) | (congr 1; simp; done) | (congr 1; omega)) .nil)) (.cons rfl (.cons rfl (.cons rfl (.cons rfl (.cons rfl (.cons rfl .nil)))))) .nil (.cons rfl (.cons rfl (.cons rfl (.cons rfl .nil))))
      ·
        have hend : j = (tgL l f t).length := by omega
        rw [hend, List.take_length]
        have htm : t ∈ (tgL l f t) := tgL_mem.2 (.inl rfl)
        rw [decide_eq_true htm]
        refine W.exit ?_
        refine N.then_exit ?_
        refine N.then_exit ?_
        refine N.block_eq ?_
        refine N.next ?_
        refine W.keep (.cons (k := 0) rfl (.cons (k := 1) rfl (.cons (k := 7) rfl (.cons (k := 8) rfl .nil)))) (.cons (k := 0) rfl (.cons (k := 1) rfl (.cons (k := 130) rfl (.cons (k := 131) rfl .nil)))) ?_
        refine W.seq ?_
        refine W.seq ?_
        refine W.region ?_
        refine RL.q (Yld.move rfl) rfl ?_
        refine RL.q (Yld.lenSl Tryd.underlying54 rfl) rfl ?_
        refine RL.q (Yld.move rfl) rfl ?_
        refine RL.nil ?_
        refine N.next ?_
        refine W.block ?_
        refine W.loopK (ι := Nat) (fun j => (j ≤ l.length)) (fun j => [(69, .int .i64 (j : Nat))]) (fun j => []) (fun j => l.length - j) (.cons (k := 1) rfl (.cons (k := 7) rfl (.cons (k := 8) rfl (.cons (k := 67) rfl (.cons (k := 68) rfl .nil))))) (.cons (k := 0) rfl (.cons (k := 1) rfl (.cons (k := 130) rfl (.cons (k := 131) rfl .nil)))) 0 ?_ ?_ ?_ ?_
        · exact Nat.zero_le _
        · exact (.as rfl (by first | rfl | (simp; done) | (congr 1; simp; done) | (congr 1; omega)) .nil)
        · exact .nil
        rintro j hj
        refine W.keep (.cons (k := 69) rfl (.cons (k := 1) rfl (.cons (k := 7) rfl (.cons (k := 8) rfl (.cons (k := 67) rfl (.cons (k := 68) rfl .nil)))))) (.cons (k := 0) rfl (.cons (k := 1) rfl (.cons (k := 130) rfl (.cons (k := 131) rfl .nil)))) ?_
        refine W.seq ?_
        refine W.region ?_
        refine RL.q (Yld.bin rfl rfl BinV.lss) rfl ?_
        refine RL.nil ?_
        refine N.next ?_
        refine W.seq ?_
        first | refine W.condD rfl (fun hc70 => ?_) (fun hc70 => ?_) | (refine W.cond rfl (fun hc70 => ?_) (fun hc70 => ?_) <;> try simp only [Bool.or_eq_true, Bool.and_eq_true, Bool.not_eq_true', Bool.not_eq_false', decide_eq_true_eq, Bool.or_eq_false_iff, Bool.and_eq_false_iff, decide_eq_false_iff_not, beq_iff_eq, beq_eq_false_iff_ne, ne_eq, Decidable.not_not] at hc70)
        ·
          obtain ⟨u, hu, hlu⟩ := iz_at (show j < l.length by omega)
          refine W.skip ?_
          refine N.next ?_
          refine W.seq ?_
          refine W.block ?_
          refine W.seq ?_
          refine W.region ?_
          refine RL.q (Yld.indexRow Tryd.underlying54 sz3 rfl rfl (by first | assumption | exact Own.sl (by assumption)) (by first | rfl | omega | (simp; done) | (simp; omega)) (by omega) (by first | omega | (simp; done) | (simp; omega))) rfl ?_
          refine RL.q (by first | exact (by first | exact Yld.loadRow1 (cl := 1) Tryd.underlying3 rfl rfl rfl (by first | assumption | exact Own.sl (by assumption)) (by assumption) | exact Yld.loadRow1 (cl := 130) Tryd.underlying3 rfl rfl rfl (by first | assumption | exact Own.sl (by assumption)) (by assumption) | exact Yld.loadRow1 (cl := 131) Tryd.underlying3 rfl rfl rfl (by first | assumption | exact Own.sl (by assumption)) (by assumption)) | exact (by first | exact Yld.loadRowF (cl := 1) (j := 0) Tryd.underlying3 rfl rfl rfl (by first | assumption | exact Own.sl (by assumption)) (by assumption) rfl | exact Yld.loadRowF (cl := 130) (j := 0) Tryd.underlying3 rfl rfl rfl (by first | assumption | exact Own.sl (by assumption)) (by assumption) rfl | exact Yld.loadRowF (cl := 131) (j := 0) Tryd.underlying3 rfl rfl rfl (by first | assumption | exact Own.sl (by assumption)) (by assumption) rfl)) rfl ?_
          refine RL.q (Yld.assign rfl) rfl ?_
          refine RL.nil ?_
          refine N.next ?_
          refine W.seq ?_
          refine W.region ?_
          refine RL.q (Yld.assign rfl) rfl ?_
          refine RL.nil ?_
          refine N.next ?_
          refine W.seq ?_
          refine W.seq ?_
          refine W.region ?_
          refine RL.q (Yld.move rfl) rfl ?_
          refine RL.q (Yld.lenSl Tryd.underlying54 rfl) rfl ?_
          refine RL.q (Yld.move rfl) rfl ?_
          refine RL.nil ?_
          refine N.next ?_
          refine W.block ?_
          refine W.loopK (ι := Nat) (fun k => (k ≤ (tgL l f t).length)) (fun k => [(13, .bool (decide (u ∈ (tgL l f t).take k))), (75, .int .i64 (k : Nat))]) (fun k => []) (fun k => (tgL l f t).length - k) (.cons (k := 1) rfl (.cons (k := 7) rfl (.cons (k := 8) rfl (.cons (k := 12) rfl (.cons (k := 67) rfl (.cons (k := 68) rfl (.cons (k := 69) rfl (.cons (k := 73) rfl (.cons (k := 74) rfl .nil))))))))) (.cons (k := 0) rfl (.cons (k := 1) rfl (.cons (k := 130) rfl (.cons (k := 131) rfl .nil)))) 0 ?_ ?_ ?_ ?_
          · exact Nat.zero_le _
          · exact (.as rfl (by simp) (.as rfl (by first | rfl | (simp; done) | (congr 1; simp; done) | (congr 1; omega)) .nil))
          · exact .nil
          rintro k hk
          refine W.keep (.cons (k := 13) rfl (.cons (k := 75) rfl (.cons (k := 1) rfl (.cons (k := 7) rfl (.cons (k := 8) rfl (.cons (k := 12) rfl (.cons (k := 67) rfl (.cons (k := 68) rfl (.cons (k := 69) rfl (.cons (k := 73) rfl (.cons (k := 74) rfl .nil))))))))))) (.cons (k := 0) rfl (.cons (k := 1) rfl (.cons (k := 130) rfl (.cons (k := 131) rfl .nil)))) ?_
          refine W.seq ?_
          refine W.region ?_
          refine RL.q (Yld.bin rfl rfl BinV.lss) rfl ?_
          refine RL.nil ?_
          refine N.next ?_
          refine W.seq ?_
          first | refine W.condD rfl (fun hc76 => ?_) (fun hc76 => ?_) | (refine W.cond rfl (fun hc76 => ?_) (fun hc76 => ?_) <;> try simp only [Bool.or_eq_true, Bool.and_eq_true, Bool.not_eq_true', Bool.not_eq_false', decide_eq_true_eq, Bool.or_eq_false_iff, Bool.and_eq_false_iff, decide_eq_false_iff_not, beq_iff_eq, beq_eq_false_iff_ne, ne_eq, Decidable.not_not] at hc76)
          ·
            obtain ⟨v, hv, hlv⟩ := iz_at (show k < (tgL l f t).length by omega)
            refine W.skip ?_
            refine N.next ?_
            refine W.seq ?_
            refine W.block ?_
            refine W.seq ?_
            refine W.region ?_
            refine RL.q (Yld.indexRow Tryd.underlying54 sz3 rfl rfl (by first | assumption | exact Own.sl (by assumption)) (by first | rfl | omega | (simp; done) | (simp; omega)) (by omega) (by first | omega | (simp; done) | (simp; omega))) rfl ?_
            refine RL.q (by first | exact (by first | exact Yld.loadRow1 (cl := 1) Tryd.underlying3 rfl rfl rfl (by first | assumption | exact Own.sl (by assumption)) (by assumption) | exact Yld.loadRow1 (cl := 130) Tryd.underlying3 rfl rfl rfl (by first | assumption | exact Own.sl (by assumption)) (by assumption) | exact Yld.loadRow1 (cl := 131) Tryd.underlying3 rfl rfl rfl (by first | assumption | exact Own.sl (by assumption)) (by assumption)) | exact (by first | exact Yld.loadRowF (cl := 1) (j := 0) Tryd.underlying3 rfl rfl rfl (by first | assumption | exact Own.sl (by assumption)) (by assumption) rfl | exact Yld.loadRowF (cl := 130) (j := 0) Tryd.underlying3 rfl rfl rfl (by first | assumption | exact Own.sl (by assumption)) (by assumption) rfl | exact Yld.loadRowF (cl := 131) (j := 0) Tryd.underlying3 rfl rfl rfl (by first | assumption | exact Own.sl (by assumption)) (by assumption) rfl)) rfl ?_
            refine RL.q (Yld.assign rfl) rfl ?_
            refine RL.nil ?_
            refine N.next ?_
            refine W.region ?_
            refine RL.q (Yld.move rfl) rfl ?_
            refine RL.q (Yld.move rfl) rfl ?_
            refine' RL.or (t := 80) (d := 84) 4 rfl (.cons (k := 1) rfl (.cons (k := 7) rfl (.cons (k := 8) rfl (.cons (k := 12) rfl (.cons (k := 13) rfl (.cons (k := 15) rfl (.cons (k := 67) rfl (.cons (k := 68) rfl (.cons (k := 69) rfl (.cons (k := 73) rfl (.cons (k := 74) rfl (.cons (k := 75) rfl (.cons (k := 76) rfl (.cons (k := 77) rfl (.cons (k := 78) rfl (.cons (k := 79) rfl .nil)))))))))))))))) (.cons (k := 0) rfl (.cons (k := 1) rfl (.cons (k := 130) rfl (.cons (k := 131) rfl .nil)))) ?_ ?_ ?_
            rotate_left 1
            ·
              intro hg80
              refine RL.gq rfl rfl (Yld.move rfl) rfl ?_
              refine RL.gq rfl rfl (Yld.move rfl) rfl ?_
              refine RL.gq rfl rfl (Yld.bin rfl rfl BinV.eql) rfl ?_
              refine RL.q (by first | exact Yld.pickT rfl rfl | exact Yld.pickF rfl rfl) rfl ?_
              exact RL.nil (N.meet (.cons rfl (.cons rfl (.cons rfl (.cons rfl (.cons rfl (.cons rfl (.cons rfl (.cons rfl (.cons rfl (.cons rfl (.cons rfl (.cons rfl (.cons rfl (.cons rfl (.cons rfl (.cons rfl (.cons rfl .nil))))))))))))))))) (.cons rfl (.cons rfl (.cons rfl (.cons rfl .nil)))))
            ·
              intro hg80
              refine RL.gskip rfl rfl rfl rfl ?_
              refine RL.gskip rfl rfl rfl rfl ?_
              refine RL.gskip rfl rfl rfl rfl ?_
              refine RL.q (by first | exact Yld.pickT rfl rfl | exact Yld.pickF rfl rfl) rfl ?_
              exact RL.nil (N.meet (.cons rfl (.cons rfl (.cons rfl (.cons rfl (.cons rfl (.cons rfl (.cons rfl (.cons rfl (.cons rfl (.cons rfl (.cons rfl (.cons rfl (.cons rfl (.cons rfl (.cons rfl (.cons rfl (.cons rfl .nil))))))))))))))))) (.cons rfl (.cons rfl (.cons rfl (.cons rfl .nil)))))
            refine RL.q (Yld.assign rfl) rfl ?_
            refine RL.nil ?_
            refine N.block_normal ?_
            refine N.next ?_
            refine W.keep (.cons (k := 1) rfl (.cons (k := 7) rfl (.cons (k := 8) rfl (.cons (k := 12) rfl (.cons (k := 13) rfl (.cons (k := 67) rfl (.cons (k := 68) rfl (.cons (k := 69) rfl (.cons (k := 73) rfl (.cons (k := 74) rfl (.cons (k := 75) rfl .nil))))))))))) (.cons (k := 0) rfl (.cons (k := 1) rfl (.cons (k := 130) rfl (.cons (k := 131) rfl .nil)))) ?_
            refine W.region ?_
            refine RL.q (Yld.bin rfl rfl (by first | exact BinV.add (by omega) (by omega) | exact BinV.addW)) rfl ?_
            refine RL.q (Yld.move rfl) rfl ?_
            refine RL.nil ?_
            exact N.famK (k + 1) ⟨by omega, by omega⟩ (.as rfl (by show Value.bool _ = Value.bool _; rw [Value.bool.injEq, Bool.eq_iff_iff]; simp only [Bool.or_eq_true, decide_eq_true_eq, mem_take hv]) (.as rfl (by first | rfl | (simp; done) | (congr 1; simp; done) | (congr 1; omega)) .nil)) (.cons rfl (.cons rfl (.cons rfl (.cons rfl (.cons rfl (.cons rfl (.cons rfl (.cons rfl (.cons rfl .nil))))))))) .nil (.cons rfl (.cons rfl (.cons rfl (.cons rfl .nil))))
          ·
            have hkend : k = (tgL l f t).length := by omega
            rw [hkend, List.take_length]
            refine W.exit ?_
            refine N.then_exit ?_
            refine N.then_exit ?_
            refine N.block_eq ?_
            refine N.next ?_
            refine W.keep (.cons (k := 1) rfl (.cons (k := 7) rfl (.cons (k := 8) rfl (.cons (k := 12) rfl (.cons (k := 13) rfl (.cons (k := 67) rfl (.cons (k := 68) rfl (.cons (k := 69) rfl .nil)))))))) (.cons (k := 0) rfl (.cons (k := 1) rfl (.cons (k := 130) rfl (.cons (k := 131) rfl .nil)))) ?_
            refine W.seq ?_
            refine W.region ?_
            refine RL.q (Yld.move rfl) rfl ?_
            refine RL.q (by first | exact Yld.notD rfl | exact Yld.not rfl) rfl ?_
            refine RL.q (Yld.move rfl) rfl ?_
            refine' RL.and (t := 88) (d := 93) 5 rfl (.cons (k := 1) rfl (.cons (k := 7) rfl (.cons (k := 8) rfl (.cons (k := 12) rfl (.cons (k := 13) rfl (.cons (k := 67) rfl (.cons (k := 68) rfl (.cons (k := 69) rfl (.cons (k := 86) rfl (.cons (k := 87) rfl .nil)))))))))) (.cons (k := 0) rfl (.cons (k := 1) rfl (.cons (k := 130) rfl (.cons (k := 131) rfl .nil)))) ?_ ?_ ?_
            rotate_left 1
            ·
              intro hg88
              refine RL.gq rfl rfl (Yld.move rfl) rfl ?_
              refine RL.gq rfl rfl (Yld.bin rfl rfl (by first | exact BinV.rem (by omega) (by omega) | exact BinV.remW (by omega))) rfl ?_
              refine RL.gq rfl rfl (Yld.move rfl) rfl ?_
              refine RL.gq rfl rfl (Yld.bin rfl rfl BinV.neq) rfl ?_
              refine RL.q (by first | exact Yld.pickT rfl rfl | exact Yld.pickF rfl rfl) rfl ?_
              exact RL.nil (N.meet (.cons rfl (.cons rfl (.cons rfl (.cons rfl (.cons rfl (.cons rfl (.cons rfl (.cons rfl (.cons rfl (.cons rfl (.cons rfl .nil))))))))))) (.cons rfl (.cons rfl (.cons rfl (.cons rfl .nil)))))
            ·
              intro hg88
              refine RL.gskip rfl rfl rfl rfl ?_
              refine RL.gskip rfl rfl rfl rfl ?_
              refine RL.gskip rfl rfl rfl rfl ?_
              refine RL.gskip rfl rfl rfl rfl ?_
              refine RL.q (by first | exact Yld.pickT rfl rfl | exact Yld.pickF rfl rfl) rfl ?_
              exact RL.nil (N.meet (.cons rfl (.cons rfl (.cons rfl (.cons rfl (.cons rfl (.cons rfl (.cons rfl (.cons rfl (.cons rfl (.cons rfl (.cons rfl .nil))))))))))) (.cons rfl (.cons rfl (.cons rfl (.cons rfl .nil)))))
            refine RL.nil ?_
            refine N.next ?_
            refine W.keep (.cons (k := 1) rfl (.cons (k := 7) rfl (.cons (k := 8) rfl (.cons (k := 67) rfl (.cons (k := 68) rfl (.cons (k := 69) rfl (.cons (k := 93) rfl .nil))))))) (.cons (k := 0) rfl (.cons (k := 1) rfl (.cons (k := 130) rfl (.cons (k := 131) rfl .nil)))) ?_
            first | refine W.condD rfl (fun hc93 => ?_) (fun hc93 => ?_) | (refine W.cond rfl (fun hc93 => ?_) (fun hc93 => ?_) <;> try simp only [Bool.or_eq_true, Bool.and_eq_true, Bool.not_eq_true', Bool.not_eq_false', decide_eq_true_eq, Bool.or_eq_false_iff, Bool.and_eq_false_iff, decide_eq_false_iff_not, beq_iff_eq, beq_eq_false_iff_ne, ne_eq, Decidable.not_not] at hc93)
            ·
              exact absurd (tgL_mem.2 (.inr ⟨List.mem_of_getElem? hu, hc93.2⟩)) hc93.1
            ·
              refine W.skip ?_
              refine N.block_normal ?_
              refine N.next ?_
              refine W.region ?_
              refine RL.q (Yld.bin rfl rfl (by first | exact BinV.add (by omega) (by omega) | exact BinV.addW)) rfl ?_
              refine RL.q (Yld.move rfl) rfl ?_
              refine RL.nil ?_
              exact N.famK (j + 1) ⟨by omega, by omega⟩ (.as rfl (by first | rfl | (simp; done) | (congr 1; simp; done) | (congr 1; omega)) .nil) (.cons rfl (.cons rfl (.cons rfl (.cons rfl (.cons rfl .nil))))) .nil (.cons rfl (.cons rfl (.cons rfl (.cons rfl .nil))))
        ·
          refine W.exit ?_
          refine N.then_exit ?_
          refine N.then_exit ?_
          refine N.block_eq ?_
          refine N.next ?_
          refine W.keep (.cons (k := 8) rfl .nil) (.cons (k := 0) rfl (.cons (k := 1) rfl (.cons (k := 130) rfl (.cons (k := 131) rfl .nil)))) ?_
          refine W.seq ?_
          refine W.region ?_
          refine RL.q (Yld.move rfl) rfl ?_
          refine RL.q (Yld.move rfl) rfl ?_
          refine' RL.and (t := 96) (d := 98) 2 rfl (.cons (k := 8) rfl (.cons (k := 95) rfl .nil)) (.cons (k := 0) rfl (.cons (k := 1) rfl (.cons (k := 130) rfl (.cons (k := 131) rfl .nil)))) ?_ ?_ ?_
          rotate_left 1
          ·
            intro hg96
            refine RL.ge rfl rfl (Eff.call ent11 [1] [1] .nil (awake_ct H1 hT) rfl rfl rfl rfl (by rintro _ _ ⟨_, rfl⟩; rfl)) rfl ?_
            rintro _ _ ⟨_, ⟨rfl, rfl⟩, rfl⟩
            refine RL.q (by first | exact Yld.pickT rfl rfl | exact Yld.pickF rfl rfl) rfl ?_
            exact RL.nil (N.meet (.cons rfl (.cons rfl (.cons rfl .nil))) (.cons rfl (.cons rfl (.cons rfl (.cons rfl .nil)))))
          ·
            intro hg96
            refine RL.gskip rfl rfl rfl rfl ?_
            refine RL.q (by first | exact Yld.pickT rfl rfl | exact Yld.pickF rfl rfl) rfl ?_
            exact RL.nil (N.meet (.cons rfl (.cons rfl (.cons rfl .nil))) (.cons rfl (.cons rfl (.cons rfl (.cons rfl .nil)))))
          refine RL.q (Yld.assign rfl) rfl ?_
          refine RL.nil ?_
          refine N.next ?_
          refine W.ret ?_
          exact N.retBy [1] (.cons (.tmp rfl) .nil) rfl rfl rfl rfl ⟨rfl, rfl⟩

end Go.Proofs.YtdblglgnhjankaaDoor
