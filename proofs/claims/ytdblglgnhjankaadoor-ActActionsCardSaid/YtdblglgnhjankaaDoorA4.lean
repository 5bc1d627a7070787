/- Phases and the closures of actions. Written by program (walk2.py). -/
import Derived.Test.YtdblglgnhjankaaDoorA3
namespace Go.Proofs.YtdblglgnhjankaaDoor
open SL Cfg
set_option linter.unusedVariables false
set_option linter.unusedSimpArgs false
theorem fo84_1 : fieldOff Tryd.prog 84 1 = some 1 := by kernel_rfl
theorem fo84_2 : fieldOff Tryd.prog 84 2 = some 2 := by kernel_rfl
theorem sz29 : sz Tryd.prog 29 11 := (by kernel_rfl : (Tryd.prog.info? 29).map (·.size) = some 11)
theorem sz84 : sz Tryd.prog 84 3 := (by kernel_rfl : (Tryd.prog.info? 84).map (·.size) = some 3)
theorem ent61 : Ent Tryd.prog 61 := ⟨_, _, Tryd.func61, by kernel_rfl, rfl⟩
theorem ent64 : Ent Tryd.prog 64 := ⟨_, _, Tryd.func64, by kernel_rfl, rfl⟩
theorem zc44 : zc Tryd.prog 44 [.int .i64 0, .int .i64 0, .int .i64 0, .int .i64 0, .int .i64 0, .int .i64 0, .int .i64 0, .int .i64 0, .int .i64 0] := (by kernel_rfl : ((Tryd.prog.info? 44).bind (·.zero)).map (fun v => v.cells.toList) = some [.int .i64 0, .int .i64 0, .int .i64 0, .int .i64 0, .int .i64 0, .int .i64 0, .int .i64 0, .int .i64 0, .int .i64 0])
theorem lay42 : layS Tryd.prog 42 = some ([.int .i64 0, .int .i64 0, .int .i64 0, .int .i64 0], [(0, 1), (1, 1), (2, 1), (3, 1)]) := by kernel_rfl
theorem lay44 : layS Tryd.prog 44 = some ([.int .i64 0, .int .i64 0, .int .i64 0, .int .i64 0, .int .i64 0, .int .i64 0, .int .i64 0, .int .i64 0, .int .i64 0], [(0, 1), (1, 1), (2, 1), (3, 1), (4, 1), (5, 4)]) := by kernel_rfl
theorem sz44 : sz Tryd.prog 44 9 := (by kernel_rfl : (Tryd.prog.info? 44).map (·.size) = some 9)
theorem fo49_2 : fieldOff Tryd.prog 49 2 = some 2 := by kernel_rfl
set_option maxRecDepth 100000 in
set_option maxHeartbeats 1600000 in
theorem phases_ct (m : Md) (x : Mv) (H1 : PH) (hm : m.In H1) : Ct Tryd.prog 33 [.agg [.slice m.a0 m.n0 m.c0, .slice m.a1 m.n1 m.c1, .slice m.a2 m.n2 m.c2, .slice m.pm m.ms.length m.cm, .slice m.a4 m.n4 m.c4, .slice m.pi m.is.length m.ci, .int .i64 m.d0, .int .i64 m.d1, .int .i64 m.d2, .int .i64 m.d3, .slice m.a5 m.n5 m.c5].toArray, .agg [.int .i64 x.i, .int .i64 x.f, .int .i64 x.t].toArray] [H1] (fun v Hs => v = .tuple #[.int .i64 (phs (kindOf m.is x.i) x).1, .int .i64 (phs (kindOf m.is x.i) x).2.1, .int .i64 (phs (kindOf m.is x.i) x).2.2] ∧ Hs = [H1]) := by
  refine Ct.body Tryd.func33 rfl Tryd.ntmps33 rfl ?_
  intro E F
  refine W.seq ?_
  refine W.region ?_
  refine RL.e (Eff.box 102 _ rfl rfl) rfl ?_
  rintro _ _ ⟨b2, rfl, rfl⟩
  refine RL.e (Eff.box 103 _ rfl rfl) rfl ?_
  rintro _ _ ⟨b3, rfl, rfl⟩
  refine RL.q (Yld.assign rfl) rfl ?_
  refine RL.q (Yld.assign rfl) rfl ?_
  refine RL.q (Yld.assign rfl) rfl ?_
  refine RL.nil ?_
  refine N.next ?_
  refine W.keep (.cons (k := 2) rfl (.cons (k := 3) rfl .nil)) (.cons (k := 0) rfl (.cons (k := 1) rfl (.cons (k := 102) rfl (.cons (k := 103) rfl .nil)))) ?_
  refine W.seq ?_
  refine W.region ?_
  refine RL.q (Yld.fieldAddr fo84_1 rfl) rfl ?_
  refine RL.q (Yld.load1 (c := 103) Tryd.underlying3 rfl rfl rfl (by first | exact single_self _ _ | exact pset_self _ _ _ | assumption) rfl) rfl ?_
  refine RL.q (Yld.bin rfl rfl BinV.neq) rfl ?_
  refine RL.q (Yld.move rfl) rfl ?_
  refine' RL.and (t := 12) (d := 16) 4 rfl (.cons (k := 2) rfl (.cons (k := 3) rfl (.cons (k := 9) rfl (.cons (k := 10) rfl (.cons (k := 11) rfl .nil))))) (.cons (k := 0) rfl (.cons (k := 1) rfl (.cons (k := 102) rfl (.cons (k := 103) rfl .nil)))) ?_ ?_ ?_
  rotate_left 1
  ·
    intro hg12
    refine RL.gq rfl rfl (Yld.fieldAddr fo84_2 rfl) rfl ?_
    refine RL.gq rfl rfl (Yld.load1 (c := 103) Tryd.underlying3 rfl rfl rfl (by first | exact single_self _ _ | exact pset_self _ _ _ | assumption) rfl) rfl ?_
    refine RL.gq rfl rfl (Yld.bin rfl rfl BinV.neq) rfl ?_
    refine RL.q (by first | exact Yld.pickT rfl rfl | exact Yld.pickF rfl rfl) rfl ?_
    exact RL.nil (N.meet (.cons rfl (.cons rfl (.cons rfl (.cons rfl (.cons rfl (.cons rfl .nil)))))) (.cons rfl (.cons rfl (.cons rfl (.cons rfl .nil)))))
  ·
    intro hg12
    refine RL.gskip rfl rfl rfl rfl ?_
    refine RL.gskip rfl rfl rfl rfl ?_
    refine RL.gskip rfl rfl rfl rfl ?_
    refine RL.q (by first | exact Yld.pickT rfl rfl | exact Yld.pickF rfl rfl) rfl ?_
    exact RL.nil (N.meet (.cons rfl (.cons rfl (.cons rfl (.cons rfl (.cons rfl (.cons rfl .nil)))))) (.cons rfl (.cons rfl (.cons rfl (.cons rfl .nil)))))
  refine RL.q (Yld.assign rfl) rfl ?_
  refine RL.nil ?_
  refine N.next ?_
  refine W.keep (.cons (k := 2) rfl (.cons (k := 3) rfl (.cons (k := 7) rfl .nil))) (.cons (k := 0) rfl (.cons (k := 1) rfl (.cons (k := 102) rfl (.cons (k := 103) rfl .nil)))) ?_
  refine W.seq ?_
  refine W.seq ?_
  refine W.region ?_
  refine RL.q (Yld.loadW (c := 102) Tryd.underlying29 rfl sz29 rfl rfl (by first | exact single_self _ _ | exact pset_self _ _ _ | assumption) rfl) rfl ?_
  refine RL.q (Yld.loadW (c := 103) Tryd.underlying84 rfl sz84 rfl rfl (by first | exact single_self _ _ | exact pset_self _ _ _ | assumption) rfl) rfl ?_
  refine RL.e (Eff.call ent61 [1] [1] (.cons rfl (.cons rfl .nil)) (kind_ct m x H1 hm) rfl rfl rfl rfl (by rintro _ _ ⟨_, rfl⟩; rfl)) rfl ?_
  rintro _ _ ⟨_, ⟨rfl, rfl⟩, rfl⟩
  obtain ⟨k, hk⟩ : ∃ k, kindOf m.is x.i = k := ⟨_, rfl⟩
  rw [hk]
  refine RL.q (Yld.assign rfl) rfl ?_
  refine RL.nil ?_
  refine N.next ?_
  refine W.keep (.cons (k := 3) rfl (.cons (k := 7) rfl (.cons (k := 8) rfl .nil))) (.cons (k := 0) rfl (.cons (k := 1) rfl (.cons (k := 102) rfl (.cons (k := 103) rfl .nil)))) ?_
  refine W.block ?_
  refine W.seq ?_
  refine W.region ?_
  refine RL.q (Yld.move rfl) rfl ?_
  refine RL.q (Yld.bin rfl rfl BinV.eql) rfl ?_
  refine RL.q (Yld.move rfl) rfl ?_
  refine' RL.and (t := 23) (d := 25) 2 rfl (.cons (k := 3) rfl (.cons (k := 7) rfl (.cons (k := 8) rfl (.cons (k := 21) rfl (.cons (k := 22) rfl .nil))))) (.cons (k := 0) rfl (.cons (k := 1) rfl (.cons (k := 102) rfl (.cons (k := 103) rfl .nil)))) ?_ ?_ ?_
  rotate_left 1
  ·
    intro hg23
    refine RL.gq rfl rfl (Yld.move rfl) rfl ?_
    refine RL.q (by first | exact Yld.pickT rfl rfl | exact Yld.pickF rfl rfl) rfl ?_
    exact RL.nil (N.meet (.cons rfl (.cons rfl (.cons rfl (.cons rfl (.cons rfl (.cons rfl .nil)))))) (.cons rfl (.cons rfl (.cons rfl (.cons rfl .nil)))))
  ·
    intro hg23
    refine RL.gskip rfl rfl rfl rfl ?_
    refine RL.q (by first | exact Yld.pickT rfl rfl | exact Yld.pickF rfl rfl) rfl ?_
    exact RL.nil (N.meet (.cons rfl (.cons rfl (.cons rfl (.cons rfl (.cons rfl (.cons rfl .nil)))))) (.cons rfl (.cons rfl (.cons rfl (.cons rfl .nil)))))
  refine RL.q (Yld.assign rfl) rfl ?_
  refine RL.nil ?_
  refine N.next ?_
  first | refine W.condD rfl (fun hc20 => ?_) (fun hc20 => ?_) | (refine W.cond rfl (fun hc20 => ?_) (fun hc20 => ?_) <;> try simp only [Bool.or_eq_true, Bool.and_eq_true, Bool.not_eq_true', Bool.not_eq_false', decide_eq_true_eq, Bool.or_eq_false_iff, Bool.and_eq_false_iff, decide_eq_false_iff_not, beq_iff_eq, beq_eq_false_iff_ne, ne_eq, Decidable.not_not] at hc20)
  ·
    refine W.seq ?_
    refine W.region ?_
    refine RL.q (Yld.assign rfl) rfl ?_
    refine RL.q (Yld.assign rfl) rfl ?_
    refine RL.q (Yld.assign rfl) rfl ?_
    refine RL.nil ?_
    refine N.next ?_
    refine W.keep (.cons (k := 4) rfl (.cons (k := 5) rfl (.cons (k := 6) rfl .nil))) (.cons (k := 0) rfl (.cons (k := 1) rfl (.cons (k := 102) rfl (.cons (k := 103) rfl .nil)))) ?_
    refine W.ret ?_
    refine N.block_ret ?_
    refine N.then_ret ?_
    exact N.retBy [1] (.cons (.tmp rfl) (.cons (.tmp rfl) (.cons (.tmp rfl) .nil))) rfl rfl rfl rfl ⟨by show _ = Value.tuple #[.int .i64 (phs k x).1, .int .i64 (phs k x).2.1, .int .i64 (phs k x).2.2]; unfold phs; rw [if_pos (show k = 0 ∧ x.f ≠ 0 ∧ x.t ≠ 0 by omega)]; rfl, rfl⟩
  ·
    refine W.seq ?_
    refine W.region ?_
    refine RL.q (Yld.move rfl) rfl ?_
    refine RL.q (Yld.bin rfl rfl BinV.eql) rfl ?_
    refine RL.q (Yld.move rfl) rfl ?_
    refine' RL.and (t := 29) (d := 31) 2 rfl (.cons (k := 3) rfl (.cons (k := 7) rfl (.cons (k := 8) rfl (.cons (k := 20) rfl (.cons (k := 21) rfl (.cons (k := 22) rfl (.cons (k := 25) rfl (.cons (k := 27) rfl (.cons (k := 28) rfl .nil))))))))) (.cons (k := 0) rfl (.cons (k := 1) rfl (.cons (k := 102) rfl (.cons (k := 103) rfl .nil)))) ?_ ?_ ?_
    rotate_left 1
    ·
      intro hg29
      refine RL.gq rfl rfl (Yld.move rfl) rfl ?_
      refine RL.q (by first | exact Yld.pickT rfl rfl | exact Yld.pickF rfl rfl) rfl ?_
      exact RL.nil (N.meet (.cons rfl (.cons rfl (.cons rfl (.cons rfl (.cons rfl (.cons rfl (.cons rfl (.cons rfl (.cons rfl (.cons rfl .nil)))))))))) (.cons rfl (.cons rfl (.cons rfl (.cons rfl .nil)))))
    ·
      intro hg29
      refine RL.gskip rfl rfl rfl rfl ?_
      refine RL.q (by first | exact Yld.pickT rfl rfl | exact Yld.pickF rfl rfl) rfl ?_
      exact RL.nil (N.meet (.cons rfl (.cons rfl (.cons rfl (.cons rfl (.cons rfl (.cons rfl (.cons rfl (.cons rfl (.cons rfl (.cons rfl .nil)))))))))) (.cons rfl (.cons rfl (.cons rfl (.cons rfl .nil)))))
    refine RL.q (Yld.assign rfl) rfl ?_
    refine RL.nil ?_
    refine N.next ?_
    refine W.keep (.cons (k := 3) rfl (.cons (k := 8) rfl (.cons (k := 26) rfl .nil))) (.cons (k := 0) rfl (.cons (k := 1) rfl (.cons (k := 102) rfl (.cons (k := 103) rfl .nil)))) ?_
    first | refine W.condD rfl (fun hc26 => ?_) (fun hc26 => ?_) | (refine W.cond rfl (fun hc26 => ?_) (fun hc26 => ?_) <;> try simp only [Bool.or_eq_true, Bool.and_eq_true, Bool.not_eq_true', Bool.not_eq_false', decide_eq_true_eq, Bool.or_eq_false_iff, Bool.and_eq_false_iff, decide_eq_false_iff_not, beq_iff_eq, beq_eq_false_iff_ne, ne_eq, Decidable.not_not] at hc26)
    ·
      refine W.seq ?_
      refine W.region ?_
      refine RL.q (Yld.assign rfl) rfl ?_
      refine RL.q (Yld.assign rfl) rfl ?_
      refine RL.q (Yld.assign rfl) rfl ?_
      refine RL.nil ?_
      refine N.next ?_
      refine W.ret ?_
      refine N.block_ret ?_
      refine N.then_ret ?_
      exact N.retBy [1] (.cons (.tmp rfl) (.cons (.tmp rfl) (.cons (.tmp rfl) .nil))) rfl rfl rfl rfl ⟨by show _ = Value.tuple #[.int .i64 (phs k x).1, .int .i64 (phs k x).2.1, .int .i64 (phs k x).2.2]; unfold phs; rw [if_neg (show ¬(k = 0 ∧ x.f ≠ 0 ∧ x.t ≠ 0) by omega), if_pos (show k = 2 ∧ x.f ≠ 0 ∧ x.t ≠ 0 by omega)]; rfl, rfl⟩
    ·
      refine W.seq ?_
      refine W.region ?_
      refine RL.q (Yld.move rfl) rfl ?_
      refine RL.q (Yld.bin rfl rfl BinV.eql) rfl ?_
      refine RL.q (Yld.move rfl) rfl ?_
      refine' RL.and (t := 35) (d := 39) 4 rfl (.cons (k := 3) rfl (.cons (k := 8) rfl (.cons (k := 26) rfl (.cons (k := 33) rfl (.cons (k := 34) rfl .nil))))) (.cons (k := 0) rfl (.cons (k := 1) rfl (.cons (k := 102) rfl (.cons (k := 103) rfl .nil)))) ?_ ?_ ?_
      rotate_left 1
      ·
        intro hg35
        refine RL.gq rfl rfl (Yld.fieldAddr fo84_1 rfl) rfl ?_
        refine RL.gq rfl rfl (Yld.load1 (c := 103) Tryd.underlying3 rfl rfl rfl (by first | exact single_self _ _ | exact pset_self _ _ _ | assumption) rfl) rfl ?_
        refine RL.gq rfl rfl (Yld.bin rfl rfl BinV.eql) rfl ?_
        refine RL.q (by first | exact Yld.pickT rfl rfl | exact Yld.pickF rfl rfl) rfl ?_
        exact RL.nil (N.meet (.cons rfl (.cons rfl (.cons rfl (.cons rfl (.cons rfl (.cons rfl .nil)))))) (.cons rfl (.cons rfl (.cons rfl (.cons rfl .nil)))))
      ·
        intro hg35
        refine RL.gskip rfl rfl rfl rfl ?_
        refine RL.gskip rfl rfl rfl rfl ?_
        refine RL.gskip rfl rfl rfl rfl ?_
        refine RL.q (by first | exact Yld.pickT rfl rfl | exact Yld.pickF rfl rfl) rfl ?_
        exact RL.nil (N.meet (.cons rfl (.cons rfl (.cons rfl (.cons rfl (.cons rfl (.cons rfl .nil)))))) (.cons rfl (.cons rfl (.cons rfl (.cons rfl .nil)))))
      refine RL.q (Yld.move rfl) rfl ?_
      refine' RL.and (t := 40) (d := 44) 4 rfl (.cons (k := 3) rfl (.cons (k := 8) rfl (.cons (k := 26) rfl (.cons (k := 33) rfl (.cons (k := 34) rfl (.cons (k := 39) rfl .nil)))))) (.cons (k := 0) rfl (.cons (k := 1) rfl (.cons (k := 102) rfl (.cons (k := 103) rfl .nil)))) ?_ ?_ ?_
      rotate_left 1
      ·
        intro hg40
        refine RL.gq rfl rfl (Yld.fieldAddr fo84_2 rfl) rfl ?_
        refine RL.gq rfl rfl (Yld.load1 (c := 103) Tryd.underlying3 rfl rfl rfl (by first | exact single_self _ _ | exact pset_self _ _ _ | assumption) rfl) rfl ?_
        refine RL.gq rfl rfl (Yld.bin rfl rfl BinV.neq) rfl ?_
        refine RL.q (by first | exact Yld.pickT rfl rfl | exact Yld.pickF rfl rfl) rfl ?_
        exact RL.nil (N.meet (.cons rfl (.cons rfl (.cons rfl (.cons rfl (.cons rfl (.cons rfl (.cons rfl .nil))))))) (.cons rfl (.cons rfl (.cons rfl (.cons rfl .nil)))))
      ·
        intro hg40
        refine RL.gskip rfl rfl rfl rfl ?_
        refine RL.gskip rfl rfl rfl rfl ?_
        refine RL.gskip rfl rfl rfl rfl ?_
        refine RL.q (by first | exact Yld.pickT rfl rfl | exact Yld.pickF rfl rfl) rfl ?_
        exact RL.nil (N.meet (.cons rfl (.cons rfl (.cons rfl (.cons rfl (.cons rfl (.cons rfl (.cons rfl .nil))))))) (.cons rfl (.cons rfl (.cons rfl (.cons rfl .nil)))))
      refine RL.q (Yld.assign rfl) rfl ?_
      refine RL.nil ?_
      refine N.next ?_
      refine W.keep (.cons (k := 3) rfl (.cons (k := 8) rfl (.cons (k := 32) rfl .nil))) (.cons (k := 0) rfl (.cons (k := 1) rfl (.cons (k := 102) rfl (.cons (k := 103) rfl .nil)))) ?_
      first | refine W.condD rfl (fun hc32 => ?_) (fun hc32 => ?_) | (refine W.cond rfl (fun hc32 => ?_) (fun hc32 => ?_) <;> try simp only [Bool.or_eq_true, Bool.and_eq_true, Bool.not_eq_true', Bool.not_eq_false', decide_eq_true_eq, Bool.or_eq_false_iff, Bool.and_eq_false_iff, decide_eq_false_iff_not, beq_iff_eq, beq_eq_false_iff_ne, ne_eq, Decidable.not_not] at hc32)
      ·
        refine W.seq ?_
        refine W.region ?_
        refine RL.q (Yld.assign rfl) rfl ?_
        refine RL.q (Yld.assign rfl) rfl ?_
        refine RL.q (Yld.assign rfl) rfl ?_
        refine RL.nil ?_
        refine N.next ?_
        refine W.ret ?_
        refine N.block_ret ?_
        refine N.then_ret ?_
        exact N.retBy [1] (.cons (.tmp rfl) (.cons (.tmp rfl) (.cons (.tmp rfl) .nil))) rfl rfl rfl rfl ⟨by show _ = Value.tuple #[.int .i64 (phs k x).1, .int .i64 (phs k x).2.1, .int .i64 (phs k x).2.2]; unfold phs; rw [if_neg (show ¬(k = 0 ∧ x.f ≠ 0 ∧ x.t ≠ 0) by omega), if_neg (show ¬(k = 2 ∧ x.f ≠ 0 ∧ x.t ≠ 0) by omega), if_pos (show k = 1 ∧ x.f = 0 ∧ x.t ≠ 0 by omega)]; rfl, rfl⟩
      ·
        refine W.seq ?_
        refine W.region ?_
        refine RL.q (Yld.move rfl) rfl ?_
        refine RL.q (Yld.bin rfl rfl BinV.eql) rfl ?_
        refine RL.q (Yld.move rfl) rfl ?_
        refine' RL.and (t := 48) (d := 52) 4 rfl (.cons (k := 3) rfl (.cons (k := 8) rfl (.cons (k := 32) rfl (.cons (k := 46) rfl (.cons (k := 47) rfl .nil))))) (.cons (k := 0) rfl (.cons (k := 1) rfl (.cons (k := 102) rfl (.cons (k := 103) rfl .nil)))) ?_ ?_ ?_
        rotate_left 1
        ·
          intro hg48
          refine RL.gq rfl rfl (Yld.fieldAddr fo84_1 rfl) rfl ?_
          refine RL.gq rfl rfl (Yld.load1 (c := 103) Tryd.underlying3 rfl rfl rfl (by first | exact single_self _ _ | exact pset_self _ _ _ | assumption) rfl) rfl ?_
          refine RL.gq rfl rfl (Yld.bin rfl rfl BinV.neq) rfl ?_
          refine RL.q (by first | exact Yld.pickT rfl rfl | exact Yld.pickF rfl rfl) rfl ?_
          exact RL.nil (N.meet (.cons rfl (.cons rfl (.cons rfl (.cons rfl (.cons rfl (.cons rfl .nil)))))) (.cons rfl (.cons rfl (.cons rfl (.cons rfl .nil)))))
        ·
          intro hg48
          refine RL.gskip rfl rfl rfl rfl ?_
          refine RL.gskip rfl rfl rfl rfl ?_
          refine RL.gskip rfl rfl rfl rfl ?_
          refine RL.q (by first | exact Yld.pickT rfl rfl | exact Yld.pickF rfl rfl) rfl ?_
          exact RL.nil (N.meet (.cons rfl (.cons rfl (.cons rfl (.cons rfl (.cons rfl (.cons rfl .nil)))))) (.cons rfl (.cons rfl (.cons rfl (.cons rfl .nil)))))
        refine RL.q (Yld.move rfl) rfl ?_
        refine' RL.and (t := 53) (d := 57) 4 rfl (.cons (k := 3) rfl (.cons (k := 8) rfl (.cons (k := 32) rfl (.cons (k := 46) rfl (.cons (k := 47) rfl (.cons (k := 52) rfl .nil)))))) (.cons (k := 0) rfl (.cons (k := 1) rfl (.cons (k := 102) rfl (.cons (k := 103) rfl .nil)))) ?_ ?_ ?_
        rotate_left 1
        ·
          intro hg53
          refine RL.gq rfl rfl (Yld.fieldAddr fo84_2 rfl) rfl ?_
          refine RL.gq rfl rfl (Yld.load1 (c := 103) Tryd.underlying3 rfl rfl rfl (by first | exact single_self _ _ | exact pset_self _ _ _ | assumption) rfl) rfl ?_
          refine RL.gq rfl rfl (Yld.bin rfl rfl BinV.eql) rfl ?_
          refine RL.q (by first | exact Yld.pickT rfl rfl | exact Yld.pickF rfl rfl) rfl ?_
          exact RL.nil (N.meet (.cons rfl (.cons rfl (.cons rfl (.cons rfl (.cons rfl (.cons rfl (.cons rfl .nil))))))) (.cons rfl (.cons rfl (.cons rfl (.cons rfl .nil)))))
        ·
          intro hg53
          refine RL.gskip rfl rfl rfl rfl ?_
          refine RL.gskip rfl rfl rfl rfl ?_
          refine RL.gskip rfl rfl rfl rfl ?_
          refine RL.q (by first | exact Yld.pickT rfl rfl | exact Yld.pickF rfl rfl) rfl ?_
          exact RL.nil (N.meet (.cons rfl (.cons rfl (.cons rfl (.cons rfl (.cons rfl (.cons rfl (.cons rfl .nil))))))) (.cons rfl (.cons rfl (.cons rfl (.cons rfl .nil)))))
        refine RL.q (Yld.assign rfl) rfl ?_
        refine RL.nil ?_
        refine N.next ?_
        refine W.keep (.cons (k := 45) rfl .nil) (.cons (k := 0) rfl (.cons (k := 1) rfl (.cons (k := 102) rfl (.cons (k := 103) rfl .nil)))) ?_
        first | refine W.condD rfl (fun hc45 => ?_) (fun hc45 => ?_) | (refine W.cond rfl (fun hc45 => ?_) (fun hc45 => ?_) <;> try simp only [Bool.or_eq_true, Bool.and_eq_true, Bool.not_eq_true', Bool.not_eq_false', decide_eq_true_eq, Bool.or_eq_false_iff, Bool.and_eq_false_iff, decide_eq_false_iff_not, beq_iff_eq, beq_eq_false_iff_ne, ne_eq, Decidable.not_not] at hc45)
        ·
          refine W.seq ?_
          refine W.region ?_
          refine RL.q (Yld.assign rfl) rfl ?_
          refine RL.q (Yld.assign rfl) rfl ?_
          refine RL.q (Yld.assign rfl) rfl ?_
          refine RL.nil ?_
          refine N.next ?_
          refine W.ret ?_
          refine N.block_ret ?_
          refine N.then_ret ?_
          exact N.retBy [1] (.cons (.tmp rfl) (.cons (.tmp rfl) (.cons (.tmp rfl) .nil))) rfl rfl rfl rfl ⟨by show _ = Value.tuple #[.int .i64 (phs k x).1, .int .i64 (phs k x).2.1, .int .i64 (phs k x).2.2]; unfold phs; rw [if_neg (show ¬(k = 0 ∧ x.f ≠ 0 ∧ x.t ≠ 0) by omega), if_neg (show ¬(k = 2 ∧ x.f ≠ 0 ∧ x.t ≠ 0) by omega), if_neg (show ¬(k = 1 ∧ x.f = 0 ∧ x.t ≠ 0) by omega), if_pos (show k = 1 ∧ x.f ≠ 0 ∧ x.t = 0 by omega)]; rfl, rfl⟩
        ·
          refine W.skip ?_
          refine N.block_normal ?_
          refine N.next ?_
          refine W.seq ?_
          refine W.region ?_
          refine RL.q (Yld.assign rfl) rfl ?_
          refine RL.q (Yld.assign rfl) rfl ?_
          refine RL.q (Yld.assign rfl) rfl ?_
          refine RL.nil ?_
          refine N.next ?_
          refine W.ret ?_
          exact N.retBy [1] (.cons (.tmp rfl) (.cons (.tmp rfl) (.cons (.tmp rfl) .nil))) rfl rfl rfl rfl ⟨by show _ = Value.tuple #[.int .i64 (phs k x).1, .int .i64 (phs k x).2.1, .int .i64 (phs k x).2.2]; unfold phs; rw [if_neg (show ¬(k = 0 ∧ x.f ≠ 0 ∧ x.t ≠ 0) by omega), if_neg (show ¬(k = 2 ∧ x.f ≠ 0 ∧ x.t ≠ 0) by omega), if_neg (show ¬(k = 1 ∧ x.f = 0 ∧ x.t ≠ 0) by omega), if_neg (show ¬(k = 1 ∧ x.f ≠ 0 ∧ x.t = 0) by omega)]; rfl, rfl⟩

set_option maxRecDepth 100000 in
set_option maxHeartbeats 1600000 in
theorem rphases_ct (m : Md) (x : Mv) (H1 : PH) (hm : m.In H1) : Ct Tryd.prog 37 [.agg [.slice m.a0 m.n0 m.c0, .slice m.a1 m.n1 m.c1, .slice m.a2 m.n2 m.c2, .slice m.pm m.ms.length m.cm, .slice m.a4 m.n4 m.c4, .slice m.pi m.is.length m.ci, .int .i64 m.d0, .int .i64 m.d1, .int .i64 m.d2, .int .i64 m.d3, .slice m.a5 m.n5 m.c5].toArray, .agg [.int .i64 x.i, .int .i64 x.f, .int .i64 x.t].toArray] [H1] (fun v Hs => v = .tuple #[.int .i64 (phs (kindOf m.is x.i) x).1, .int .i64 (phs (kindOf m.is x.i) x).2.1, .int .i64 (phs (kindOf m.is x.i) x).2.2] ∧ Hs = [H1]) := by
  refine Ct.body Tryd.func37 rfl Tryd.ntmps37 rfl ?_
  intro E F
  refine W.seq ?_
  refine W.region ?_
  refine RL.e (Eff.box 102 _ rfl rfl) rfl ?_
  rintro _ _ ⟨b2, rfl, rfl⟩
  refine RL.e (Eff.box 103 _ rfl rfl) rfl ?_
  rintro _ _ ⟨b3, rfl, rfl⟩
  refine RL.q (Yld.assign rfl) rfl ?_
  refine RL.q (Yld.assign rfl) rfl ?_
  refine RL.q (Yld.assign rfl) rfl ?_
  refine RL.nil ?_
  refine N.next ?_
  refine W.keep (.cons (k := 2) rfl (.cons (k := 3) rfl .nil)) (.cons (k := 0) rfl (.cons (k := 1) rfl (.cons (k := 102) rfl (.cons (k := 103) rfl .nil)))) ?_
  refine W.seq ?_
  refine W.region ?_
  refine RL.q (Yld.loadW (c := 102) Tryd.underlying29 rfl sz29 rfl rfl (by first | exact single_self _ _ | exact pset_self _ _ _ | assumption) rfl) rfl ?_
  refine RL.q (Yld.fieldAddr fo84_0 rfl) rfl ?_
  refine RL.q (Yld.load1 (c := 103) Tryd.underlying3 rfl rfl rfl (by first | exact single_self _ _ | exact pset_self _ _ _ | assumption) rfl) rfl ?_
  refine RL.e (Eff.call ent64 [1] [1] (.cons rfl (.cons rfl .nil)) (rkind_ct m x.i H1 hm) rfl rfl rfl rfl (by rintro _ _ ⟨_, rfl⟩; rfl)) rfl ?_
  rintro _ _ ⟨_, ⟨rfl, rfl⟩, rfl⟩
  obtain ⟨k, hk⟩ : ∃ k, kindOf m.is x.i = k := ⟨_, rfl⟩
  rw [hk]
  refine RL.q (Yld.assign rfl) rfl ?_
  refine RL.nil ?_
  refine N.next ?_
  refine W.keep (.cons (k := 3) rfl (.cons (k := 7) rfl .nil)) (.cons (k := 0) rfl (.cons (k := 1) rfl (.cons (k := 102) rfl (.cons (k := 103) rfl .nil)))) ?_
  refine W.seq ?_
  refine W.region ?_
  refine RL.q (Yld.fieldAddr fo84_1 rfl) rfl ?_
  refine RL.q (Yld.load1 (c := 103) Tryd.underlying3 rfl rfl rfl (by first | exact single_self _ _ | exact pset_self _ _ _ | assumption) rfl) rfl ?_
  refine RL.q (Yld.bin rfl rfl BinV.neq) rfl ?_
  refine RL.q (Yld.move rfl) rfl ?_
  refine' RL.and (t := 16) (d := 20) 4 rfl (.cons (k := 3) rfl (.cons (k := 7) rfl (.cons (k := 13) rfl (.cons (k := 14) rfl (.cons (k := 15) rfl .nil))))) (.cons (k := 0) rfl (.cons (k := 1) rfl (.cons (k := 102) rfl (.cons (k := 103) rfl .nil)))) ?_ ?_ ?_
  rotate_left 1
  ·
    intro hg16
    refine RL.gq rfl rfl (Yld.fieldAddr fo84_2 rfl) rfl ?_
    refine RL.gq rfl rfl (Yld.load1 (c := 103) Tryd.underlying3 rfl rfl rfl (by first | exact single_self _ _ | exact pset_self _ _ _ | assumption) rfl) rfl ?_
    refine RL.gq rfl rfl (Yld.bin rfl rfl BinV.neq) rfl ?_
    refine RL.q (by first | exact Yld.pickT rfl rfl | exact Yld.pickF rfl rfl) rfl ?_
    exact RL.nil (N.meet (.cons rfl (.cons rfl (.cons rfl (.cons rfl (.cons rfl (.cons rfl .nil)))))) (.cons rfl (.cons rfl (.cons rfl (.cons rfl .nil)))))
  ·
    intro hg16
    refine RL.gskip rfl rfl rfl rfl ?_
    refine RL.gskip rfl rfl rfl rfl ?_
    refine RL.gskip rfl rfl rfl rfl ?_
    refine RL.q (by first | exact Yld.pickT rfl rfl | exact Yld.pickF rfl rfl) rfl ?_
    exact RL.nil (N.meet (.cons rfl (.cons rfl (.cons rfl (.cons rfl (.cons rfl (.cons rfl .nil)))))) (.cons rfl (.cons rfl (.cons rfl (.cons rfl .nil)))))
  refine RL.q (Yld.assign rfl) rfl ?_
  refine RL.nil ?_
  refine N.next ?_
  refine W.keep (.cons (k := 3) rfl (.cons (k := 7) rfl (.cons (k := 8) rfl .nil))) (.cons (k := 0) rfl (.cons (k := 1) rfl (.cons (k := 102) rfl (.cons (k := 103) rfl .nil)))) ?_
  refine W.seq ?_
  refine W.block ?_
  refine W.seq ?_
  refine W.region ?_
  refine RL.q (Yld.move rfl) rfl ?_
  refine RL.q (Yld.bin rfl rfl BinV.eql) rfl ?_
  refine RL.q (Yld.move rfl) rfl ?_
  refine' RL.and (t := 24) (d := 26) 2 rfl (.cons (k := 3) rfl (.cons (k := 7) rfl (.cons (k := 8) rfl (.cons (k := 22) rfl (.cons (k := 23) rfl .nil))))) (.cons (k := 0) rfl (.cons (k := 1) rfl (.cons (k := 102) rfl (.cons (k := 103) rfl .nil)))) ?_ ?_ ?_
  rotate_left 1
  ·
    intro hg24
    refine RL.gq rfl rfl (Yld.move rfl) rfl ?_
    refine RL.q (by first | exact Yld.pickT rfl rfl | exact Yld.pickF rfl rfl) rfl ?_
    exact RL.nil (N.meet (.cons rfl (.cons rfl (.cons rfl (.cons rfl (.cons rfl (.cons rfl .nil)))))) (.cons rfl (.cons rfl (.cons rfl (.cons rfl .nil)))))
  ·
    intro hg24
    refine RL.gskip rfl rfl rfl rfl ?_
    refine RL.q (by first | exact Yld.pickT rfl rfl | exact Yld.pickF rfl rfl) rfl ?_
    exact RL.nil (N.meet (.cons rfl (.cons rfl (.cons rfl (.cons rfl (.cons rfl (.cons rfl .nil)))))) (.cons rfl (.cons rfl (.cons rfl (.cons rfl .nil)))))
  refine RL.q (Yld.assign rfl) rfl ?_
  refine RL.nil ?_
  refine N.next ?_
  first | refine W.condD rfl (fun hc21 => ?_) (fun hc21 => ?_) | (refine W.cond rfl (fun hc21 => ?_) (fun hc21 => ?_) <;> try simp only [Bool.or_eq_true, Bool.and_eq_true, Bool.not_eq_true', Bool.not_eq_false', decide_eq_true_eq, Bool.or_eq_false_iff, Bool.and_eq_false_iff, decide_eq_false_iff_not, beq_iff_eq, beq_eq_false_iff_ne, ne_eq, Decidable.not_not] at hc21)
  ·
    refine W.seq ?_
    refine W.region ?_
    refine RL.q (Yld.assign rfl) rfl ?_
    refine RL.q (Yld.assign rfl) rfl ?_
    refine RL.q (Yld.assign rfl) rfl ?_
    refine RL.nil ?_
    refine N.next ?_
    refine W.keep (.cons (k := 4) rfl (.cons (k := 5) rfl (.cons (k := 6) rfl .nil))) (.cons (k := 0) rfl (.cons (k := 1) rfl (.cons (k := 102) rfl (.cons (k := 103) rfl .nil)))) ?_
    refine W.ret ?_
    refine N.block_ret ?_
    refine N.then_ret ?_
    exact N.retBy [1] (.cons (.tmp rfl) (.cons (.tmp rfl) (.cons (.tmp rfl) .nil))) rfl rfl rfl rfl ⟨by show _ = Value.tuple #[.int .i64 (phs k x).1, .int .i64 (phs k x).2.1, .int .i64 (phs k x).2.2]; unfold phs; rw [if_pos (show k = 0 ∧ x.f ≠ 0 ∧ x.t ≠ 0 by omega)]; rfl, rfl⟩
  ·
    refine W.seq ?_
    refine W.region ?_
    refine RL.q (Yld.move rfl) rfl ?_
    refine RL.q (Yld.bin rfl rfl BinV.eql) rfl ?_
    refine RL.q (Yld.move rfl) rfl ?_
    refine' RL.and (t := 30) (d := 32) 2 rfl (.cons (k := 3) rfl (.cons (k := 7) rfl (.cons (k := 8) rfl (.cons (k := 21) rfl (.cons (k := 22) rfl (.cons (k := 23) rfl (.cons (k := 26) rfl (.cons (k := 28) rfl (.cons (k := 29) rfl .nil))))))))) (.cons (k := 0) rfl (.cons (k := 1) rfl (.cons (k := 102) rfl (.cons (k := 103) rfl .nil)))) ?_ ?_ ?_
    rotate_left 1
    ·
      intro hg30
      refine RL.gq rfl rfl (Yld.move rfl) rfl ?_
      refine RL.q (by first | exact Yld.pickT rfl rfl | exact Yld.pickF rfl rfl) rfl ?_
      exact RL.nil (N.meet (.cons rfl (.cons rfl (.cons rfl (.cons rfl (.cons rfl (.cons rfl (.cons rfl (.cons rfl (.cons rfl (.cons rfl .nil)))))))))) (.cons rfl (.cons rfl (.cons rfl (.cons rfl .nil)))))
    ·
      intro hg30
      refine RL.gskip rfl rfl rfl rfl ?_
      refine RL.q (by first | exact Yld.pickT rfl rfl | exact Yld.pickF rfl rfl) rfl ?_
      exact RL.nil (N.meet (.cons rfl (.cons rfl (.cons rfl (.cons rfl (.cons rfl (.cons rfl (.cons rfl (.cons rfl (.cons rfl (.cons rfl .nil)))))))))) (.cons rfl (.cons rfl (.cons rfl (.cons rfl .nil)))))
    refine RL.q (Yld.assign rfl) rfl ?_
    refine RL.nil ?_
    refine N.next ?_
    refine W.keep (.cons (k := 3) rfl (.cons (k := 7) rfl (.cons (k := 27) rfl .nil))) (.cons (k := 0) rfl (.cons (k := 1) rfl (.cons (k := 102) rfl (.cons (k := 103) rfl .nil)))) ?_
    first | refine W.condD rfl (fun hc27 => ?_) (fun hc27 => ?_) | (refine W.cond rfl (fun hc27 => ?_) (fun hc27 => ?_) <;> try simp only [Bool.or_eq_true, Bool.and_eq_true, Bool.not_eq_true', Bool.not_eq_false', decide_eq_true_eq, Bool.or_eq_false_iff, Bool.and_eq_false_iff, decide_eq_false_iff_not, beq_iff_eq, beq_eq_false_iff_ne, ne_eq, Decidable.not_not] at hc27)
    ·
      refine W.seq ?_
      refine W.region ?_
      refine RL.q (Yld.assign rfl) rfl ?_
      refine RL.q (Yld.assign rfl) rfl ?_
      refine RL.q (Yld.assign rfl) rfl ?_
      refine RL.nil ?_
      refine N.next ?_
      refine W.ret ?_
      refine N.block_ret ?_
      refine N.then_ret ?_
      exact N.retBy [1] (.cons (.tmp rfl) (.cons (.tmp rfl) (.cons (.tmp rfl) .nil))) rfl rfl rfl rfl ⟨by show _ = Value.tuple #[.int .i64 (phs k x).1, .int .i64 (phs k x).2.1, .int .i64 (phs k x).2.2]; unfold phs; rw [if_neg (show ¬(k = 0 ∧ x.f ≠ 0 ∧ x.t ≠ 0) by omega), if_pos (show k = 2 ∧ x.f ≠ 0 ∧ x.t ≠ 0 by omega)]; rfl, rfl⟩
    ·
      refine W.seq ?_
      refine W.region ?_
      refine RL.q (Yld.move rfl) rfl ?_
      refine RL.q (Yld.bin rfl rfl BinV.eql) rfl ?_
      refine RL.q (Yld.move rfl) rfl ?_
      refine' RL.and (t := 36) (d := 40) 4 rfl (.cons (k := 3) rfl (.cons (k := 7) rfl (.cons (k := 27) rfl (.cons (k := 34) rfl (.cons (k := 35) rfl .nil))))) (.cons (k := 0) rfl (.cons (k := 1) rfl (.cons (k := 102) rfl (.cons (k := 103) rfl .nil)))) ?_ ?_ ?_
      rotate_left 1
      ·
        intro hg36
        refine RL.gq rfl rfl (Yld.fieldAddr fo84_1 rfl) rfl ?_
        refine RL.gq rfl rfl (Yld.load1 (c := 103) Tryd.underlying3 rfl rfl rfl (by first | exact single_self _ _ | exact pset_self _ _ _ | assumption) rfl) rfl ?_
        refine RL.gq rfl rfl (Yld.bin rfl rfl BinV.eql) rfl ?_
        refine RL.q (by first | exact Yld.pickT rfl rfl | exact Yld.pickF rfl rfl) rfl ?_
        exact RL.nil (N.meet (.cons rfl (.cons rfl (.cons rfl (.cons rfl (.cons rfl (.cons rfl .nil)))))) (.cons rfl (.cons rfl (.cons rfl (.cons rfl .nil)))))
      ·
        intro hg36
        refine RL.gskip rfl rfl rfl rfl ?_
        refine RL.gskip rfl rfl rfl rfl ?_
        refine RL.gskip rfl rfl rfl rfl ?_
        refine RL.q (by first | exact Yld.pickT rfl rfl | exact Yld.pickF rfl rfl) rfl ?_
        exact RL.nil (N.meet (.cons rfl (.cons rfl (.cons rfl (.cons rfl (.cons rfl (.cons rfl .nil)))))) (.cons rfl (.cons rfl (.cons rfl (.cons rfl .nil)))))
      refine RL.q (Yld.move rfl) rfl ?_
      refine' RL.and (t := 41) (d := 45) 4 rfl (.cons (k := 3) rfl (.cons (k := 7) rfl (.cons (k := 27) rfl (.cons (k := 34) rfl (.cons (k := 35) rfl (.cons (k := 40) rfl .nil)))))) (.cons (k := 0) rfl (.cons (k := 1) rfl (.cons (k := 102) rfl (.cons (k := 103) rfl .nil)))) ?_ ?_ ?_
      rotate_left 1
      ·
        intro hg41
        refine RL.gq rfl rfl (Yld.fieldAddr fo84_2 rfl) rfl ?_
        refine RL.gq rfl rfl (Yld.load1 (c := 103) Tryd.underlying3 rfl rfl rfl (by first | exact single_self _ _ | exact pset_self _ _ _ | assumption) rfl) rfl ?_
        refine RL.gq rfl rfl (Yld.bin rfl rfl BinV.neq) rfl ?_
        refine RL.q (by first | exact Yld.pickT rfl rfl | exact Yld.pickF rfl rfl) rfl ?_
        exact RL.nil (N.meet (.cons rfl (.cons rfl (.cons rfl (.cons rfl (.cons rfl (.cons rfl (.cons rfl .nil))))))) (.cons rfl (.cons rfl (.cons rfl (.cons rfl .nil)))))
      ·
        intro hg41
        refine RL.gskip rfl rfl rfl rfl ?_
        refine RL.gskip rfl rfl rfl rfl ?_
        refine RL.gskip rfl rfl rfl rfl ?_
        refine RL.q (by first | exact Yld.pickT rfl rfl | exact Yld.pickF rfl rfl) rfl ?_
        exact RL.nil (N.meet (.cons rfl (.cons rfl (.cons rfl (.cons rfl (.cons rfl (.cons rfl (.cons rfl .nil))))))) (.cons rfl (.cons rfl (.cons rfl (.cons rfl .nil)))))
      refine RL.q (Yld.assign rfl) rfl ?_
      refine RL.nil ?_
      refine N.next ?_
      refine W.keep (.cons (k := 3) rfl (.cons (k := 7) rfl (.cons (k := 33) rfl .nil))) (.cons (k := 0) rfl (.cons (k := 1) rfl (.cons (k := 102) rfl (.cons (k := 103) rfl .nil)))) ?_
      first | refine W.condD rfl (fun hc33 => ?_) (fun hc33 => ?_) | (refine W.cond rfl (fun hc33 => ?_) (fun hc33 => ?_) <;> try simp only [Bool.or_eq_true, Bool.and_eq_true, Bool.not_eq_true', Bool.not_eq_false', decide_eq_true_eq, Bool.or_eq_false_iff, Bool.and_eq_false_iff, decide_eq_false_iff_not, beq_iff_eq, beq_eq_false_iff_ne, ne_eq, Decidable.not_not] at hc33)
      ·
        refine W.seq ?_
        refine W.region ?_
        refine RL.q (Yld.assign rfl) rfl ?_
        refine RL.q (Yld.assign rfl) rfl ?_
        refine RL.q (Yld.assign rfl) rfl ?_
        refine RL.nil ?_
        refine N.next ?_
        refine W.ret ?_
        refine N.block_ret ?_
        refine N.then_ret ?_
        exact N.retBy [1] (.cons (.tmp rfl) (.cons (.tmp rfl) (.cons (.tmp rfl) .nil))) rfl rfl rfl rfl ⟨by show _ = Value.tuple #[.int .i64 (phs k x).1, .int .i64 (phs k x).2.1, .int .i64 (phs k x).2.2]; unfold phs; rw [if_neg (show ¬(k = 0 ∧ x.f ≠ 0 ∧ x.t ≠ 0) by omega), if_neg (show ¬(k = 2 ∧ x.f ≠ 0 ∧ x.t ≠ 0) by omega), if_pos (show k = 1 ∧ x.f = 0 ∧ x.t ≠ 0 by omega)]; rfl, rfl⟩
      ·
        refine W.seq ?_
        refine W.region ?_
        refine RL.q (Yld.move rfl) rfl ?_
        refine RL.q (Yld.bin rfl rfl BinV.eql) rfl ?_
        refine RL.q (Yld.move rfl) rfl ?_
        refine' RL.and (t := 49) (d := 53) 4 rfl (.cons (k := 3) rfl (.cons (k := 7) rfl (.cons (k := 33) rfl (.cons (k := 47) rfl (.cons (k := 48) rfl .nil))))) (.cons (k := 0) rfl (.cons (k := 1) rfl (.cons (k := 102) rfl (.cons (k := 103) rfl .nil)))) ?_ ?_ ?_
        rotate_left 1
        ·
          intro hg49
          refine RL.gq rfl rfl (Yld.fieldAddr fo84_1 rfl) rfl ?_
          refine RL.gq rfl rfl (Yld.load1 (c := 103) Tryd.underlying3 rfl rfl rfl (by first | exact single_self _ _ | exact pset_self _ _ _ | assumption) rfl) rfl ?_
          refine RL.gq rfl rfl (Yld.bin rfl rfl BinV.neq) rfl ?_
          refine RL.q (by first | exact Yld.pickT rfl rfl | exact Yld.pickF rfl rfl) rfl ?_
          exact RL.nil (N.meet (.cons rfl (.cons rfl (.cons rfl (.cons rfl (.cons rfl (.cons rfl .nil)))))) (.cons rfl (.cons rfl (.cons rfl (.cons rfl .nil)))))
        ·
          intro hg49
          refine RL.gskip rfl rfl rfl rfl ?_
          refine RL.gskip rfl rfl rfl rfl ?_
          refine RL.gskip rfl rfl rfl rfl ?_
          refine RL.q (by first | exact Yld.pickT rfl rfl | exact Yld.pickF rfl rfl) rfl ?_
          exact RL.nil (N.meet (.cons rfl (.cons rfl (.cons rfl (.cons rfl (.cons rfl (.cons rfl .nil)))))) (.cons rfl (.cons rfl (.cons rfl (.cons rfl .nil)))))
        refine RL.q (Yld.move rfl) rfl ?_
        refine' RL.and (t := 54) (d := 58) 4 rfl (.cons (k := 3) rfl (.cons (k := 7) rfl (.cons (k := 33) rfl (.cons (k := 47) rfl (.cons (k := 48) rfl (.cons (k := 53) rfl .nil)))))) (.cons (k := 0) rfl (.cons (k := 1) rfl (.cons (k := 102) rfl (.cons (k := 103) rfl .nil)))) ?_ ?_ ?_
        rotate_left 1
        ·
          intro hg54
          refine RL.gq rfl rfl (Yld.fieldAddr fo84_2 rfl) rfl ?_
          refine RL.gq rfl rfl (Yld.load1 (c := 103) Tryd.underlying3 rfl rfl rfl (by first | exact single_self _ _ | exact pset_self _ _ _ | assumption) rfl) rfl ?_
          refine RL.gq rfl rfl (Yld.bin rfl rfl BinV.eql) rfl ?_
          refine RL.q (by first | exact Yld.pickT rfl rfl | exact Yld.pickF rfl rfl) rfl ?_
          exact RL.nil (N.meet (.cons rfl (.cons rfl (.cons rfl (.cons rfl (.cons rfl (.cons rfl (.cons rfl .nil))))))) (.cons rfl (.cons rfl (.cons rfl (.cons rfl .nil)))))
        ·
          intro hg54
          refine RL.gskip rfl rfl rfl rfl ?_
          refine RL.gskip rfl rfl rfl rfl ?_
          refine RL.gskip rfl rfl rfl rfl ?_
          refine RL.q (by first | exact Yld.pickT rfl rfl | exact Yld.pickF rfl rfl) rfl ?_
          exact RL.nil (N.meet (.cons rfl (.cons rfl (.cons rfl (.cons rfl (.cons rfl (.cons rfl (.cons rfl .nil))))))) (.cons rfl (.cons rfl (.cons rfl (.cons rfl .nil)))))
        refine RL.q (Yld.assign rfl) rfl ?_
        refine RL.nil ?_
        refine N.next ?_
        refine W.keep (.cons (k := 46) rfl .nil) (.cons (k := 0) rfl (.cons (k := 1) rfl (.cons (k := 102) rfl (.cons (k := 103) rfl .nil)))) ?_
        first | refine W.condD rfl (fun hc46 => ?_) (fun hc46 => ?_) | (refine W.cond rfl (fun hc46 => ?_) (fun hc46 => ?_) <;> try simp only [Bool.or_eq_true, Bool.and_eq_true, Bool.not_eq_true', Bool.not_eq_false', decide_eq_true_eq, Bool.or_eq_false_iff, Bool.and_eq_false_iff, decide_eq_false_iff_not, beq_iff_eq, beq_eq_false_iff_ne, ne_eq, Decidable.not_not] at hc46)
        ·
          refine W.seq ?_
          refine W.region ?_
          refine RL.q (Yld.assign rfl) rfl ?_
          refine RL.q (Yld.assign rfl) rfl ?_
          refine RL.q (Yld.assign rfl) rfl ?_
          refine RL.nil ?_
          refine N.next ?_
          refine W.ret ?_
          refine N.block_ret ?_
          refine N.then_ret ?_
          exact N.retBy [1] (.cons (.tmp rfl) (.cons (.tmp rfl) (.cons (.tmp rfl) .nil))) rfl rfl rfl rfl ⟨by show _ = Value.tuple #[.int .i64 (phs k x).1, .int .i64 (phs k x).2.1, .int .i64 (phs k x).2.2]; unfold phs; rw [if_neg (show ¬(k = 0 ∧ x.f ≠ 0 ∧ x.t ≠ 0) by omega), if_neg (show ¬(k = 2 ∧ x.f ≠ 0 ∧ x.t ≠ 0) by omega), if_neg (show ¬(k = 1 ∧ x.f = 0 ∧ x.t ≠ 0) by omega), if_pos (show k = 1 ∧ x.f ≠ 0 ∧ x.t = 0 by omega)]; rfl, rfl⟩
        ·
          refine W.skip ?_
          refine N.block_normal ?_
          refine N.next ?_
          refine W.seq ?_
          refine W.region ?_
          refine RL.q (Yld.assign rfl) rfl ?_
          refine RL.q (Yld.assign rfl) rfl ?_
          refine RL.q (Yld.assign rfl) rfl ?_
          refine RL.nil ?_
          refine N.next ?_
          refine W.ret ?_
          exact N.retBy [1] (.cons (.tmp rfl) (.cons (.tmp rfl) (.cons (.tmp rfl) .nil))) rfl rfl rfl rfl ⟨by show _ = Value.tuple #[.int .i64 (phs k x).1, .int .i64 (phs k x).2.1, .int .i64 (phs k x).2.2]; unfold phs; rw [if_neg (show ¬(k = 0 ∧ x.f ≠ 0 ∧ x.t ≠ 0) by omega), if_neg (show ¬(k = 2 ∧ x.f ≠ 0 ∧ x.t ≠ 0) by omega), if_neg (show ¬(k = 1 ∧ x.f = 0 ∧ x.t ≠ 0) by omega), if_neg (show ¬(k = 1 ∧ x.f ≠ 0 ∧ x.t = 0) by omega)]; rfl, rfl⟩

def Cfg.unitV (x : Mv) (mc cm : Int) : Value := .agg [.int .i64 0, .int .i64 mc, .int .i64 0, .int .i64 0, .int .i64 0, .int .i64 cm, .int .i64 x.i, .int .i64 0, .int .i64 0].toArray
def Cfg.admV (x : Mv) (y : St) (ch : Int) : Value := .agg [.int .i64 1, .int .i64 0, .int .i64 x.i, .int .i64 ch, .int .i64 y.r, .int .i64 0, .int .i64 0, .int .i64 0, .int .i64 0].toArray

set_option maxRecDepth 100000 in
set_option maxHeartbeats 400000 in
theorem unit_ct (b : Nat) (x : Mv) (mc cm : Int) : Ct Tryd.prog 62 [.int .i64 mc, .int .i64 cm, .pointer (some ⟨b, 0, none⟩)] [single b (.cells [.int .i64 x.i, .int .i64 x.f, .int .i64 x.t].toArray 84 (0, 0))] (fun v Hs => v = unitV x mc cm ∧ Hs = [single b (.cells [.int .i64 x.i, .int .i64 x.f, .int .i64 x.t].toArray 84 (0, 0))]) := by
  refine Ct.body Tryd.func62 rfl Tryd.ntmps62 rfl ?_
  intro E F
  refine W.seq ?_
  refine W.region ?_
  refine RL.e (Eff.alloc 105 zc44) rfl ?_
  rintro _ _ ⟨b5, rfl, rfl⟩
  refine RL.nil ?_
  refine N.next ?_
  refine W.seq ?_
  refine W.region ?_
  refine RL.q (Yld.move rfl) rfl ?_
  refine RL.q (Yld.move rfl) rfl ?_
  refine RL.q (Yld.fieldAddr fo84_0 rfl) rfl ?_
  refine RL.q (Yld.load1 (c := 1) Tryd.underlying3 rfl rfl rfl (by first | exact single_self _ _ | exact pset_self _ _ _ | assumption) rfl) rfl ?_
  refine RL.q (Yld.buildP lay42 (.cons rfl rfl (.cons rfl rfl .nil)) rfl) rfl ?_
  refine RL.q (Yld.buildP lay44 (.cons rfl rfl (.cons rfl rfl (.cons rfl rfl .nil))) rfl) rfl ?_
  refine RL.e0 (Eff.storeS (c := 105) _ sz44 rfl rfl rfl rfl rfl rfl rfl (by (try simp only [putAt, List.take, List.drop, List.nil_append, List.cons_append, List.append_nil, List.length_cons, List.length_nil, Nat.add_zero, Nat.zero_add, Nat.reduceAdd]); rfl)) ?_
  rintro _ _ rfl
  refine RL.nil ?_
  refine N.next ?_
  refine W.keep (.cons (k := 5) rfl .nil) (.cons (k := 0) rfl (.cons (k := 1) rfl (.cons (k := 105) rfl .nil))) ?_
  refine W.ret ?_
  exact N.retBy [1] (.cons (by first | exact .cell (c := 105) rfl rfl (fun w hs => run_loadVarA Tryd.underlying44 rfl sz44 rfl (fun j u hj => by rw [Nat.zero_add, PH.sub.cell hs (by first | exact single_self _ _ | exact pset_self _ _ _ | assumption)]; exact hj))) .nil) rfl rfl rfl rfl ⟨rfl, rfl⟩

set_option maxRecDepth 100000 in
set_option maxHeartbeats 400000 in
theorem adm_ct (b b2 : Nat) (x : Mv) (y : St) (ch : Int) : Ct Tryd.prog 63 [.int .i64 ch, .pointer (some ⟨b, 0, none⟩), .pointer (some ⟨b2, 0, none⟩)] [single b (.cells [.int .i64 x.i, .int .i64 x.f, .int .i64 x.t].toArray 84 (0, 0)), single b2 (.cells [.int .i64 y.d, .int .i64 y.b, .int .i64 y.r, .int .i64 y.v].toArray 49 (0, 0))] (fun v Hs => v = admV x y ch ∧ Hs = [single b (.cells [.int .i64 x.i, .int .i64 x.f, .int .i64 x.t].toArray 84 (0, 0)), single b2 (.cells [.int .i64 y.d, .int .i64 y.b, .int .i64 y.r, .int .i64 y.v].toArray 49 (0, 0))]) := by
  refine Ct.body Tryd.func63 rfl Tryd.ntmps63 rfl ?_
  intro E F
  refine W.seq ?_
  refine W.region ?_
  refine RL.e (Eff.alloc 104 zc44) rfl ?_
  rintro _ _ ⟨b4, rfl, rfl⟩
  refine RL.nil ?_
  refine N.next ?_
  refine W.seq ?_
  refine W.region ?_
  refine RL.q (Yld.fieldAddr fo84_0 rfl) rfl ?_
  refine RL.q (Yld.load1 (c := 1) Tryd.underlying3 rfl rfl rfl (by first | exact single_self _ _ | exact pset_self _ _ _ | assumption) rfl) rfl ?_
  refine RL.q (Yld.move rfl) rfl ?_
  refine RL.q (Yld.fieldAddr fo49_2 rfl) rfl ?_
  refine RL.q (Yld.load1 (c := 2) Tryd.underlying3 rfl rfl rfl (by first | exact single_self _ _ | exact pset_self _ _ _ | assumption) rfl) rfl ?_
  refine RL.q (Yld.buildP lay44 (.cons rfl rfl (.cons rfl rfl (.cons rfl rfl (.cons rfl rfl .nil)))) rfl) rfl ?_
  refine RL.e0 (Eff.storeS (c := 104) _ sz44 rfl rfl rfl rfl rfl rfl rfl (by (try simp only [putAt, List.take, List.drop, List.nil_append, List.cons_append, List.append_nil, List.length_cons, List.length_nil, Nat.add_zero, Nat.zero_add, Nat.reduceAdd]); rfl)) ?_
  rintro _ _ rfl
  refine RL.nil ?_
  refine N.next ?_
  refine W.keep (.cons (k := 4) rfl .nil) (.cons (k := 0) rfl (.cons (k := 1) rfl (.cons (k := 2) rfl (.cons (k := 104) rfl .nil)))) ?_
  refine W.ret ?_
  exact N.retBy [1, 2] (.cons (by first | exact .cell (c := 104) rfl rfl (fun w hs => run_loadVarA Tryd.underlying44 rfl sz44 rfl (fun j u hj => by rw [Nat.zero_add, PH.sub.cell hs (by first | exact single_self _ _ | exact pset_self _ _ _ | assumption)]; exact hj))) .nil) rfl rfl rfl rfl ⟨rfl, rfl⟩

end Go.Proofs.YtdblglgnhjankaaDoor
