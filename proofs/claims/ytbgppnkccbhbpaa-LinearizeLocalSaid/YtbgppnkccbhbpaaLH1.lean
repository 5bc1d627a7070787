/- Contracts and walks of package history. Written by program (walk.py). -/
import Derived.Test.YtbgppnkccbhbpaaRows
import Derived.Test.YtbgppnkccbhbpaaHPure
import Derived.Test.YtbgppnkccbhbpaaSlGrp
namespace Go.Proofs.Ytbgppnkccbhbpaa
open SL HistLaw
set_option linter.unusedVariables false
set_option linter.unusedSimpArgs false
theorem fo42_6 : fieldOff Try.prog 42 6 = some 11 := by kernel_rfl
theorem sz42 : sz Try.prog 42 12 := (by kernel_rfl : (Try.prog.info? 42).map (·.size) = some 12)
theorem ent43 : Ent Try.prog 43 := ⟨_, _, Try.func43, by kernel_rfl, rfl⟩
theorem fo42_5 : fieldOff Try.prog 42 5 = some 10 := by kernel_rfl
theorem fo38_0 : fieldOff Try.prog 38 0 = some 0 := by kernel_rfl
theorem fo38_1 : fieldOff Try.prog 38 1 = some 1 := by kernel_rfl
theorem fo38_3 : fieldOff Try.prog 38 3 = some 3 := by kernel_rfl
theorem fo38_2 : fieldOff Try.prog 38 2 = some 2 := by kernel_rfl
theorem fo42_3 : fieldOff Try.prog 42 3 = some 3 := by kernel_rfl
theorem sz38 : sz Try.prog 38 4 := (by kernel_rfl : (Try.prog.info? 38).map (·.size) = some 4)
theorem zc38 : zc Try.prog 38 [.int .i64 0, .string .empty, .int .i64 0, .int .i64 0] := (by kernel_rfl : ((Try.prog.info? 38).bind (·.zero)).map (fun v => v.cells.toList) = some [.int .i64 0, .string .empty, .int .i64 0, .int .i64 0])
theorem fo42_0 : fieldOff Try.prog 42 0 = some 0 := by kernel_rfl
theorem fo42_1 : fieldOff Try.prog 42 1 = some 1 := by kernel_rfl
theorem fo42_4 : fieldOff Try.prog 42 4 = some 7 := by kernel_rfl
theorem sz40 : sz Try.prog 40 3 := (by kernel_rfl : (Try.prog.info? 40).map (·.size) = some 3)
theorem lay40 : layS Try.prog 40 = some ([.int .i64 0, .bool false, .int .i64 0], [(0, 1), (1, 1), (2, 1)]) := by kernel_rfl
theorem eqg40 : Program.eqGuardType Try.prog (Program.depth Try.prog) 40 = false := by kernel_rfl
theorem sih40 : Program.stoodInHeld Try.prog 40 = false := by kernel_rfl
theorem key_nil {s : ByteArray} : s = { data := #[] } ↔ (s.size : Int) = 0 := by
  constructor
  · rintro rfl; rfl
  · intro h
    have h2 : s.data.size = 0 := by have : s.data.size = s.size := rfl; omega
    cases s with | mk d => simp at h2; simp [h2]

set_option maxRecDepth 100000 in
set_option maxHeartbeats 400000 in
theorem complete_ct (a : O) : Ct Try.prog 43 [.agg [.int .i64 a.cl, .int .i64 a.nu, .int .i64 a.gr, .int .i64 a.kd, .string a.key, .int .i64 a.val, .int .i64 a.old, .int .i64 a.code, .bool a.fnd, .int .i64 a.rv, .int .i64 a.inv, .int .i64 a.rsp].toArray] [] (fun v Hs => v = .bool (decide (0 ≤ a.rsp)) ∧ Hs = []) := by
  refine Ct.body Try.func43 rfl Try.ntmps43 rfl ?_
  intro E F
  refine W.seq ?_
  refine W.region ?_
  refine RL.e (Eff.box 101 _ rfl rfl) rfl ?_
  rintro _ _ ⟨b1, rfl, rfl⟩
  refine RL.q (Yld.assign rfl) rfl ?_
  refine RL.nil ?_
  refine N.next ?_
  refine W.seq ?_
  refine W.region ?_
  refine RL.q (Yld.fieldAddr fo42_6 rfl) rfl ?_
  refine RL.q (Yld.load1 (c := 101) Try.underlying3 rfl rfl rfl (by first | exact single_self _ _ | exact pset_self _ _ _ | assumption) rfl) rfl ?_
  refine RL.q (Yld.bin rfl rfl BinV.geq) rfl ?_
  refine RL.q (Yld.assign rfl) rfl ?_
  refine RL.nil ?_
  refine N.next ?_
  refine W.keep (.cons (k := 2) rfl .nil) (.cons (k := 0) rfl (.cons (k := 101) rfl .nil)) ?_
  refine W.ret ?_
  exact N.retBy [] (.cons (.tmp rfl) .nil) rfl rfl rfl rfl ⟨rfl, rfl⟩

set_option maxRecDepth 100000 in
set_option maxHeartbeats 400000 in
theorem precedes_ct (a b : O) : Ct Try.prog 34 [.agg [.int .i64 a.cl, .int .i64 a.nu, .int .i64 a.gr, .int .i64 a.kd, .string a.key, .int .i64 a.val, .int .i64 a.old, .int .i64 a.code, .bool a.fnd, .int .i64 a.rv, .int .i64 a.inv, .int .i64 a.rsp].toArray, .agg [.int .i64 b.cl, .int .i64 b.nu, .int .i64 b.gr, .int .i64 b.kd, .string b.key, .int .i64 b.val, .int .i64 b.old, .int .i64 b.code, .bool b.fnd, .int .i64 b.rv, .int .i64 b.inv, .int .i64 b.rsp].toArray] [] (fun v Hs => v = .bool (decide (Prec a b)) ∧ Hs = []) := by
  refine Ct.body Try.func34 rfl Try.ntmps34 rfl ?_
  intro E F
  refine W.seq ?_
  refine W.region ?_
  refine RL.e (Eff.box 102 _ rfl rfl) rfl ?_
  rintro _ _ ⟨b2, rfl, rfl⟩
  refine RL.e (Eff.box 103 _ rfl rfl) rfl ?_
  rintro _ _ ⟨b3, rfl, rfl⟩
  refine RL.q (Yld.assign rfl) rfl ?_
  refine RL.nil ?_
  refine N.next ?_
  refine W.seq ?_
  refine W.region ?_
  refine RL.q (Yld.loadW (c := 102) Try.underlying42 rfl sz42 rfl rfl (by first | exact single_self _ _ | exact pset_self _ _ _ | assumption) rfl) rfl ?_
  refine RL.e (Eff.call ent43 [] [] (.cons rfl .nil) (complete_ct _) rfl rfl rfl rfl (by rintro _ _ ⟨_, rfl⟩; rfl)) rfl ?_
  rintro _ _ ⟨_, ⟨rfl, rfl⟩, rfl⟩
  refine RL.q (Yld.move rfl) rfl ?_
  refine' RL.and (t := 7) (d := 13) 6 rfl (.cons (k := 0) rfl (.cons (k := 1) rfl (.cons (k := 2) rfl (.cons (k := 3) rfl (.cons (k := 4) rfl (.cons (k := 5) rfl (.cons (k := 6) rfl .nil))))))) (.cons (k := 0) rfl (.cons (k := 102) rfl (.cons (k := 103) rfl .nil))) ?_ ?_ ?_
  rotate_left 1
  ·
    intro hg7
    refine RL.gq rfl rfl (Yld.fieldAddr fo42_6 rfl) rfl ?_
    refine RL.gq rfl rfl (Yld.load1 (c := 102) Try.underlying3 rfl rfl rfl (by first | exact single_self _ _ | exact pset_self _ _ _ | assumption) rfl) rfl ?_
    refine RL.gq rfl rfl (Yld.fieldAddr fo42_5 rfl) rfl ?_
    refine RL.gq rfl rfl (Yld.load1 (c := 103) Try.underlying3 rfl rfl rfl (by first | exact single_self _ _ | exact pset_self _ _ _ | assumption) rfl) rfl ?_
    refine RL.gq rfl rfl (Yld.bin rfl rfl BinV.lss) rfl ?_
    refine RL.q (by first | exact Yld.pickT rfl rfl | exact Yld.pickF rfl rfl) rfl ?_
    exact RL.nil (N.meet (.cons rfl (.cons rfl (.cons rfl (.cons rfl (.cons rfl (.cons rfl (.cons rfl (.cons rfl .nil)))))))) (.cons rfl (.cons rfl (.cons rfl .nil))))
  ·
    intro hg7
    refine RL.gskip rfl rfl rfl rfl ?_
    refine RL.gskip rfl rfl rfl rfl ?_
    refine RL.gskip rfl rfl rfl rfl ?_
    refine RL.gskip rfl rfl rfl rfl ?_
    refine RL.gskip rfl rfl rfl rfl ?_
    refine RL.q (by first | exact Yld.pickT rfl rfl | exact Yld.pickF rfl rfl) rfl ?_
    exact RL.nil (N.meet (.cons rfl (.cons rfl (.cons rfl (.cons rfl (.cons rfl (.cons rfl (.cons rfl (.cons rfl .nil)))))))) (.cons rfl (.cons rfl (.cons rfl .nil))))
  refine RL.q (Yld.assign rfl) rfl ?_
  refine RL.nil ?_
  refine N.next ?_
  refine W.keep (.cons (k := 4) rfl .nil) (.cons (k := 0) rfl (.cons (k := 102) rfl (.cons (k := 103) rfl .nil))) ?_
  refine W.ret ?_
  exact N.retBy [] (.cons (.tmp rfl) .nil) rfl rfl rfl rfl ⟨by show Value.bool _ = _; rw [Value.bool.injEq, Bool.eq_iff_iff]; simp only [Bool.false_eq_true, Bool.true_eq_false, true_iff, false_iff, and_true, Bool.or_eq_true, Bool.and_eq_true, Bool.not_eq_true', Bool.not_eq_false', decide_eq_true_eq, Bool.or_eq_false_iff, Bool.and_eq_false_iff, decide_eq_false_iff_not, beq_iff_eq, beq_eq_false_iff_ne, ne_eq, Decidable.not_not]; unfold Prec; omega, rfl⟩

set_option maxRecDepth 100000 in
set_option maxHeartbeats 400000 in
theorem rprecedes_ct (a b : O) : Ct Try.prog 32 [.agg [.int .i64 a.cl, .int .i64 a.nu, .int .i64 a.gr, .int .i64 a.kd, .string a.key, .int .i64 a.val, .int .i64 a.old, .int .i64 a.code, .bool a.fnd, .int .i64 a.rv, .int .i64 a.inv, .int .i64 a.rsp].toArray, .agg [.int .i64 b.cl, .int .i64 b.nu, .int .i64 b.gr, .int .i64 b.kd, .string b.key, .int .i64 b.val, .int .i64 b.old, .int .i64 b.code, .bool b.fnd, .int .i64 b.rv, .int .i64 b.inv, .int .i64 b.rsp].toArray] [] (fun v Hs => v = .bool (decide (Prec a b)) ∧ Hs = []) := by
  refine Ct.body Try.func32 rfl Try.ntmps32 rfl ?_
  intro E F
  refine W.seq ?_
  refine W.region ?_
  refine RL.e (Eff.box 102 _ rfl rfl) rfl ?_
  rintro _ _ ⟨b2, rfl, rfl⟩
  refine RL.e (Eff.box 103 _ rfl rfl) rfl ?_
  rintro _ _ ⟨b3, rfl, rfl⟩
  refine RL.q (Yld.assign rfl) rfl ?_
  refine RL.nil ?_
  refine N.next ?_
  refine W.seq ?_
  refine W.region ?_
  refine RL.q (Yld.fieldAddr fo42_6 rfl) rfl ?_
  refine RL.q (Yld.load1 (c := 102) Try.underlying3 rfl rfl rfl (by first | exact single_self _ _ | exact pset_self _ _ _ | assumption) rfl) rfl ?_
  refine RL.q (Yld.bin rfl rfl BinV.geq) rfl ?_
  refine RL.q (Yld.move rfl) rfl ?_
  refine' RL.and (t := 8) (d := 14) 6 rfl (.cons (k := 0) rfl (.cons (k := 1) rfl (.cons (k := 2) rfl (.cons (k := 3) rfl (.cons (k := 4) rfl (.cons (k := 5) rfl (.cons (k := 6) rfl (.cons (k := 7) rfl .nil)))))))) (.cons (k := 0) rfl (.cons (k := 102) rfl (.cons (k := 103) rfl .nil))) ?_ ?_ ?_
  rotate_left 1
  ·
    intro hg8
    refine RL.gq rfl rfl (Yld.fieldAddr fo42_6 rfl) rfl ?_
    refine RL.gq rfl rfl (Yld.load1 (c := 102) Try.underlying3 rfl rfl rfl (by first | exact single_self _ _ | exact pset_self _ _ _ | assumption) rfl) rfl ?_
    refine RL.gq rfl rfl (Yld.fieldAddr fo42_5 rfl) rfl ?_
    refine RL.gq rfl rfl (Yld.load1 (c := 103) Try.underlying3 rfl rfl rfl (by first | exact single_self _ _ | exact pset_self _ _ _ | assumption) rfl) rfl ?_
    refine RL.gq rfl rfl (Yld.bin rfl rfl BinV.lss) rfl ?_
    refine RL.q (by first | exact Yld.pickT rfl rfl | exact Yld.pickF rfl rfl) rfl ?_
    exact RL.nil (N.meet (.cons rfl (.cons rfl (.cons rfl (.cons rfl (.cons rfl (.cons rfl (.cons rfl (.cons rfl (.cons rfl .nil))))))))) (.cons rfl (.cons rfl (.cons rfl .nil))))
  ·
    intro hg8
    refine RL.gskip rfl rfl rfl rfl ?_
    refine RL.gskip rfl rfl rfl rfl ?_
    refine RL.gskip rfl rfl rfl rfl ?_
    refine RL.gskip rfl rfl rfl rfl ?_
    refine RL.gskip rfl rfl rfl rfl ?_
    refine RL.q (by first | exact Yld.pickT rfl rfl | exact Yld.pickF rfl rfl) rfl ?_
    exact RL.nil (N.meet (.cons rfl (.cons rfl (.cons rfl (.cons rfl (.cons rfl (.cons rfl (.cons rfl (.cons rfl (.cons rfl .nil))))))))) (.cons rfl (.cons rfl (.cons rfl .nil))))
  refine RL.q (Yld.assign rfl) rfl ?_
  refine RL.nil ?_
  refine N.next ?_
  refine W.keep (.cons (k := 4) rfl .nil) (.cons (k := 0) rfl (.cons (k := 102) rfl (.cons (k := 103) rfl .nil))) ?_
  refine W.ret ?_
  exact N.retBy [] (.cons (.tmp rfl) .nil) rfl rfl rfl rfl ⟨by show Value.bool _ = _; rw [Value.bool.injEq, Bool.eq_iff_iff]; simp only [Bool.false_eq_true, Bool.true_eq_false, true_iff, false_iff, and_true, Bool.or_eq_true, Bool.and_eq_true, Bool.not_eq_true', Bool.not_eq_false', decide_eq_true_eq, Bool.or_eq_false_iff, Bool.and_eq_false_iff, decide_eq_false_iff_not, beq_iff_eq, beq_eq_false_iff_ne, ne_eq, Decidable.not_not]; unfold Prec; omega, rfl⟩

set_option maxRecDepth 100000 in
set_option maxHeartbeats 400000 in
theorem validOp_ct (a : O) : Ct Try.prog 22 [.agg [.int .i64 a.kd, .string a.key, .int .i64 a.val, .int .i64 a.old].toArray] [] (fun v Hs => v = .bool (decide (OpOK a)) ∧ Hs = []) := by
  refine Ct.body Try.func22 rfl Try.ntmps22 rfl ?_
  intro E F
  refine W.seq ?_
  refine W.region ?_
  refine RL.e (Eff.box 101 _ rfl rfl) rfl ?_
  rintro _ _ ⟨b1, rfl, rfl⟩
  refine RL.q (Yld.assign rfl) rfl ?_
  refine RL.nil ?_
  refine N.next ?_
  refine W.seq ?_
  refine W.region ?_
  refine RL.q (Yld.fieldAddr fo38_0 rfl) rfl ?_
  refine RL.q (Yld.load1 (c := 101) Try.underlying3 rfl rfl rfl (by first | exact single_self _ _ | exact pset_self _ _ _ | assumption) rfl) rfl ?_
  refine RL.q (Yld.bin rfl rfl BinV.geq) rfl ?_
  refine RL.q (Yld.move rfl) rfl ?_
  refine' RL.and (t := 6) (d := 10) 4 rfl (.cons (k := 0) rfl (.cons (k := 1) rfl (.cons (k := 2) rfl (.cons (k := 3) rfl (.cons (k := 4) rfl (.cons (k := 5) rfl .nil)))))) (.cons (k := 0) rfl (.cons (k := 101) rfl .nil)) ?_ ?_ ?_
  rotate_left 1
  ·
    intro hg6
    refine RL.gq rfl rfl (Yld.fieldAddr fo38_0 rfl) rfl ?_
    refine RL.gq rfl rfl (Yld.load1 (c := 101) Try.underlying3 rfl rfl rfl (by first | exact single_self _ _ | exact pset_self _ _ _ | assumption) rfl) rfl ?_
    refine RL.gq rfl rfl (Yld.bin rfl rfl BinV.leq) rfl ?_
    refine RL.q (by first | exact Yld.pickT rfl rfl | exact Yld.pickF rfl rfl) rfl ?_
    exact RL.nil (N.meet (.cons rfl (.cons rfl (.cons rfl (.cons rfl (.cons rfl (.cons rfl (.cons rfl .nil))))))) (.cons rfl (.cons rfl .nil)))
  ·
    intro hg6
    refine RL.gskip rfl rfl rfl rfl ?_
    refine RL.gskip rfl rfl rfl rfl ?_
    refine RL.gskip rfl rfl rfl rfl ?_
    refine RL.q (by first | exact Yld.pickT rfl rfl | exact Yld.pickF rfl rfl) rfl ?_
    exact RL.nil (N.meet (.cons rfl (.cons rfl (.cons rfl (.cons rfl (.cons rfl (.cons rfl (.cons rfl .nil))))))) (.cons rfl (.cons rfl .nil)))
  refine RL.q (Yld.move rfl) rfl ?_
  refine' RL.and (t := 11) (d := 16) 5 rfl (.cons (k := 0) rfl (.cons (k := 1) rfl (.cons (k := 2) rfl (.cons (k := 3) rfl (.cons (k := 4) rfl (.cons (k := 5) rfl (.cons (k := 10) rfl .nil))))))) (.cons (k := 0) rfl (.cons (k := 101) rfl .nil)) ?_ ?_ ?_
  rotate_left 1
  ·
    intro hg11
    refine RL.gq rfl rfl (Yld.fieldAddr fo38_1 rfl) rfl ?_
    refine RL.gq rfl rfl (Yld.load1 (c := 101) Try.underlying9 rfl rfl rfl (by first | exact single_self _ _ | exact pset_self _ _ _ | assumption) rfl) rfl ?_
    refine RL.gq rfl rfl (Yld.lenS Try.underlying9 rfl) rfl ?_
    refine RL.gq rfl rfl (Yld.bin rfl rfl BinV.geq) rfl ?_
    refine RL.q (by first | exact Yld.pickT rfl rfl | exact Yld.pickF rfl rfl) rfl ?_
    exact RL.nil (N.meet (.cons rfl (.cons rfl (.cons rfl (.cons rfl (.cons rfl (.cons rfl (.cons rfl (.cons rfl .nil)))))))) (.cons rfl (.cons rfl .nil)))
  ·
    intro hg11
    refine RL.gskip rfl rfl rfl rfl ?_
    refine RL.gskip rfl rfl rfl rfl ?_
    refine RL.gskip rfl rfl rfl rfl ?_
    refine RL.gskip rfl rfl rfl rfl ?_
    refine RL.q (by first | exact Yld.pickT rfl rfl | exact Yld.pickF rfl rfl) rfl ?_
    exact RL.nil (N.meet (.cons rfl (.cons rfl (.cons rfl (.cons rfl (.cons rfl (.cons rfl (.cons rfl (.cons rfl .nil)))))))) (.cons rfl (.cons rfl .nil)))
  refine RL.q (Yld.move rfl) rfl ?_
  refine' RL.and (t := 17) (d := 22) 5 rfl (.cons (k := 0) rfl (.cons (k := 1) rfl (.cons (k := 2) rfl (.cons (k := 3) rfl (.cons (k := 4) rfl (.cons (k := 5) rfl (.cons (k := 10) rfl (.cons (k := 16) rfl .nil)))))))) (.cons (k := 0) rfl (.cons (k := 101) rfl .nil)) ?_ ?_ ?_
  rotate_left 1
  ·
    intro hg17
    refine RL.gq rfl rfl (Yld.fieldAddr fo38_1 rfl) rfl ?_
    refine RL.gq rfl rfl (Yld.load1 (c := 101) Try.underlying9 rfl rfl rfl (by first | exact single_self _ _ | exact pset_self _ _ _ | assumption) rfl) rfl ?_
    refine RL.gq rfl rfl (Yld.lenS Try.underlying9 rfl) rfl ?_
    refine RL.gq rfl rfl (Yld.bin rfl rfl BinV.leq) rfl ?_
    refine RL.q (by first | exact Yld.pickT rfl rfl | exact Yld.pickF rfl rfl) rfl ?_
    exact RL.nil (N.meet (.cons rfl (.cons rfl (.cons rfl (.cons rfl (.cons rfl (.cons rfl (.cons rfl (.cons rfl (.cons rfl .nil))))))))) (.cons rfl (.cons rfl .nil)))
  ·
    intro hg17
    refine RL.gskip rfl rfl rfl rfl ?_
    refine RL.gskip rfl rfl rfl rfl ?_
    refine RL.gskip rfl rfl rfl rfl ?_
    refine RL.gskip rfl rfl rfl rfl ?_
    refine RL.q (by first | exact Yld.pickT rfl rfl | exact Yld.pickF rfl rfl) rfl ?_
    exact RL.nil (N.meet (.cons rfl (.cons rfl (.cons rfl (.cons rfl (.cons rfl (.cons rfl (.cons rfl (.cons rfl (.cons rfl .nil))))))))) (.cons rfl (.cons rfl .nil)))
  refine RL.q (Yld.move rfl) rfl ?_
  refine' RL.and (t := 23) (d := 32) 9 rfl (.cons (k := 0) rfl (.cons (k := 1) rfl (.cons (k := 2) rfl (.cons (k := 3) rfl (.cons (k := 4) rfl (.cons (k := 5) rfl (.cons (k := 10) rfl (.cons (k := 16) rfl (.cons (k := 22) rfl .nil))))))))) (.cons (k := 0) rfl (.cons (k := 101) rfl .nil)) ?_ ?_ ?_
  rotate_left 1
  ·
    intro hg23
    refine RL.gq rfl rfl (Yld.fieldAddr fo38_3 rfl) rfl ?_
    refine RL.gq rfl rfl (Yld.load1 (c := 101) Try.underlying2 rfl rfl rfl (by first | exact single_self _ _ | exact pset_self _ _ _ | assumption) rfl) rfl ?_
    refine RL.gq rfl rfl (Yld.bin rfl rfl BinV.eql) rfl ?_
    refine RL.gq rfl rfl (Yld.move rfl) rfl ?_
    refine' RL.or (t := 27) (d := 31) 4 rfl (.cons (k := 0) rfl (.cons (k := 1) rfl (.cons (k := 2) rfl (.cons (k := 3) rfl (.cons (k := 4) rfl (.cons (k := 5) rfl (.cons (k := 10) rfl (.cons (k := 16) rfl (.cons (k := 22) rfl (.cons (k := 23) rfl (.cons (k := 24) rfl (.cons (k := 25) rfl (.cons (k := 26) rfl .nil))))))))))))) (.cons (k := 0) rfl (.cons (k := 101) rfl .nil)) ?_ ?_ ?_
    rotate_left 1
    ·
      intro hg27
      refine RL.gq rfl rfl (Yld.fieldAddr fo38_0 rfl) rfl ?_
      refine RL.gq rfl rfl (Yld.load1 (c := 101) Try.underlying3 rfl rfl rfl (by first | exact single_self _ _ | exact pset_self _ _ _ | assumption) rfl) rfl ?_
      refine RL.gq rfl rfl (Yld.bin rfl rfl BinV.eql) rfl ?_
      refine RL.gq rfl rfl (by first | exact Yld.pickT rfl rfl | exact Yld.pickF rfl rfl) rfl ?_
      exact RL.nil (N.meet (.cons rfl (.cons rfl (.cons rfl (.cons rfl (.cons rfl (.cons rfl (.cons rfl (.cons rfl (.cons rfl (.cons rfl (.cons rfl (.cons rfl (.cons rfl (.cons rfl .nil)))))))))))))) (.cons rfl (.cons rfl .nil)))
    ·
      intro hg27
      refine RL.gskip rfl rfl rfl rfl ?_
      refine RL.gskip rfl rfl rfl rfl ?_
      refine RL.gskip rfl rfl rfl rfl ?_
      refine RL.gq rfl rfl (by first | exact Yld.pickT rfl rfl | exact Yld.pickF rfl rfl) rfl ?_
      exact RL.nil (N.meet (.cons rfl (.cons rfl (.cons rfl (.cons rfl (.cons rfl (.cons rfl (.cons rfl (.cons rfl (.cons rfl (.cons rfl (.cons rfl (.cons rfl (.cons rfl (.cons rfl .nil)))))))))))))) (.cons rfl (.cons rfl .nil)))
    refine RL.q (by first | exact Yld.pickT rfl rfl | exact Yld.pickF rfl rfl) rfl ?_
    exact RL.nil (N.meet (.cons rfl (.cons rfl (.cons rfl (.cons rfl (.cons rfl (.cons rfl (.cons rfl (.cons rfl (.cons rfl (.cons rfl .nil)))))))))) (.cons rfl (.cons rfl .nil)))
  ·
    intro hg23
    refine RL.gskip rfl rfl rfl rfl ?_
    refine RL.gskip rfl rfl rfl rfl ?_
    refine RL.gskip rfl rfl rfl rfl ?_
    refine RL.gskip rfl rfl rfl rfl ?_
    refine RL.gskipU rfl rfl rfl ?_
    refine RL.gskipU rfl rfl rfl ?_
    refine RL.gskipU rfl rfl rfl ?_
    refine RL.gskip rfl rfl rfl rfl ?_
    refine RL.q (by first | exact Yld.pickT rfl rfl | exact Yld.pickF rfl rfl) rfl ?_
    exact RL.nil (N.meet (.cons rfl (.cons rfl (.cons rfl (.cons rfl (.cons rfl (.cons rfl (.cons rfl (.cons rfl (.cons rfl (.cons rfl .nil)))))))))) (.cons rfl (.cons rfl .nil)))
  refine RL.q (Yld.move rfl) rfl ?_
  refine' RL.and (t := 33) (d := 42) 9 rfl (.cons (k := 0) rfl (.cons (k := 1) rfl (.cons (k := 2) rfl (.cons (k := 3) rfl (.cons (k := 4) rfl (.cons (k := 5) rfl (.cons (k := 10) rfl (.cons (k := 16) rfl (.cons (k := 22) rfl (.cons (k := 32) rfl .nil)))))))))) (.cons (k := 0) rfl (.cons (k := 101) rfl .nil)) ?_ ?_ ?_
  rotate_left 1
  ·
    intro hg33
    refine RL.gq rfl rfl (Yld.fieldAddr fo38_2 rfl) rfl ?_
    refine RL.gq rfl rfl (Yld.load1 (c := 101) Try.underlying2 rfl rfl rfl (by first | exact single_self _ _ | exact pset_self _ _ _ | assumption) rfl) rfl ?_
    refine RL.gq rfl rfl (Yld.bin rfl rfl BinV.eql) rfl ?_
    refine RL.gq rfl rfl (Yld.move rfl) rfl ?_
    refine' RL.or (t := 37) (d := 41) 4 rfl (.cons (k := 0) rfl (.cons (k := 1) rfl (.cons (k := 2) rfl (.cons (k := 3) rfl (.cons (k := 4) rfl (.cons (k := 5) rfl (.cons (k := 10) rfl (.cons (k := 16) rfl (.cons (k := 22) rfl (.cons (k := 32) rfl (.cons (k := 33) rfl (.cons (k := 34) rfl (.cons (k := 35) rfl (.cons (k := 36) rfl .nil)))))))))))))) (.cons (k := 0) rfl (.cons (k := 101) rfl .nil)) ?_ ?_ ?_
    rotate_left 1
    ·
      intro hg37
      refine RL.gq rfl rfl (Yld.fieldAddr fo38_0 rfl) rfl ?_
      refine RL.gq rfl rfl (Yld.load1 (c := 101) Try.underlying3 rfl rfl rfl (by first | exact single_self _ _ | exact pset_self _ _ _ | assumption) rfl) rfl ?_
      refine RL.gq rfl rfl (Yld.bin rfl rfl BinV.neq) rfl ?_
      refine RL.gq rfl rfl (by first | exact Yld.pickT rfl rfl | exact Yld.pickF rfl rfl) rfl ?_
      exact RL.nil (N.meet (.cons rfl (.cons rfl (.cons rfl (.cons rfl (.cons rfl (.cons rfl (.cons rfl (.cons rfl (.cons rfl (.cons rfl (.cons rfl (.cons rfl (.cons rfl (.cons rfl (.cons rfl .nil))))))))))))))) (.cons rfl (.cons rfl .nil)))
    ·
      intro hg37
      refine RL.gskip rfl rfl rfl rfl ?_
      refine RL.gskip rfl rfl rfl rfl ?_
      refine RL.gskip rfl rfl rfl rfl ?_
      refine RL.gq rfl rfl (by first | exact Yld.pickT rfl rfl | exact Yld.pickF rfl rfl) rfl ?_
      exact RL.nil (N.meet (.cons rfl (.cons rfl (.cons rfl (.cons rfl (.cons rfl (.cons rfl (.cons rfl (.cons rfl (.cons rfl (.cons rfl (.cons rfl (.cons rfl (.cons rfl (.cons rfl (.cons rfl .nil))))))))))))))) (.cons rfl (.cons rfl .nil)))
    refine RL.q (by first | exact Yld.pickT rfl rfl | exact Yld.pickF rfl rfl) rfl ?_
    exact RL.nil (N.meet (.cons rfl (.cons rfl (.cons rfl (.cons rfl (.cons rfl (.cons rfl (.cons rfl (.cons rfl (.cons rfl (.cons rfl (.cons rfl .nil))))))))))) (.cons rfl (.cons rfl .nil)))
  ·
    intro hg33
    refine RL.gskip rfl rfl rfl rfl ?_
    refine RL.gskip rfl rfl rfl rfl ?_
    refine RL.gskip rfl rfl rfl rfl ?_
    refine RL.gskip rfl rfl rfl rfl ?_
    refine RL.gskipU rfl rfl rfl ?_
    refine RL.gskipU rfl rfl rfl ?_
    refine RL.gskipU rfl rfl rfl ?_
    refine RL.gskip rfl rfl rfl rfl ?_
    refine RL.q (by first | exact Yld.pickT rfl rfl | exact Yld.pickF rfl rfl) rfl ?_
    exact RL.nil (N.meet (.cons rfl (.cons rfl (.cons rfl (.cons rfl (.cons rfl (.cons rfl (.cons rfl (.cons rfl (.cons rfl (.cons rfl (.cons rfl .nil))))))))))) (.cons rfl (.cons rfl .nil)))
  refine RL.q (Yld.assign rfl) rfl ?_
  refine RL.nil ?_
  refine N.next ?_
  refine W.keep (.cons (k := 2) rfl .nil) (.cons (k := 0) rfl (.cons (k := 101) rfl .nil)) ?_
  refine W.ret ?_
  exact N.retBy [] (.cons (.tmp rfl) .nil) rfl rfl rfl rfl ⟨by show Value.bool _ = _; rw [Value.bool.injEq, Bool.eq_iff_iff]; simp only [Bool.false_eq_true, Bool.true_eq_false, true_iff, false_iff, and_true, Bool.or_eq_true, Bool.and_eq_true, Bool.not_eq_true', Bool.not_eq_false', decide_eq_true_eq, Bool.or_eq_false_iff, Bool.and_eq_false_iff, decide_eq_false_iff_not, beq_iff_eq, beq_eq_false_iff_ne, ne_eq, Decidable.not_not]; unfold OpOK; omega, rfl⟩

set_option maxRecDepth 100000 in
set_option maxHeartbeats 400000 in
theorem formed_ct (a : O) : Ct Try.prog 42 [.agg [.int .i64 a.cl, .int .i64 a.nu, .int .i64 a.gr, .int .i64 a.kd, .string a.key, .int .i64 a.val, .int .i64 a.old, .int .i64 a.code, .bool a.fnd, .int .i64 a.rv, .int .i64 a.inv, .int .i64 a.rsp].toArray] [] (fun v Hs => v = .bool (decide (Formed a)) ∧ Hs = []) := by
  refine Ct.body Try.func42 rfl Try.ntmps42 rfl ?_
  intro E F
  refine W.seq ?_
  refine W.region ?_
  refine RL.e (Eff.box 101 _ rfl rfl) rfl ?_
  rintro _ _ ⟨b1, rfl, rfl⟩
  refine RL.q (Yld.assign rfl) rfl ?_
  refine RL.nil ?_
  refine N.next ?_
  refine W.seq ?_
  refine W.region ?_
  refine RL.q (Yld.fieldAddr fo42_3 rfl) rfl ?_
  refine RL.q (Yld.loadA (c := 101) Try.underlying38 rfl sz38 rfl rfl (by first | exact single_self _ _ | exact pset_self _ _ _ | assumption) rfl rfl) rfl ?_
  refine RL.e (Eff.alloc 103 zc38) rfl ?_
  rintro _ _ ⟨b3, rfl, rfl⟩
  refine RL.e0 (Eff.storeS (c := 103) _ sz38 rfl rfl rfl rfl rfl rfl rfl (by (try simp only [putAt, List.take, List.drop, List.nil_append, List.cons_append, List.append_nil, List.length_cons, List.length_nil, Nat.add_zero, Nat.zero_add, Nat.reduceAdd]); rfl)) ?_
  rintro _ _ rfl
  refine RL.nil ?_
  refine N.next ?_
  refine W.keep (.cons (k := 1) rfl (.cons (k := 3) rfl .nil)) (.cons (k := 0) rfl (.cons (k := 101) rfl (.cons (k := 103) rfl .nil))) ?_
  refine W.seq ?_
  refine W.block ?_
  refine W.seq ?_
  refine W.region ?_
  refine RL.q (Yld.fieldAddr fo42_0 rfl) rfl ?_
  refine RL.q (Yld.load1 (c := 101) Try.underlying3 rfl rfl rfl (by first | exact single_self _ _ | exact pset_self _ _ _ | assumption) rfl) rfl ?_
  refine RL.q (Yld.bin rfl rfl BinV.lss) rfl ?_
  refine RL.q (Yld.move rfl) rfl ?_
  refine' RL.or (t := 10) (d := 14) 4 rfl (.cons (k := 1) rfl (.cons (k := 3) rfl (.cons (k := 7) rfl (.cons (k := 8) rfl (.cons (k := 9) rfl .nil))))) (.cons (k := 0) rfl (.cons (k := 101) rfl (.cons (k := 103) rfl .nil))) ?_ ?_ ?_
  rotate_left 1
  ·
    intro hg10
    refine RL.gq rfl rfl (Yld.fieldAddr fo42_1 rfl) rfl ?_
    refine RL.gq rfl rfl (Yld.load1 (c := 101) Try.underlying3 rfl rfl rfl (by first | exact single_self _ _ | exact pset_self _ _ _ | assumption) rfl) rfl ?_
    refine RL.gq rfl rfl (Yld.bin rfl rfl BinV.lss) rfl ?_
    refine RL.q (by first | exact Yld.pickT rfl rfl | exact Yld.pickF rfl rfl) rfl ?_
    exact RL.nil (N.meet (.cons rfl (.cons rfl (.cons rfl (.cons rfl (.cons rfl (.cons rfl .nil)))))) (.cons rfl (.cons rfl (.cons rfl .nil))))
  ·
    intro hg10
    refine RL.gskip rfl rfl rfl rfl ?_
    refine RL.gskip rfl rfl rfl rfl ?_
    refine RL.gskip rfl rfl rfl rfl ?_
    refine RL.q (by first | exact Yld.pickT rfl rfl | exact Yld.pickF rfl rfl) rfl ?_
    exact RL.nil (N.meet (.cons rfl (.cons rfl (.cons rfl (.cons rfl (.cons rfl (.cons rfl .nil)))))) (.cons rfl (.cons rfl (.cons rfl .nil))))
  refine RL.q (Yld.move rfl) rfl ?_
  refine' RL.or (t := 15) (d := 19) 4 rfl (.cons (k := 1) rfl (.cons (k := 3) rfl (.cons (k := 7) rfl (.cons (k := 8) rfl (.cons (k := 9) rfl (.cons (k := 14) rfl .nil)))))) (.cons (k := 0) rfl (.cons (k := 101) rfl (.cons (k := 103) rfl .nil))) ?_ ?_ ?_
  rotate_left 1
  ·
    intro hg15
    refine RL.gq rfl rfl (Yld.fieldAddr fo42_5 rfl) rfl ?_
    refine RL.gq rfl rfl (Yld.load1 (c := 101) Try.underlying3 rfl rfl rfl (by first | exact single_self _ _ | exact pset_self _ _ _ | assumption) rfl) rfl ?_
    refine RL.gq rfl rfl (Yld.bin rfl rfl BinV.lss) rfl ?_
    refine RL.q (by first | exact Yld.pickT rfl rfl | exact Yld.pickF rfl rfl) rfl ?_
    exact RL.nil (N.meet (.cons rfl (.cons rfl (.cons rfl (.cons rfl (.cons rfl (.cons rfl (.cons rfl .nil))))))) (.cons rfl (.cons rfl (.cons rfl .nil))))
  ·
    intro hg15
    refine RL.gskip rfl rfl rfl rfl ?_
    refine RL.gskip rfl rfl rfl rfl ?_
    refine RL.gskip rfl rfl rfl rfl ?_
    refine RL.q (by first | exact Yld.pickT rfl rfl | exact Yld.pickF rfl rfl) rfl ?_
    exact RL.nil (N.meet (.cons rfl (.cons rfl (.cons rfl (.cons rfl (.cons rfl (.cons rfl (.cons rfl .nil))))))) (.cons rfl (.cons rfl (.cons rfl .nil))))
  refine RL.q (Yld.move rfl) rfl ?_
  refine' RL.or (t := 20) (d := 24) 4 rfl (.cons (k := 1) rfl (.cons (k := 3) rfl (.cons (k := 7) rfl (.cons (k := 8) rfl (.cons (k := 9) rfl (.cons (k := 14) rfl (.cons (k := 19) rfl .nil))))))) (.cons (k := 0) rfl (.cons (k := 101) rfl (.cons (k := 103) rfl .nil))) ?_ ?_ ?_
  rotate_left 1
  ·
    intro hg20
    refine RL.gq rfl rfl (Yld.fieldAddr fo38_0 rfl) rfl ?_
    refine RL.gq rfl rfl (Yld.load1 (c := 103) Try.underlying3 rfl rfl rfl (by first | exact single_self _ _ | exact pset_self _ _ _ | assumption) rfl) rfl ?_
    refine RL.gq rfl rfl (Yld.bin rfl rfl BinV.lss) rfl ?_
    refine RL.q (by first | exact Yld.pickT rfl rfl | exact Yld.pickF rfl rfl) rfl ?_
    exact RL.nil (N.meet (.cons rfl (.cons rfl (.cons rfl (.cons rfl (.cons rfl (.cons rfl (.cons rfl (.cons rfl .nil)))))))) (.cons rfl (.cons rfl (.cons rfl .nil))))
  ·
    intro hg20
    refine RL.gskip rfl rfl rfl rfl ?_
    refine RL.gskip rfl rfl rfl rfl ?_
    refine RL.gskip rfl rfl rfl rfl ?_
    refine RL.q (by first | exact Yld.pickT rfl rfl | exact Yld.pickF rfl rfl) rfl ?_
    exact RL.nil (N.meet (.cons rfl (.cons rfl (.cons rfl (.cons rfl (.cons rfl (.cons rfl (.cons rfl (.cons rfl .nil)))))))) (.cons rfl (.cons rfl (.cons rfl .nil))))
  refine RL.q (Yld.move rfl) rfl ?_
  refine' RL.or (t := 25) (d := 29) 4 rfl (.cons (k := 1) rfl (.cons (k := 3) rfl (.cons (k := 7) rfl (.cons (k := 8) rfl (.cons (k := 9) rfl (.cons (k := 14) rfl (.cons (k := 19) rfl (.cons (k := 24) rfl .nil)))))))) (.cons (k := 0) rfl (.cons (k := 101) rfl (.cons (k := 103) rfl .nil))) ?_ ?_ ?_
  rotate_left 1
  ·
    intro hg25
    refine RL.gq rfl rfl (Yld.fieldAddr fo38_0 rfl) rfl ?_
    refine RL.gq rfl rfl (Yld.load1 (c := 103) Try.underlying3 rfl rfl rfl (by first | exact single_self _ _ | exact pset_self _ _ _ | assumption) rfl) rfl ?_
    refine RL.gq rfl rfl (Yld.bin rfl rfl BinV.gtr) rfl ?_
    refine RL.q (by first | exact Yld.pickT rfl rfl | exact Yld.pickF rfl rfl) rfl ?_
    exact RL.nil (N.meet (.cons rfl (.cons rfl (.cons rfl (.cons rfl (.cons rfl (.cons rfl (.cons rfl (.cons rfl (.cons rfl .nil))))))))) (.cons rfl (.cons rfl (.cons rfl .nil))))
  ·
    intro hg25
    refine RL.gskip rfl rfl rfl rfl ?_
    refine RL.gskip rfl rfl rfl rfl ?_
    refine RL.gskip rfl rfl rfl rfl ?_
    refine RL.q (by first | exact Yld.pickT rfl rfl | exact Yld.pickF rfl rfl) rfl ?_
    exact RL.nil (N.meet (.cons rfl (.cons rfl (.cons rfl (.cons rfl (.cons rfl (.cons rfl (.cons rfl (.cons rfl (.cons rfl .nil))))))))) (.cons rfl (.cons rfl (.cons rfl .nil))))
  refine RL.q (Yld.move rfl) rfl ?_
  refine' RL.or (t := 30) (d := 34) 4 rfl (.cons (k := 1) rfl (.cons (k := 3) rfl (.cons (k := 7) rfl (.cons (k := 8) rfl (.cons (k := 9) rfl (.cons (k := 14) rfl (.cons (k := 19) rfl (.cons (k := 24) rfl (.cons (k := 29) rfl .nil))))))))) (.cons (k := 0) rfl (.cons (k := 101) rfl (.cons (k := 103) rfl .nil))) ?_ ?_ ?_
  rotate_left 1
  ·
    intro hg30
    refine RL.gq rfl rfl (Yld.fieldAddr fo38_1 rfl) rfl ?_
    refine RL.gq rfl rfl (Yld.load1 (c := 103) Try.underlying9 rfl rfl rfl (by first | exact single_self _ _ | exact pset_self _ _ _ | assumption) rfl) rfl ?_
    refine RL.gq rfl rfl (Yld.bin rfl rfl BinV.eqlS) rfl ?_
    refine RL.q (by first | exact Yld.pickT rfl rfl | exact Yld.pickF rfl rfl) rfl ?_
    exact RL.nil (N.meet (.cons rfl (.cons rfl (.cons rfl (.cons rfl (.cons rfl (.cons rfl (.cons rfl (.cons rfl (.cons rfl (.cons rfl .nil)))))))))) (.cons rfl (.cons rfl (.cons rfl .nil))))
  ·
    intro hg30
    refine RL.gskip rfl rfl rfl rfl ?_
    refine RL.gskip rfl rfl rfl rfl ?_
    refine RL.gskip rfl rfl rfl rfl ?_
    refine RL.q (by first | exact Yld.pickT rfl rfl | exact Yld.pickF rfl rfl) rfl ?_
    exact RL.nil (N.meet (.cons rfl (.cons rfl (.cons rfl (.cons rfl (.cons rfl (.cons rfl (.cons rfl (.cons rfl (.cons rfl (.cons rfl .nil)))))))))) (.cons rfl (.cons rfl (.cons rfl .nil))))
  refine RL.q (Yld.move rfl) rfl ?_
  refine' RL.or (t := 35) (d := 40) 5 rfl (.cons (k := 1) rfl (.cons (k := 3) rfl (.cons (k := 7) rfl (.cons (k := 8) rfl (.cons (k := 9) rfl (.cons (k := 14) rfl (.cons (k := 19) rfl (.cons (k := 24) rfl (.cons (k := 29) rfl (.cons (k := 34) rfl .nil)))))))))) (.cons (k := 0) rfl (.cons (k := 101) rfl (.cons (k := 103) rfl .nil))) ?_ ?_ ?_
  rotate_left 1
  ·
    intro hg35
    refine RL.gq rfl rfl (Yld.fieldAddr fo38_1 rfl) rfl ?_
    refine RL.gq rfl rfl (Yld.load1 (c := 103) Try.underlying9 rfl rfl rfl (by first | exact single_self _ _ | exact pset_self _ _ _ | assumption) rfl) rfl ?_
    refine RL.gq rfl rfl (Yld.lenS Try.underlying9 rfl) rfl ?_
    refine RL.gq rfl rfl (Yld.bin rfl rfl BinV.gtr) rfl ?_
    refine RL.q (by first | exact Yld.pickT rfl rfl | exact Yld.pickF rfl rfl) rfl ?_
    exact RL.nil (N.meet (.cons rfl (.cons rfl (.cons rfl (.cons rfl (.cons rfl (.cons rfl (.cons rfl (.cons rfl (.cons rfl (.cons rfl (.cons rfl .nil))))))))))) (.cons rfl (.cons rfl (.cons rfl .nil))))
  ·
    intro hg35
    refine RL.gskip rfl rfl rfl rfl ?_
    refine RL.gskip rfl rfl rfl rfl ?_
    refine RL.gskip rfl rfl rfl rfl ?_
    refine RL.gskip rfl rfl rfl rfl ?_
    refine RL.q (by first | exact Yld.pickT rfl rfl | exact Yld.pickF rfl rfl) rfl ?_
    exact RL.nil (N.meet (.cons rfl (.cons rfl (.cons rfl (.cons rfl (.cons rfl (.cons rfl (.cons rfl (.cons rfl (.cons rfl (.cons rfl (.cons rfl .nil))))))))))) (.cons rfl (.cons rfl (.cons rfl .nil))))
  refine RL.q (Yld.assign rfl) rfl ?_
  refine RL.nil ?_
  refine N.next ?_
  refine W.keep (.cons (k := 1) rfl (.cons (k := 3) rfl (.cons (k := 6) rfl .nil))) (.cons (k := 0) rfl (.cons (k := 101) rfl (.cons (k := 103) rfl .nil))) ?_
  first | refine W.condD rfl (fun hc6 => ?_) (fun hc6 => ?_) | (refine W.cond rfl (fun hc6 => ?_) (fun hc6 => ?_) <;> try simp only [Bool.or_eq_true, Bool.and_eq_true, Bool.not_eq_true', Bool.not_eq_false', decide_eq_true_eq, Bool.or_eq_false_iff, Bool.and_eq_false_iff, decide_eq_false_iff_not, beq_iff_eq, beq_eq_false_iff_ne, ne_eq, Decidable.not_not] at hc6)
  ·
    rw [key_nil] at hc6
    refine W.seq ?_
    refine W.region ?_
    refine RL.q (Yld.assign rfl) rfl ?_
    refine RL.nil ?_
    refine N.next ?_
    refine W.ret ?_
    refine N.block_ret ?_
    refine N.then_ret ?_
    exact N.retBy [] (.cons (.tmp rfl) .nil) rfl rfl rfl rfl ⟨by show Value.bool _ = _; rw [Value.bool.injEq, Bool.eq_iff_iff]; simp only [Bool.false_eq_true, Bool.true_eq_false, true_iff, false_iff, and_true, Bool.or_eq_true, Bool.and_eq_true, Bool.not_eq_true', Bool.not_eq_false', decide_eq_true_eq, Bool.or_eq_false_iff, Bool.and_eq_false_iff, decide_eq_false_iff_not, beq_iff_eq, beq_eq_false_iff_ne, ne_eq, Decidable.not_not]; unfold Formed OpOK; omega, rfl⟩
  ·
    rw [key_nil] at hc6
    refine W.seq ?_
    refine W.region ?_
    refine RL.q (Yld.fieldAddr fo38_0 rfl) rfl ?_
    refine RL.q (Yld.load1 (c := 103) Try.underlying3 rfl rfl rfl (by first | exact single_self _ _ | exact pset_self _ _ _ | assumption) rfl) rfl ?_
    refine RL.q (Yld.bin rfl rfl BinV.neq) rfl ?_
    refine RL.q (Yld.move rfl) rfl ?_
    refine' RL.and (t := 45) (d := 49) 4 rfl (.cons (k := 1) rfl (.cons (k := 3) rfl (.cons (k := 6) rfl (.cons (k := 42) rfl (.cons (k := 43) rfl (.cons (k := 44) rfl .nil)))))) (.cons (k := 0) rfl (.cons (k := 101) rfl (.cons (k := 103) rfl .nil))) ?_ ?_ ?_
    rotate_left 1
    ·
      intro hg45
      refine RL.gq rfl rfl (Yld.fieldAddr fo38_3 rfl) rfl ?_
      refine RL.gq rfl rfl (Yld.load1 (c := 103) Try.underlying2 rfl rfl rfl (by first | exact single_self _ _ | exact pset_self _ _ _ | assumption) rfl) rfl ?_
      refine RL.gq rfl rfl (Yld.bin rfl rfl BinV.neq) rfl ?_
      refine RL.q (by first | exact Yld.pickT rfl rfl | exact Yld.pickF rfl rfl) rfl ?_
      exact RL.nil (N.meet (.cons rfl (.cons rfl (.cons rfl (.cons rfl (.cons rfl (.cons rfl (.cons rfl .nil))))))) (.cons rfl (.cons rfl (.cons rfl .nil))))
    ·
      intro hg45
      refine RL.gskip rfl rfl rfl rfl ?_
      refine RL.gskip rfl rfl rfl rfl ?_
      refine RL.gskip rfl rfl rfl rfl ?_
      refine RL.q (by first | exact Yld.pickT rfl rfl | exact Yld.pickF rfl rfl) rfl ?_
      exact RL.nil (N.meet (.cons rfl (.cons rfl (.cons rfl (.cons rfl (.cons rfl (.cons rfl (.cons rfl .nil))))))) (.cons rfl (.cons rfl (.cons rfl .nil))))
    refine RL.q (Yld.move rfl) rfl ?_
    refine' RL.or (t := 50) (d := 59) 9 rfl (.cons (k := 1) rfl (.cons (k := 3) rfl (.cons (k := 6) rfl (.cons (k := 42) rfl (.cons (k := 43) rfl (.cons (k := 44) rfl (.cons (k := 49) rfl .nil))))))) (.cons (k := 0) rfl (.cons (k := 101) rfl (.cons (k := 103) rfl .nil))) ?_ ?_ ?_
    rotate_left 1
    ·
      intro hg50
      refine RL.gq rfl rfl (Yld.fieldAddr fo38_0 rfl) rfl ?_
      refine RL.gq rfl rfl (Yld.load1 (c := 103) Try.underlying3 rfl rfl rfl (by first | exact single_self _ _ | exact pset_self _ _ _ | assumption) rfl) rfl ?_
      refine RL.gq rfl rfl (Yld.bin rfl rfl BinV.eql) rfl ?_
      refine RL.gq rfl rfl (Yld.move rfl) rfl ?_
      refine' RL.and (t := 54) (d := 58) 4 rfl (.cons (k := 1) rfl (.cons (k := 3) rfl (.cons (k := 6) rfl (.cons (k := 42) rfl (.cons (k := 43) rfl (.cons (k := 44) rfl (.cons (k := 49) rfl (.cons (k := 50) rfl (.cons (k := 51) rfl (.cons (k := 52) rfl (.cons (k := 53) rfl .nil))))))))))) (.cons (k := 0) rfl (.cons (k := 101) rfl (.cons (k := 103) rfl .nil))) ?_ ?_ ?_
      rotate_left 1
      ·
        intro hg54
        refine RL.gq rfl rfl (Yld.fieldAddr fo38_2 rfl) rfl ?_
        refine RL.gq rfl rfl (Yld.load1 (c := 103) Try.underlying2 rfl rfl rfl (by first | exact single_self _ _ | exact pset_self _ _ _ | assumption) rfl) rfl ?_
        refine RL.gq rfl rfl (Yld.bin rfl rfl BinV.neq) rfl ?_
        refine RL.gq rfl rfl (by first | exact Yld.pickT rfl rfl | exact Yld.pickF rfl rfl) rfl ?_
        exact RL.nil (N.meet (.cons rfl (.cons rfl (.cons rfl (.cons rfl (.cons rfl (.cons rfl (.cons rfl (.cons rfl (.cons rfl (.cons rfl (.cons rfl (.cons rfl .nil)))))))))))) (.cons rfl (.cons rfl (.cons rfl .nil))))
      ·
        intro hg54
        refine RL.gskip rfl rfl rfl rfl ?_
        refine RL.gskip rfl rfl rfl rfl ?_
        refine RL.gskip rfl rfl rfl rfl ?_
        refine RL.gq rfl rfl (by first | exact Yld.pickT rfl rfl | exact Yld.pickF rfl rfl) rfl ?_
        exact RL.nil (N.meet (.cons rfl (.cons rfl (.cons rfl (.cons rfl (.cons rfl (.cons rfl (.cons rfl (.cons rfl (.cons rfl (.cons rfl (.cons rfl (.cons rfl .nil)))))))))))) (.cons rfl (.cons rfl (.cons rfl .nil))))
      refine RL.q (by first | exact Yld.pickT rfl rfl | exact Yld.pickF rfl rfl) rfl ?_
      exact RL.nil (N.meet (.cons rfl (.cons rfl (.cons rfl (.cons rfl (.cons rfl (.cons rfl (.cons rfl (.cons rfl .nil)))))))) (.cons rfl (.cons rfl (.cons rfl .nil))))
    ·
      intro hg50
      refine RL.gskip rfl rfl rfl rfl ?_
      refine RL.gskip rfl rfl rfl rfl ?_
      refine RL.gskip rfl rfl rfl rfl ?_
      refine RL.gskip rfl rfl rfl rfl ?_
      refine RL.gskipU rfl rfl rfl ?_
      refine RL.gskipU rfl rfl rfl ?_
      refine RL.gskipU rfl rfl rfl ?_
      refine RL.gskip rfl rfl rfl rfl ?_
      refine RL.q (by first | exact Yld.pickT rfl rfl | exact Yld.pickF rfl rfl) rfl ?_
      exact RL.nil (N.meet (.cons rfl (.cons rfl (.cons rfl (.cons rfl (.cons rfl (.cons rfl (.cons rfl (.cons rfl .nil)))))))) (.cons rfl (.cons rfl (.cons rfl .nil))))
    refine RL.q (Yld.assign rfl) rfl ?_
    refine RL.nil ?_
    refine N.next ?_
    refine W.keep (.cons (k := 1) rfl (.cons (k := 41) rfl .nil)) (.cons (k := 0) rfl (.cons (k := 101) rfl (.cons (k := 103) rfl .nil))) ?_
    first | refine W.condD rfl (fun hc41 => ?_) (fun hc41 => ?_) | (refine W.cond rfl (fun hc41 => ?_) (fun hc41 => ?_) <;> try simp only [Bool.or_eq_true, Bool.and_eq_true, Bool.not_eq_true', Bool.not_eq_false', decide_eq_true_eq, Bool.or_eq_false_iff, Bool.and_eq_false_iff, decide_eq_false_iff_not, beq_iff_eq, beq_eq_false_iff_ne, ne_eq, Decidable.not_not] at hc41)
    ·
      refine W.seq ?_
      refine W.region ?_
      refine RL.q (Yld.assign rfl) rfl ?_
      refine RL.nil ?_
      refine N.next ?_
      refine W.ret ?_
      refine N.block_ret ?_
      refine N.then_ret ?_
      exact N.retBy [] (.cons (.tmp rfl) .nil) rfl rfl rfl rfl ⟨by show Value.bool _ = _; rw [Value.bool.injEq, Bool.eq_iff_iff]; simp only [Bool.false_eq_true, Bool.true_eq_false, true_iff, false_iff, and_true, Bool.or_eq_true, Bool.and_eq_true, Bool.not_eq_true', Bool.not_eq_false', decide_eq_true_eq, Bool.or_eq_false_iff, Bool.and_eq_false_iff, decide_eq_false_iff_not, beq_iff_eq, beq_eq_false_iff_ne, ne_eq, Decidable.not_not]; unfold Formed OpOK; omega, rfl⟩
    ·
      refine W.skip ?_
      refine N.block_normal ?_
      refine N.next ?_
      refine W.seq ?_
      refine W.seq ?_
      refine W.region ?_
      refine RL.q (Yld.loadW (c := 101) Try.underlying42 rfl sz42 rfl rfl (by first | exact single_self _ _ | exact pset_self _ _ _ | assumption) rfl) rfl ?_
      refine RL.e (Eff.call ent43 [] [] (.cons rfl .nil) (complete_ct _) rfl rfl rfl rfl (by rintro _ _ ⟨_, rfl⟩; rfl)) rfl ?_
      rintro _ _ ⟨_, ⟨rfl, rfl⟩, rfl⟩
      refine RL.nil ?_
      refine N.next ?_
      first | refine W.condD rfl (fun hc61 => ?_) (fun hc61 => ?_) | (refine W.cond rfl (fun hc61 => ?_) (fun hc61 => ?_) <;> try simp only [Bool.or_eq_true, Bool.and_eq_true, Bool.not_eq_true', Bool.not_eq_false', decide_eq_true_eq, Bool.or_eq_false_iff, Bool.and_eq_false_iff, decide_eq_false_iff_not, beq_iff_eq, beq_eq_false_iff_ne, ne_eq, Decidable.not_not] at hc61)
      ·
        refine W.seq ?_
        refine W.region ?_
        refine RL.q (Yld.fieldAddr fo42_6 rfl) rfl ?_
        refine RL.q (Yld.load1 (c := 101) Try.underlying3 rfl rfl rfl (by first | exact single_self _ _ | exact pset_self _ _ _ | assumption) rfl) rfl ?_
        refine RL.q (Yld.fieldAddr fo42_5 rfl) rfl ?_
        refine RL.q (Yld.load1 (c := 101) Try.underlying3 rfl rfl rfl (by first | exact single_self _ _ | exact pset_self _ _ _ | assumption) rfl) rfl ?_
        refine RL.q (Yld.bin rfl rfl BinV.gtr) rfl ?_
        refine RL.q (Yld.assign rfl) rfl ?_
        refine RL.nil ?_
        refine N.next ?_
        refine W.keep (.cons (k := 1) rfl (.cons (k := 2) rfl .nil)) (.cons (k := 0) rfl (.cons (k := 101) rfl (.cons (k := 103) rfl .nil))) ?_
        refine W.ret ?_
        refine N.then_ret ?_
        exact N.retBy [] (.cons (.tmp rfl) .nil) rfl rfl rfl rfl ⟨by show Value.bool _ = _; rw [Value.bool.injEq, Bool.eq_iff_iff]; simp only [Bool.false_eq_true, Bool.true_eq_false, true_iff, false_iff, and_true, Bool.or_eq_true, Bool.and_eq_true, Bool.not_eq_true', Bool.not_eq_false', decide_eq_true_eq, Bool.or_eq_false_iff, Bool.and_eq_false_iff, decide_eq_false_iff_not, beq_iff_eq, beq_eq_false_iff_ne, ne_eq, Decidable.not_not]; unfold Formed OpOK; omega, rfl⟩
      ·
        refine W.skip ?_
        refine N.next ?_
        refine W.seq ?_
        refine W.region ?_
        refine RL.q (Yld.fieldAddr fo42_6 rfl) rfl ?_
        refine RL.q (Yld.load1 (c := 101) Try.underlying3 rfl rfl rfl (by first | exact single_self _ _ | exact pset_self _ _ _ | assumption) rfl) rfl ?_
        refine RL.q (Yld.bin rfl rfl BinV.eql) rfl ?_
        refine RL.q (Yld.move rfl) rfl ?_
        refine' RL.and (t := 70) (d := 75) 5 rfl (.cons (k := 1) rfl (.cons (k := 41) rfl (.cons (k := 60) rfl (.cons (k := 61) rfl (.cons (k := 67) rfl (.cons (k := 68) rfl (.cons (k := 69) rfl .nil))))))) (.cons (k := 0) rfl (.cons (k := 101) rfl (.cons (k := 103) rfl .nil))) ?_ ?_ ?_
        rotate_left 1
        ·
          intro hg70
          refine RL.gq rfl rfl (Yld.fieldAddr fo42_4 rfl) rfl ?_
          refine RL.gq rfl rfl (Yld.loadA (c := 101) Try.underlying40 rfl sz40 rfl rfl (by first | exact single_self _ _ | exact pset_self _ _ _ | assumption) rfl rfl) rfl ?_
          refine RL.gq rfl rfl (Yld.buildP lay40 .nil rfl) rfl ?_
          refine RL.gq rfl rfl (Yld.bin rfl rfl (BinV.eqlT eqg40 (EqV.struct Try.underlying40 sih40 (EqF.cons rfl (PartV.one Try.underlying26 rfl rfl) (PartV.one Try.underlying26 rfl rfl) (EqV.int Try.underlying26) (EqF.cons rfl (PartV.one Try.underlying4 rfl rfl) (PartV.one Try.underlying4 rfl rfl) (EqV.bool Try.underlying4) (EqF.cons rfl (PartV.one Try.underlying2 rfl rfl) (PartV.one Try.underlying2 rfl rfl) (EqV.int Try.underlying2) EqF.nil)))))) rfl ?_
          refine RL.q (by first | exact Yld.pickT rfl rfl | exact Yld.pickF rfl rfl) rfl ?_
          exact RL.nil (N.meet (.cons rfl (.cons rfl (.cons rfl (.cons rfl (.cons rfl (.cons rfl (.cons rfl (.cons rfl .nil)))))))) (.cons rfl (.cons rfl (.cons rfl .nil))))
        ·
          intro hg70
          refine RL.gskip rfl rfl rfl rfl ?_
          refine RL.gskip rfl rfl rfl rfl ?_
          refine RL.gskip rfl rfl rfl rfl ?_
          refine RL.gskip rfl rfl rfl rfl ?_
          refine RL.q (by first | exact Yld.pickT rfl rfl | exact Yld.pickF rfl rfl) rfl ?_
          exact RL.nil (N.meet (.cons rfl (.cons rfl (.cons rfl (.cons rfl (.cons rfl (.cons rfl (.cons rfl (.cons rfl .nil)))))))) (.cons rfl (.cons rfl (.cons rfl .nil))))
        refine RL.q (Yld.assign rfl) rfl ?_
        refine RL.nil ?_
        refine N.next ?_
        refine W.keep (.cons (k := 2) rfl .nil) (.cons (k := 0) rfl (.cons (k := 101) rfl (.cons (k := 103) rfl .nil))) ?_
        refine W.ret ?_
        exact N.retBy [] (.cons (.tmp rfl) .nil) rfl rfl rfl rfl ⟨by show Value.bool _ = _; rw [Value.bool.injEq, Bool.eq_iff_iff]; simp only [Bool.false_eq_true, Bool.true_eq_false, true_iff, false_iff, and_true, Bool.or_eq_true, Bool.and_eq_true, Bool.not_eq_true', Bool.not_eq_false', decide_eq_true_eq, Bool.or_eq_false_iff, Bool.and_eq_false_iff, decide_eq_false_iff_not, beq_iff_eq, beq_eq_false_iff_ne, ne_eq, Decidable.not_not]; unfold Formed OpOK Blank; by_cases hf : a.fnd = false <;> simp only [hf, true_and, and_true, false_and, and_false, or_false, Bool.true_eq_false] <;> constructor <;> intro hh <;> first | omega | exact hh.elim, rfl⟩

def HistLaw.O.c (a : O) : List Value := [.int .i64 a.cl, .int .i64 a.nu, .int .i64 a.gr, .int .i64 a.kd, .string a.key, .int .i64 a.val, .int .i64 a.old, .int .i64 a.code, .bool a.fnd, .int .i64 a.rv, .int .i64 a.inv, .int .i64 a.rsp]

set_option maxRecDepth 100000 in
set_option maxHeartbeats 400000 in
theorem few_ct (l : List O) (H1 : PH) (p : Option Addr) (c : Nat) (hS : Sl H1 p c 12 (l.map O.c)) (m : Int) : Ct Try.prog 17 [.slice p (l.map O.c).length c, .int .i64 m] [H1] (fun v Hs => (∃ b, v = .bool b ∧ (b = true → (l.length : Int) ≤ m)) ∧ Hs = [H1]) := by
  refine Ct.body Try.func17 rfl Try.ntmps17 rfl ?_
  intro E F
  have hmax := hS.len_le
  simp only [maxLen] at hmax
  refine W.seq ?_
  refine W.region ?_
  refine RL.q (Yld.assign rfl) rfl ?_
  refine RL.nil ?_
  refine N.next ?_
  refine W.seq ?_
  refine W.seq ?_
  refine W.region ?_
  refine RL.q (Yld.assign rfl) rfl ?_
  refine RL.nil ?_
  refine N.next ?_
  refine W.block ?_
  refine W.loop (ι := Nat) (fun j => j ≤ (l.map O.c).length) (fun j => [(0, .slice p (l.map O.c).length c), (1, .int .i64 m), (5, .int .i64 (j : Nat))]) (fun j => [(0, F), (1, H1)]) (fun j => (l.map O.c).length - j) 0 ?_ ?_ ?_ ?_
  · exact Nat.zero_le _
  · exact (.cons rfl (.cons rfl (.cons rfl .nil)))
  · exact (.cons rfl (.cons rfl .nil))
  rintro j hj
  refine W.seq ?_
  refine W.seq ?_
  refine W.region ?_
  refine RL.q (Yld.move rfl) rfl ?_
  refine RL.q (Yld.move rfl) rfl ?_
  refine RL.q (Yld.lenSl Try.underlying22 rfl) rfl ?_
  refine RL.q (Yld.bin rfl rfl BinV.lss) rfl ?_
  refine RL.nil ?_
  refine N.next ?_
  first | refine W.condD rfl (fun hc9 => ?_) (fun hc9 => ?_) | (refine W.cond rfl (fun hc9 => ?_) (fun hc9 => ?_) <;> try simp only [Bool.or_eq_true, Bool.and_eq_true, Bool.not_eq_true', Bool.not_eq_false', decide_eq_true_eq, Bool.or_eq_false_iff, Bool.and_eq_false_iff, decide_eq_false_iff_not, beq_iff_eq, beq_eq_false_iff_ne, ne_eq, Decidable.not_not] at hc9)
  ·
    obtain ⟨a, ha⟩ : ∃ a, l[j]? = some a := ⟨_, List.getElem?_eq_getElem (show j < l.length by simp only [List.length_map] at *; omega)⟩
    have hla : (l.map O.c)[j]? = some a.c := by simp [ha]
    refine W.skip ?_
    refine N.next ?_
    refine W.keep (.cons (k := 0) rfl (.cons (k := 1) rfl (.cons (k := 5) rfl .nil))) (.cons (k := 0) rfl (.cons (k := 1) rfl .nil)) ?_
    refine W.seq ?_
    refine W.block ?_
    refine W.seq ?_
    refine W.region ?_
    refine RL.q (Yld.move rfl) rfl ?_
    refine RL.q (Yld.move rfl) rfl ?_
    refine RL.q (Yld.indexRow Try.underlying22 sz42 rfl rfl hS (by first | rfl | omega | (simp; done) | (simp; omega)) (by omega) (by first | omega | (simp; done) | (simp; omega))) rfl ?_
    refine RL.q (Yld.fieldAddr fo42_3 rfl) rfl ?_
    refine RL.q (Yld.fieldAddr fo38_1 rfl) rfl ?_
    refine RL.q (Yld.loadRowF (cl := 1) (j := 4) Try.underlying9 rfl rfl rfl hS hla rfl) rfl ?_
    refine RL.q (Yld.lenS Try.underlying9 rfl) rfl ?_
    refine RL.q (Yld.bin rfl rfl BinV.gtr) rfl ?_
    refine RL.nil ?_
    refine N.next ?_
    refine W.keep (.cons (k := 0) rfl (.cons (k := 1) rfl (.cons (k := 5) rfl (.cons (k := 19) rfl .nil)))) (.cons (k := 0) rfl (.cons (k := 1) rfl .nil)) ?_
    first | refine W.condD rfl (fun hc19 => ?_) (fun hc19 => ?_) | (refine W.cond rfl (fun hc19 => ?_) (fun hc19 => ?_) <;> try simp only [Bool.or_eq_true, Bool.and_eq_true, Bool.not_eq_true', Bool.not_eq_false', decide_eq_true_eq, Bool.or_eq_false_iff, Bool.and_eq_false_iff, decide_eq_false_iff_not, beq_iff_eq, beq_eq_false_iff_ne, ne_eq, Decidable.not_not] at hc19)
    ·
      refine W.seq ?_
      refine W.region ?_
      refine RL.q (Yld.assign rfl) rfl ?_
      refine RL.nil ?_
      refine N.next ?_
      refine W.ret ?_
      refine N.block_ret ?_
      refine N.then_ret ?_
      refine N.then_ret ?_
      refine N.block_ret ?_
      refine N.then_ret ?_
      exact N.retBy [1] (.cons (.tmp rfl) .nil) rfl rfl rfl rfl ⟨⟨_, rfl, fun h => by cases h⟩, rfl⟩
    ·
      refine W.skip ?_
      refine N.block_normal ?_
      refine N.next ?_
      refine W.region ?_
      refine RL.q (Yld.move rfl) rfl ?_
      refine RL.q (Yld.bin rfl rfl (by first | exact BinV.add (by omega) (by omega) | exact BinV.addW)) rfl ?_
      refine RL.q (Yld.assign rfl) rfl ?_
      refine RL.nil ?_
      exact N.fam (j + 1) ⟨by omega, by omega⟩ (.cons rfl (.cons rfl (.cons rfl .nil))) (.cons rfl (.cons rfl .nil))
  ·
    refine W.exit ?_
    refine N.then_exit ?_
    refine N.then_exit ?_
    refine N.block_eq ?_
    refine N.next ?_
    refine W.keep (.cons (k := 0) rfl (.cons (k := 1) rfl .nil)) (.cons (k := 0) rfl (.cons (k := 1) rfl .nil)) ?_
    refine W.seq ?_
    refine W.region ?_
    refine RL.q (Yld.move rfl) rfl ?_
    refine RL.q (Yld.lenSl Try.underlying22 rfl) rfl ?_
    refine RL.q (Yld.move rfl) rfl ?_
    refine RL.q (Yld.bin rfl rfl BinV.leq) rfl ?_
    refine RL.q (Yld.assign rfl) rfl ?_
    refine RL.nil ?_
    refine N.next ?_
    refine W.keep (.cons (k := 4) rfl .nil) (.cons (k := 0) rfl (.cons (k := 1) rfl .nil)) ?_
    refine W.ret ?_
    exact N.retBy [1] (.cons (.tmp rfl) .nil) rfl rfl rfl rfl ⟨⟨_, rfl, fun h => by simpa using h⟩, rfl⟩

end Go.Proofs.Ytbgppnkccbhbpaa
