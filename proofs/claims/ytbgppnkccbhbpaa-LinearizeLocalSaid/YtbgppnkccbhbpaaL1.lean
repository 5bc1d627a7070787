/- The cell. Written by program (walk.py). -/
import Derived.Test.YtbgppnkccbhbpaaLH4
import Derived.Test.YtbgppnkccbhbpaaLPur
import Derived.Test.YtbgppnkccbhbpaaSlScp
namespace Go.Proofs.Ytbgppnkccbhbpaa
open SL HistLaw Cfg
set_option linter.unusedVariables false
set_option linter.unusedSimpArgs false
theorem zc68 : zc Try.prog 68 [.bool false, .int .i64 0] := (by kernel_rfl : ((Try.prog.info? 68).bind (·.zero)).map (fun v => v.cells.toList) = some [.bool false, .int .i64 0])
theorem zc40 : zc Try.prog 40 [.int .i64 0, .bool false, .int .i64 0] := (by kernel_rfl : ((Try.prog.info? 40).bind (·.zero)).map (fun v => v.cells.toList) = some [.int .i64 0, .bool false, .int .i64 0])
theorem fo68_0 : fieldOff Try.prog 68 0 = some 0 := by kernel_rfl
theorem fo68_1 : fieldOff Try.prog 68 1 = some 1 := by kernel_rfl
theorem lay68 : layS Try.prog 68 = some ([.bool false, .int .i64 0], [(0, 1), (1, 1)]) := by kernel_rfl
theorem sz68 : sz Try.prog 68 2 := (by kernel_rfl : (Try.prog.info? 68).map (·.size) = some 2)
theorem zc59 : zc Try.prog 59 [.bool false, .int .i64 0] := (by kernel_rfl : ((Try.prog.info? 59).bind (·.zero)).map (fun v => v.cells.toList) = some [.bool false, .int .i64 0])
theorem lay59 : layS Try.prog 59 = some ([.bool false, .int .i64 0], [(0, 1), (1, 1)]) := by kernel_rfl
theorem sz59 : sz Try.prog 59 2 := (by kernel_rfl : (Try.prog.info? 59).map (·.size) = some 2)
theorem fo59_0 : fieldOff Try.prog 59 0 = some 0 := by kernel_rfl
theorem fo59_1 : fieldOff Try.prog 59 1 = some 1 := by kernel_rfl
theorem ent35 : Ent Try.prog 35 := ⟨_, _, Try.func35, by kernel_rfl, rfl⟩
set_option maxRecDepth 100000 in
set_option maxHeartbeats 400000 in
theorem do_ct (c : Cell) (o : O) : Ct Try.prog 36 [.agg [.bool c.1, .int .i64 c.2].toArray, .agg [.int .i64 o.kd, .string o.key, .int .i64 o.val, .int .i64 o.old].toArray] [] (fun v Hs => v = .tuple #[.agg [.bool (doL c o).1.1, .int .i64 (doL c o).1.2].toArray, .agg [.int .i64 0, .bool (doL c o).2.1, .int .i64 (doL c o).2.2].toArray] ∧ Hs = []) := by
  refine Ct.body Try.func36 rfl Try.ntmps36 rfl ?_
  intro E F
  refine W.seq ?_
  refine W.region ?_
  refine RL.e (Eff.box 102 _ rfl rfl) rfl ?_
  rintro _ _ ⟨b2, rfl, rfl⟩
  refine RL.e (Eff.box 103 _ rfl rfl) rfl ?_
  rintro _ _ ⟨b3, rfl, rfl⟩
  refine RL.e (Eff.alloc 104 zc68) rfl ?_
  rintro _ _ ⟨b4, rfl, rfl⟩
  refine RL.e (Eff.alloc 105 zc40) rfl ?_
  rintro _ _ ⟨b5, rfl, rfl⟩
  refine RL.nil ?_
  refine N.next ?_
  refine W.seq ?_
  refine W.region ?_
  refine RL.q (Yld.fieldAddr fo68_0 rfl) rfl ?_
  refine RL.q (Yld.load1 (c := 102) Try.underlying4 rfl rfl rfl (by first | exact single_self _ _ | exact pset_self _ _ _ | assumption) rfl) rfl ?_
  refine RL.q (Yld.fieldAddr fo68_1 rfl) rfl ?_
  refine RL.q (Yld.load1 (c := 102) Try.underlying2 rfl rfl rfl (by first | exact single_self _ _ | exact pset_self _ _ _ | assumption) rfl) rfl ?_
  refine RL.q (Yld.buildP lay40 (.cons rfl rfl (.cons rfl rfl .nil)) rfl) rfl ?_
  refine RL.e (Eff.alloc 106 zc40) rfl ?_
  rintro _ _ ⟨b6, rfl, rfl⟩
  refine RL.e0 (Eff.storeS (c := 106) _ sz40 rfl rfl rfl rfl rfl rfl rfl (by (try simp only [putAt, List.take, List.drop, List.nil_append, List.cons_append, List.append_nil, List.length_cons, List.length_nil, Nat.add_zero, Nat.zero_add, Nat.reduceAdd]); rfl)) ?_
  rintro _ _ rfl
  refine RL.nil ?_
  refine N.next ?_
  refine W.keep (.cons (k := 2) rfl (.cons (k := 3) rfl (.cons (k := 4) rfl (.cons (k := 5) rfl (.cons (k := 6) rfl .nil))))) (.cons (k := 0) rfl (.cons (k := 102) rfl (.cons (k := 103) rfl (.cons (k := 104) rfl (.cons (k := 105) rfl (.cons (k := 106) rfl .nil)))))) ?_
  refine W.seq ?_
  refine W.seq ?_
  refine W.region ?_
  refine RL.q (Yld.fieldAddr fo38_0 rfl) rfl ?_
  refine RL.q (Yld.load1 (c := 103) Try.underlying3 rfl rfl rfl (by first | exact single_self _ _ | exact pset_self _ _ _ | assumption) rfl) rfl ?_
  refine RL.nil ?_
  refine N.next ?_
  refine W.block ?_
  refine W.seq ?_
  refine W.region ?_
  refine RL.q (Yld.bin rfl rfl BinV.eql) rfl ?_
  refine RL.q (Yld.assign rfl) rfl ?_
  refine RL.nil ?_
  refine N.next ?_
  first | refine W.condD rfl (fun hc16 => ?_) (fun hc16 => ?_) | (refine W.cond rfl (fun hc16 => ?_) (fun hc16 => ?_) <;> try simp only [Bool.or_eq_true, Bool.and_eq_true, Bool.not_eq_true', Bool.not_eq_false', decide_eq_true_eq, Bool.or_eq_false_iff, Bool.and_eq_false_iff, decide_eq_false_iff_not, beq_iff_eq, beq_eq_false_iff_ne, ne_eq, Decidable.not_not] at hc16)
  ·
    refine W.region ?_
    refine RL.q (Yld.fieldAddr fo38_2 rfl) rfl ?_
    refine RL.q (Yld.load1 (c := 103) Try.underlying2 rfl rfl rfl (by first | exact single_self _ _ | exact pset_self _ _ _ | assumption) rfl) rfl ?_
    refine RL.q (Yld.buildP lay68 (.cons rfl rfl (.cons rfl rfl .nil)) rfl) rfl ?_
    refine RL.e0 (Eff.storeS (c := 102) _ sz68 rfl rfl rfl rfl rfl rfl rfl (by (try simp only [putAt, List.take, List.drop, List.nil_append, List.cons_append, List.append_nil, List.length_cons, List.length_nil, Nat.add_zero, Nat.zero_add, Nat.reduceAdd]); rfl)) ?_
    rintro _ _ rfl
    refine RL.nil ?_
    refine N.block_normal ?_
    refine N.next ?_
    refine W.keep (.cons (k := 2) rfl (.cons (k := 4) rfl (.cons (k := 5) rfl .nil))) (.cons (k := 0) rfl (.cons (k := 102) rfl (.cons (k := 103) rfl (.cons (k := 104) rfl (.cons (k := 105) rfl (.cons (k := 106) rfl .nil)))))) ?_
    refine W.seq ?_
    refine W.draw (.q 0 (.q 1 (.q 2 (.q 3 (.one 4 (.one 5 .done)))))) (.cons (k := 0) rfl (.cons (k := 102) rfl (.cons (k := 103) rfl (.cons (k := 106) rfl .nil)))) mix (by kernel_rfl) (by kernel_rfl) ?_
    refine DL.q rfl (Yld.loadW (c := 102) Try.underlying68 rfl sz68 rfl rfl (by first | exact single_self _ _ | exact pset_self _ _ _ | assumption) rfl) rfl ?_
    refine DL.q rfl (Yld.fieldAddr fo68_1 rfl) rfl ?_
    refine DL.q rfl (Yld.load1 (c := 102) Try.underlying2 rfl rfl rfl (by first | exact single_self _ _ | exact pset_self _ _ _ | assumption) rfl) rfl ?_
    refine DL.q rfl (Yld.buildP lay40 (.cons rfl rfl (.cons rfl rfl .nil)) rfl) rfl ?_
    refine DL.one0 rfl (Eff.storeS (c := 104) _ sz68 rfl rfl rfl rfl rfl rfl rfl (by (try simp only [putAt, List.take, List.drop, List.nil_append, List.cons_append, List.append_nil, List.length_cons, List.length_nil, Nat.add_zero, Nat.zero_add, Nat.reduceAdd]); rfl)) (by rintro _ _ rfl; repeat (first | exact .nil | refine .cons rfl ?_)) ?_
    rintro _ _ rfl
    refine DL.one0 rfl (Eff.storeS (c := 105) _ sz40 rfl rfl rfl rfl rfl rfl rfl (by (try simp only [putAt, List.take, List.drop, List.nil_append, List.cons_append, List.append_nil, List.length_cons, List.length_nil, Nat.add_zero, Nat.zero_add, Nat.reduceAdd]); rfl)) (by rintro _ _ rfl; repeat (first | exact .nil | refine .cons rfl ?_)) ?_
    rintro _ _ rfl
    refine DL.done ?_
    refine N.next ?_
    refine W.keep (.cons (k := 4) rfl (.cons (k := 5) rfl .nil)) (.cons (k := 0) rfl (.cons (k := 102) rfl (.cons (k := 103) rfl (.cons (k := 104) rfl (.cons (k := 105) rfl (.cons (k := 106) rfl .nil)))))) ?_
    refine W.ret ?_
    exact N.retBy [] (.cons (by first | exact .cell (c := 104) rfl rfl (fun w hs => run_loadVarA Try.underlying68 rfl sz68 rfl (fun j u hj => by rw [Nat.zero_add, PH.sub.cell hs (by first | exact single_self _ _ | exact pset_self _ _ _ | assumption)]; exact hj))) (.cons (by first | exact .cell (c := 105) rfl rfl (fun w hs => run_loadVarA Try.underlying40 rfl sz40 rfl (fun j u hj => by rw [Nat.zero_add, PH.sub.cell hs (by first | exact single_self _ _ | exact pset_self _ _ _ | assumption)]; exact hj))) .nil)) rfl rfl rfl rfl ⟨by unfold doL; rw [if_pos (show o.kd = 1 by omega)]; rfl, rfl⟩
  ·
    refine W.seq ?_
    refine W.region ?_
    refine RL.q (Yld.bin rfl rfl BinV.eql) rfl ?_
    refine RL.q (Yld.assign rfl) rfl ?_
    refine RL.nil ?_
    refine N.next ?_
    refine W.keep (.cons (k := 2) rfl (.cons (k := 3) rfl (.cons (k := 4) rfl (.cons (k := 5) rfl (.cons (k := 6) rfl (.cons (k := 13) rfl (.cons (k := 21) rfl .nil))))))) (.cons (k := 0) rfl (.cons (k := 102) rfl (.cons (k := 103) rfl (.cons (k := 104) rfl (.cons (k := 105) rfl (.cons (k := 106) rfl .nil)))))) ?_
    first | refine W.condD rfl (fun hc21 => ?_) (fun hc21 => ?_) | (refine W.cond rfl (fun hc21 => ?_) (fun hc21 => ?_) <;> try simp only [Bool.or_eq_true, Bool.and_eq_true, Bool.not_eq_true', Bool.not_eq_false', decide_eq_true_eq, Bool.or_eq_false_iff, Bool.and_eq_false_iff, decide_eq_false_iff_not, beq_iff_eq, beq_eq_false_iff_ne, ne_eq, Decidable.not_not] at hc21)
    ·
      refine W.region ?_
      refine RL.q (Yld.fieldAddr fo68_1 rfl) rfl ?_
      refine RL.q (Yld.load1 (c := 102) Try.underlying2 rfl rfl rfl (by first | exact single_self _ _ | exact pset_self _ _ _ | assumption) rfl) rfl ?_
      refine RL.q (Yld.fieldAddr fo38_2 rfl) rfl ?_
      refine RL.q (Yld.load1 (c := 103) Try.underlying2 rfl rfl rfl (by first | exact single_self _ _ | exact pset_self _ _ _ | assumption) rfl) rfl ?_
      refine RL.q (Yld.bin rfl rfl BinV.addW) rfl ?_
      refine RL.q (Yld.buildP lay68 (.cons rfl rfl (.cons rfl rfl .nil)) rfl) rfl ?_
      refine RL.e0 (Eff.storeS (c := 102) _ sz68 rfl rfl rfl rfl rfl rfl rfl (by (try simp only [putAt, List.take, List.drop, List.nil_append, List.cons_append, List.append_nil, List.length_cons, List.length_nil, Nat.add_zero, Nat.zero_add, Nat.reduceAdd]); rfl)) ?_
      rintro _ _ rfl
      refine RL.nil ?_
      refine N.block_normal ?_
      refine N.next ?_
      refine W.keep (.cons (k := 2) rfl (.cons (k := 4) rfl (.cons (k := 5) rfl .nil))) (.cons (k := 0) rfl (.cons (k := 102) rfl (.cons (k := 103) rfl (.cons (k := 104) rfl (.cons (k := 105) rfl (.cons (k := 106) rfl .nil)))))) ?_
      refine W.seq ?_
      refine W.draw (.q 0 (.q 1 (.q 2 (.q 3 (.one 4 (.one 5 .done)))))) (.cons (k := 0) rfl (.cons (k := 102) rfl (.cons (k := 103) rfl (.cons (k := 106) rfl .nil)))) mix (by kernel_rfl) (by kernel_rfl) ?_
      refine DL.q rfl (Yld.loadW (c := 102) Try.underlying68 rfl sz68 rfl rfl (by first | exact single_self _ _ | exact pset_self _ _ _ | assumption) rfl) rfl ?_
      refine DL.q rfl (Yld.fieldAddr fo68_1 rfl) rfl ?_
      refine DL.q rfl (Yld.load1 (c := 102) Try.underlying2 rfl rfl rfl (by first | exact single_self _ _ | exact pset_self _ _ _ | assumption) rfl) rfl ?_
      refine DL.q rfl (Yld.buildP lay40 (.cons rfl rfl (.cons rfl rfl .nil)) rfl) rfl ?_
      refine DL.one0 rfl (Eff.storeS (c := 104) _ sz68 rfl rfl rfl rfl rfl rfl rfl (by (try simp only [putAt, List.take, List.drop, List.nil_append, List.cons_append, List.append_nil, List.length_cons, List.length_nil, Nat.add_zero, Nat.zero_add, Nat.reduceAdd]); rfl)) (by rintro _ _ rfl; repeat (first | exact .nil | refine .cons rfl ?_)) ?_
      rintro _ _ rfl
      refine DL.one0 rfl (Eff.storeS (c := 105) _ sz40 rfl rfl rfl rfl rfl rfl rfl (by (try simp only [putAt, List.take, List.drop, List.nil_append, List.cons_append, List.append_nil, List.length_cons, List.length_nil, Nat.add_zero, Nat.zero_add, Nat.reduceAdd]); rfl)) (by rintro _ _ rfl; repeat (first | exact .nil | refine .cons rfl ?_)) ?_
      rintro _ _ rfl
      refine DL.done ?_
      refine N.next ?_
      refine W.keep (.cons (k := 4) rfl (.cons (k := 5) rfl .nil)) (.cons (k := 0) rfl (.cons (k := 102) rfl (.cons (k := 103) rfl (.cons (k := 104) rfl (.cons (k := 105) rfl (.cons (k := 106) rfl .nil)))))) ?_
      refine W.ret ?_
      exact N.retBy [] (.cons (by first | exact .cell (c := 104) rfl rfl (fun w hs => run_loadVarA Try.underlying68 rfl sz68 rfl (fun j u hj => by rw [Nat.zero_add, PH.sub.cell hs (by first | exact single_self _ _ | exact pset_self _ _ _ | assumption)]; exact hj))) (.cons (by first | exact .cell (c := 105) rfl rfl (fun w hs => run_loadVarA Try.underlying40 rfl sz40 rfl (fun j u hj => by rw [Nat.zero_add, PH.sub.cell hs (by first | exact single_self _ _ | exact pset_self _ _ _ | assumption)]; exact hj))) .nil)) rfl rfl rfl rfl ⟨by unfold doL; rw [if_neg (show ¬ o.kd = 1 by omega), if_pos (show o.kd = 3 by omega)]; rfl, rfl⟩
    ·
      refine W.seq ?_
      refine W.region ?_
      refine RL.q (Yld.bin rfl rfl BinV.eql) rfl ?_
      refine RL.q (Yld.assign rfl) rfl ?_
      refine RL.nil ?_
      refine N.next ?_
      first | refine W.condD rfl (fun hc29 => ?_) (fun hc29 => ?_) | (refine W.cond rfl (fun hc29 => ?_) (fun hc29 => ?_) <;> try simp only [Bool.or_eq_true, Bool.and_eq_true, Bool.not_eq_true', Bool.not_eq_false', decide_eq_true_eq, Bool.or_eq_false_iff, Bool.and_eq_false_iff, decide_eq_false_iff_not, beq_iff_eq, beq_eq_false_iff_ne, ne_eq, Decidable.not_not] at hc29)
      ·
        refine W.seq ?_
        refine W.seq ?_
        refine W.region ?_
        refine RL.q (Yld.fieldAddr fo68_0 rfl) rfl ?_
        refine RL.q (Yld.load1 (c := 102) Try.underlying4 rfl rfl rfl (by first | exact single_self _ _ | exact pset_self _ _ _ | assumption) rfl) rfl ?_
        refine RL.q (by first | exact Yld.notD rfl | exact Yld.not rfl) rfl ?_
        refine RL.q (Yld.move rfl) rfl ?_
        refine' RL.or (t := 34) (d := 40) 6 rfl (.cons (k := 2) rfl (.cons (k := 3) rfl (.cons (k := 4) rfl (.cons (k := 5) rfl (.cons (k := 6) rfl (.cons (k := 13) rfl (.cons (k := 21) rfl (.cons (k := 29) rfl (.cons (k := 30) rfl (.cons (k := 31) rfl (.cons (k := 32) rfl (.cons (k := 33) rfl .nil)))))))))))) (.cons (k := 0) rfl (.cons (k := 102) rfl (.cons (k := 103) rfl (.cons (k := 104) rfl (.cons (k := 105) rfl (.cons (k := 106) rfl .nil)))))) ?_ ?_ ?_
        rotate_left 1
        ·
          intro hg34
          refine RL.gq rfl rfl (Yld.fieldAddr fo68_1 rfl) rfl ?_
          refine RL.gq rfl rfl (Yld.load1 (c := 102) Try.underlying2 rfl rfl rfl (by first | exact single_self _ _ | exact pset_self _ _ _ | assumption) rfl) rfl ?_
          refine RL.gq rfl rfl (Yld.fieldAddr fo38_3 rfl) rfl ?_
          refine RL.gq rfl rfl (Yld.load1 (c := 103) Try.underlying2 rfl rfl rfl (by first | exact single_self _ _ | exact pset_self _ _ _ | assumption) rfl) rfl ?_
          refine RL.gq rfl rfl (Yld.bin rfl rfl BinV.neq) rfl ?_
          refine RL.q (by first | exact Yld.pickT rfl rfl | exact Yld.pickF rfl rfl) rfl ?_
          exact RL.nil (N.meet (.cons rfl (.cons rfl (.cons rfl (.cons rfl (.cons rfl (.cons rfl (.cons rfl (.cons rfl (.cons rfl (.cons rfl (.cons rfl (.cons rfl (.cons rfl .nil))))))))))))) (.cons rfl (.cons rfl (.cons rfl (.cons rfl (.cons rfl (.cons rfl .nil)))))))
        ·
          intro hg34
          refine RL.gskip rfl rfl rfl rfl ?_
          refine RL.gskip rfl rfl rfl rfl ?_
          refine RL.gskip rfl rfl rfl rfl ?_
          refine RL.gskip rfl rfl rfl rfl ?_
          refine RL.gskip rfl rfl rfl rfl ?_
          refine RL.q (by first | exact Yld.pickT rfl rfl | exact Yld.pickF rfl rfl) rfl ?_
          exact RL.nil (N.meet (.cons rfl (.cons rfl (.cons rfl (.cons rfl (.cons rfl (.cons rfl (.cons rfl (.cons rfl (.cons rfl (.cons rfl (.cons rfl (.cons rfl (.cons rfl .nil))))))))))))) (.cons rfl (.cons rfl (.cons rfl (.cons rfl (.cons rfl (.cons rfl .nil)))))))
        refine RL.nil ?_
        refine N.next ?_
        refine W.keep (.cons (k := 2) rfl (.cons (k := 3) rfl (.cons (k := 4) rfl (.cons (k := 5) rfl (.cons (k := 40) rfl .nil))))) (.cons (k := 0) rfl (.cons (k := 102) rfl (.cons (k := 103) rfl (.cons (k := 104) rfl (.cons (k := 105) rfl (.cons (k := 106) rfl .nil)))))) ?_
        first | refine W.condD rfl (fun hc40 => ?_) (fun hc40 => ?_) | (refine W.cond rfl (fun hc40 => ?_) (fun hc40 => ?_) <;> try simp only [Bool.or_eq_true, Bool.and_eq_true, Bool.not_eq_true', Bool.not_eq_false', decide_eq_true_eq, Bool.or_eq_false_iff, Bool.and_eq_false_iff, decide_eq_false_iff_not, beq_iff_eq, beq_eq_false_iff_ne, ne_eq, Decidable.not_not] at hc40)
        ·
          refine W.seq ?_
          refine W.draw (.q 0 (.q 1 (.q 2 (.q 3 (.one 4 (.one 5 .done)))))) (.cons (k := 0) rfl (.cons (k := 102) rfl (.cons (k := 103) rfl (.cons (k := 106) rfl .nil)))) mix (by kernel_rfl) (by kernel_rfl) ?_
          refine DL.q rfl (Yld.loadW (c := 102) Try.underlying68 rfl sz68 rfl rfl (by first | exact single_self _ _ | exact pset_self _ _ _ | assumption) rfl) rfl ?_
          refine DL.q rfl (Yld.fieldAddr fo68_1 rfl) rfl ?_
          refine DL.q rfl (Yld.load1 (c := 102) Try.underlying2 rfl rfl rfl (by first | exact single_self _ _ | exact pset_self _ _ _ | assumption) rfl) rfl ?_
          refine DL.q rfl (Yld.buildP lay40 (.cons rfl rfl .nil) rfl) rfl ?_
          refine DL.one0 rfl (Eff.storeS (c := 104) _ sz68 rfl rfl rfl rfl rfl rfl rfl (by (try simp only [putAt, List.take, List.drop, List.nil_append, List.cons_append, List.append_nil, List.length_cons, List.length_nil, Nat.add_zero, Nat.zero_add, Nat.reduceAdd]); rfl)) (by rintro _ _ rfl; repeat (first | exact .nil | refine .cons rfl ?_)) ?_
          rintro _ _ rfl
          refine DL.one0 rfl (Eff.storeS (c := 105) _ sz40 rfl rfl rfl rfl rfl rfl rfl (by (try simp only [putAt, List.take, List.drop, List.nil_append, List.cons_append, List.append_nil, List.length_cons, List.length_nil, Nat.add_zero, Nat.zero_add, Nat.reduceAdd]); rfl)) (by rintro _ _ rfl; repeat (first | exact .nil | refine .cons rfl ?_)) ?_
          rintro _ _ rfl
          refine DL.done ?_
          refine N.next ?_
          refine W.keep (.cons (k := 4) rfl (.cons (k := 5) rfl .nil)) (.cons (k := 0) rfl (.cons (k := 102) rfl (.cons (k := 103) rfl (.cons (k := 104) rfl (.cons (k := 105) rfl (.cons (k := 106) rfl .nil)))))) ?_
          refine W.ret ?_
          refine N.then_ret ?_
          refine N.block_ret ?_
          refine N.then_ret ?_
          exact N.retBy [] (.cons (by first | exact .cell (c := 104) rfl rfl (fun w hs => run_loadVarA Try.underlying68 rfl sz68 rfl (fun j u hj => by rw [Nat.zero_add, PH.sub.cell hs (by first | exact single_self _ _ | exact pset_self _ _ _ | assumption)]; exact hj))) (.cons (by first | exact .cell (c := 105) rfl rfl (fun w hs => run_loadVarA Try.underlying40 rfl sz40 rfl (fun j u hj => by rw [Nat.zero_add, PH.sub.cell hs (by first | exact single_self _ _ | exact pset_self _ _ _ | assumption)]; exact hj))) .nil)) rfl rfl rfl rfl ⟨by unfold doL; rw [if_neg (show ¬ o.kd = 1 by omega), if_neg (show ¬ o.kd = 3 by omega), if_pos (show o.kd = 2 by omega), if_neg (show ¬ (c.1 = true ∧ c.2 = o.old) from fun h => by simp [h.1, h.2] at hc40)]; rfl, rfl⟩
        ·
          refine W.skip ?_
          refine N.next ?_
          refine W.region ?_
          refine RL.q (Yld.fieldAddr fo38_2 rfl) rfl ?_
          refine RL.q (Yld.load1 (c := 103) Try.underlying2 rfl rfl rfl (by first | exact single_self _ _ | exact pset_self _ _ _ | assumption) rfl) rfl ?_
          refine RL.q (Yld.buildP lay68 (.cons rfl rfl (.cons rfl rfl .nil)) rfl) rfl ?_
          refine RL.e0 (Eff.storeS (c := 102) _ sz68 rfl rfl rfl rfl rfl rfl rfl (by (try simp only [putAt, List.take, List.drop, List.nil_append, List.cons_append, List.append_nil, List.length_cons, List.length_nil, Nat.add_zero, Nat.zero_add, Nat.reduceAdd]); rfl)) ?_
          rintro _ _ rfl
          refine RL.nil ?_
          refine N.block_normal ?_
          refine N.next ?_
          refine W.keep (.cons (k := 2) rfl (.cons (k := 4) rfl (.cons (k := 5) rfl .nil))) (.cons (k := 0) rfl (.cons (k := 102) rfl (.cons (k := 103) rfl (.cons (k := 104) rfl (.cons (k := 105) rfl (.cons (k := 106) rfl .nil)))))) ?_
          refine W.seq ?_
          refine W.draw (.q 0 (.q 1 (.q 2 (.q 3 (.one 4 (.one 5 .done)))))) (.cons (k := 0) rfl (.cons (k := 102) rfl (.cons (k := 103) rfl (.cons (k := 106) rfl .nil)))) mix (by kernel_rfl) (by kernel_rfl) ?_
          refine DL.q rfl (Yld.loadW (c := 102) Try.underlying68 rfl sz68 rfl rfl (by first | exact single_self _ _ | exact pset_self _ _ _ | assumption) rfl) rfl ?_
          refine DL.q rfl (Yld.fieldAddr fo68_1 rfl) rfl ?_
          refine DL.q rfl (Yld.load1 (c := 102) Try.underlying2 rfl rfl rfl (by first | exact single_self _ _ | exact pset_self _ _ _ | assumption) rfl) rfl ?_
          refine DL.q rfl (Yld.buildP lay40 (.cons rfl rfl (.cons rfl rfl .nil)) rfl) rfl ?_
          refine DL.one0 rfl (Eff.storeS (c := 104) _ sz68 rfl rfl rfl rfl rfl rfl rfl (by (try simp only [putAt, List.take, List.drop, List.nil_append, List.cons_append, List.append_nil, List.length_cons, List.length_nil, Nat.add_zero, Nat.zero_add, Nat.reduceAdd]); rfl)) (by rintro _ _ rfl; repeat (first | exact .nil | refine .cons rfl ?_)) ?_
          rintro _ _ rfl
          refine DL.one0 rfl (Eff.storeS (c := 105) _ sz40 rfl rfl rfl rfl rfl rfl rfl (by (try simp only [putAt, List.take, List.drop, List.nil_append, List.cons_append, List.append_nil, List.length_cons, List.length_nil, Nat.add_zero, Nat.zero_add, Nat.reduceAdd]); rfl)) (by rintro _ _ rfl; repeat (first | exact .nil | refine .cons rfl ?_)) ?_
          rintro _ _ rfl
          refine DL.done ?_
          refine N.next ?_
          refine W.keep (.cons (k := 4) rfl (.cons (k := 5) rfl .nil)) (.cons (k := 0) rfl (.cons (k := 102) rfl (.cons (k := 103) rfl (.cons (k := 104) rfl (.cons (k := 105) rfl (.cons (k := 106) rfl .nil)))))) ?_
          refine W.ret ?_
          exact N.retBy [] (.cons (by first | exact .cell (c := 104) rfl rfl (fun w hs => run_loadVarA Try.underlying68 rfl sz68 rfl (fun j u hj => by rw [Nat.zero_add, PH.sub.cell hs (by first | exact single_self _ _ | exact pset_self _ _ _ | assumption)]; exact hj))) (.cons (by first | exact .cell (c := 105) rfl rfl (fun w hs => run_loadVarA Try.underlying40 rfl sz40 rfl (fun j u hj => by rw [Nat.zero_add, PH.sub.cell hs (by first | exact single_self _ _ | exact pset_self _ _ _ | assumption)]; exact hj))) .nil)) rfl rfl rfl rfl ⟨by unfold doL; rw [if_neg (show ¬ o.kd = 1 by omega), if_neg (show ¬ o.kd = 3 by omega), if_pos (show o.kd = 2 by omega), if_pos (show c.1 = true ∧ c.2 = o.old by simpa using hc40)]; rfl, rfl⟩
      ·
        refine W.seq ?_
        refine W.draw (.q 0 (.q 1 (.one 2 (.one 3 .done)))) (.cons (k := 0) rfl (.cons (k := 102) rfl (.cons (k := 103) rfl (.cons (k := 106) rfl .nil)))) mix (by kernel_rfl) (by kernel_rfl) ?_
        refine DL.q rfl (Yld.loadW (c := 102) Try.underlying68 rfl sz68 rfl rfl (by first | exact single_self _ _ | exact pset_self _ _ _ | assumption) rfl) rfl ?_
        refine DL.q rfl (Yld.loadW (c := 106) Try.underlying40 rfl sz40 rfl rfl (by first | exact single_self _ _ | exact pset_self _ _ _ | assumption) rfl) rfl ?_
        refine DL.one0 rfl (Eff.storeS (c := 104) _ sz68 rfl rfl rfl rfl rfl rfl rfl (by (try simp only [putAt, List.take, List.drop, List.nil_append, List.cons_append, List.append_nil, List.length_cons, List.length_nil, Nat.add_zero, Nat.zero_add, Nat.reduceAdd]); rfl)) (by rintro _ _ rfl; repeat (first | exact .nil | refine .cons rfl ?_)) ?_
        rintro _ _ rfl
        refine DL.one0 rfl (Eff.storeS (c := 105) _ sz40 rfl rfl rfl rfl rfl rfl rfl (by (try simp only [putAt, List.take, List.drop, List.nil_append, List.cons_append, List.append_nil, List.length_cons, List.length_nil, Nat.add_zero, Nat.zero_add, Nat.reduceAdd]); rfl)) (by rintro _ _ rfl; repeat (first | exact .nil | refine .cons rfl ?_)) ?_
        rintro _ _ rfl
        refine DL.done ?_
        refine N.next ?_
        refine W.keep (.cons (k := 4) rfl (.cons (k := 5) rfl .nil)) (.cons (k := 0) rfl (.cons (k := 102) rfl (.cons (k := 103) rfl (.cons (k := 104) rfl (.cons (k := 105) rfl (.cons (k := 106) rfl .nil)))))) ?_
        refine W.ret ?_
        refine N.block_ret ?_
        refine N.then_ret ?_
        exact N.retBy [] (.cons (by first | exact .cell (c := 104) rfl rfl (fun w hs => run_loadVarA Try.underlying68 rfl sz68 rfl (fun j u hj => by rw [Nat.zero_add, PH.sub.cell hs (by first | exact single_self _ _ | exact pset_self _ _ _ | assumption)]; exact hj))) (.cons (by first | exact .cell (c := 105) rfl rfl (fun w hs => run_loadVarA Try.underlying40 rfl sz40 rfl (fun j u hj => by rw [Nat.zero_add, PH.sub.cell hs (by first | exact single_self _ _ | exact pset_self _ _ _ | assumption)]; exact hj))) .nil)) rfl rfl rfl rfl ⟨by unfold doL; rw [if_neg (show ¬ o.kd = 1 by omega), if_neg (show ¬ o.kd = 3 by omega), if_neg (show ¬ o.kd = 2 by omega)]; rfl, rfl⟩

set_option maxRecDepth 100000 in
set_option maxHeartbeats 400000 in
theorem rdo_ct (c : Cell) (o : O) : Ct Try.prog 33 [.agg [.bool c.1, .int .i64 c.2].toArray, .agg [.int .i64 o.kd, .string o.key, .int .i64 o.val, .int .i64 o.old].toArray] [] (fun v Hs => v = .tuple #[.agg [.bool (doL c o).1.1, .int .i64 (doL c o).1.2].toArray, .agg [.int .i64 0, .bool (doL c o).2.1, .int .i64 (doL c o).2.2].toArray] ∧ Hs = []) := by
  refine Ct.body Try.func33 rfl Try.ntmps33 rfl ?_
  intro E F
  refine W.seq ?_
  refine W.region ?_
  refine RL.e (Eff.box 102 _ rfl rfl) rfl ?_
  rintro _ _ ⟨b2, rfl, rfl⟩
  refine RL.e (Eff.box 103 _ rfl rfl) rfl ?_
  rintro _ _ ⟨b3, rfl, rfl⟩
  refine RL.e (Eff.alloc 104 zc59) rfl ?_
  rintro _ _ ⟨b4, rfl, rfl⟩
  refine RL.e (Eff.alloc 105 zc40) rfl ?_
  rintro _ _ ⟨b5, rfl, rfl⟩
  refine RL.nil ?_
  refine N.next ?_
  refine W.seq ?_
  refine W.seq ?_
  refine W.region ?_
  refine RL.q (Yld.fieldAddr fo38_0 rfl) rfl ?_
  refine RL.q (Yld.load1 (c := 103) Try.underlying3 rfl rfl rfl (by first | exact single_self _ _ | exact pset_self _ _ _ | assumption) rfl) rfl ?_
  refine RL.nil ?_
  refine N.next ?_
  refine W.block ?_
  refine W.seq ?_
  refine W.region ?_
  refine RL.q (Yld.bin rfl rfl BinV.eql) rfl ?_
  refine RL.q (Yld.assign rfl) rfl ?_
  refine RL.nil ?_
  refine N.next ?_
  refine W.keep (.cons (k := 2) rfl (.cons (k := 3) rfl (.cons (k := 4) rfl (.cons (k := 5) rfl (.cons (k := 7) rfl (.cons (k := 8) rfl .nil)))))) (.cons (k := 0) rfl (.cons (k := 102) rfl (.cons (k := 103) rfl (.cons (k := 104) rfl (.cons (k := 105) rfl .nil))))) ?_
  first | refine W.condD rfl (fun hc8 => ?_) (fun hc8 => ?_) | (refine W.cond rfl (fun hc8 => ?_) (fun hc8 => ?_) <;> try simp only [Bool.or_eq_true, Bool.and_eq_true, Bool.not_eq_true', Bool.not_eq_false', decide_eq_true_eq, Bool.or_eq_false_iff, Bool.and_eq_false_iff, decide_eq_false_iff_not, beq_iff_eq, beq_eq_false_iff_ne, ne_eq, Decidable.not_not] at hc8)
  ·
    refine W.region ?_
    refine RL.q (Yld.fieldAddr fo38_2 rfl) rfl ?_
    refine RL.q (Yld.load1 (c := 103) Try.underlying2 rfl rfl rfl (by first | exact single_self _ _ | exact pset_self _ _ _ | assumption) rfl) rfl ?_
    refine RL.q (Yld.buildP lay59 (.cons rfl rfl (.cons rfl rfl .nil)) rfl) rfl ?_
    refine RL.e0 (Eff.storeS (c := 102) _ sz59 rfl rfl rfl rfl rfl rfl rfl (by (try simp only [putAt, List.take, List.drop, List.nil_append, List.cons_append, List.append_nil, List.length_cons, List.length_nil, Nat.add_zero, Nat.zero_add, Nat.reduceAdd]); rfl)) ?_
    rintro _ _ rfl
    refine RL.nil ?_
    refine N.block_normal ?_
    refine N.next ?_
    refine W.keep (.cons (k := 2) rfl (.cons (k := 4) rfl (.cons (k := 5) rfl .nil))) (.cons (k := 0) rfl (.cons (k := 102) rfl (.cons (k := 103) rfl (.cons (k := 104) rfl (.cons (k := 105) rfl .nil))))) ?_
    refine W.seq ?_
    refine W.draw (.q 0 (.q 1 (.q 2 (.q 3 (.q 4 (.q 5 (.one 6 (.one 7 .done)))))))) (.cons (k := 0) rfl (.cons (k := 102) rfl (.cons (k := 103) rfl .nil))) mix (by kernel_rfl) (by kernel_rfl) ?_
    refine DL.q rfl (Yld.loadW (c := 102) Try.underlying59 rfl sz59 rfl rfl (by first | exact single_self _ _ | exact pset_self _ _ _ | assumption) rfl) rfl ?_
    refine DL.q rfl (Yld.fieldAddr fo59_0 rfl) rfl ?_
    refine DL.q rfl (Yld.load1 (c := 102) Try.underlying4 rfl rfl rfl (by first | exact single_self _ _ | exact pset_self _ _ _ | assumption) rfl) rfl ?_
    refine DL.q rfl (Yld.fieldAddr fo59_1 rfl) rfl ?_
    refine DL.q rfl (Yld.load1 (c := 102) Try.underlying2 rfl rfl rfl (by first | exact single_self _ _ | exact pset_self _ _ _ | assumption) rfl) rfl ?_
    refine DL.q rfl (Yld.buildP lay40 (.cons rfl rfl (.cons rfl rfl .nil)) rfl) rfl ?_
    refine DL.one0 rfl (Eff.storeS (c := 104) _ sz59 rfl rfl rfl rfl rfl rfl rfl (by (try simp only [putAt, List.take, List.drop, List.nil_append, List.cons_append, List.append_nil, List.length_cons, List.length_nil, Nat.add_zero, Nat.zero_add, Nat.reduceAdd]); rfl)) (by rintro _ _ rfl; repeat (first | exact .nil | refine .cons rfl ?_)) ?_
    rintro _ _ rfl
    refine DL.one0 rfl (Eff.storeS (c := 105) _ sz40 rfl rfl rfl rfl rfl rfl rfl (by (try simp only [putAt, List.take, List.drop, List.nil_append, List.cons_append, List.append_nil, List.length_cons, List.length_nil, Nat.add_zero, Nat.zero_add, Nat.reduceAdd]); rfl)) (by rintro _ _ rfl; repeat (first | exact .nil | refine .cons rfl ?_)) ?_
    rintro _ _ rfl
    refine DL.done ?_
    refine N.next ?_
    refine W.keep (.cons (k := 4) rfl (.cons (k := 5) rfl .nil)) (.cons (k := 0) rfl (.cons (k := 102) rfl (.cons (k := 103) rfl (.cons (k := 104) rfl (.cons (k := 105) rfl .nil))))) ?_
    refine W.ret ?_
    exact N.retBy [] (.cons (by first | exact .cell (c := 104) rfl rfl (fun w hs => run_loadVarA Try.underlying59 rfl sz59 rfl (fun j u hj => by rw [Nat.zero_add, PH.sub.cell hs (by first | exact single_self _ _ | exact pset_self _ _ _ | assumption)]; exact hj))) (.cons (by first | exact .cell (c := 105) rfl rfl (fun w hs => run_loadVarA Try.underlying40 rfl sz40 rfl (fun j u hj => by rw [Nat.zero_add, PH.sub.cell hs (by first | exact single_self _ _ | exact pset_self _ _ _ | assumption)]; exact hj))) .nil)) rfl rfl rfl rfl ⟨by unfold doL; rw [if_pos (show o.kd = 1 by omega)]; rfl, rfl⟩
  ·
    refine W.seq ?_
    refine W.region ?_
    refine RL.q (Yld.bin rfl rfl BinV.eql) rfl ?_
    refine RL.q (Yld.assign rfl) rfl ?_
    refine RL.nil ?_
    refine N.next ?_
    first | refine W.condD rfl (fun hc13 => ?_) (fun hc13 => ?_) | (refine W.cond rfl (fun hc13 => ?_) (fun hc13 => ?_) <;> try simp only [Bool.or_eq_true, Bool.and_eq_true, Bool.not_eq_true', Bool.not_eq_false', decide_eq_true_eq, Bool.or_eq_false_iff, Bool.and_eq_false_iff, decide_eq_false_iff_not, beq_iff_eq, beq_eq_false_iff_ne, ne_eq, Decidable.not_not] at hc13)
    ·
      refine W.seq ?_
      refine W.seq ?_
      refine W.region ?_
      refine RL.q (Yld.fieldAddr fo59_0 rfl) rfl ?_
      refine RL.q (Yld.load1 (c := 102) Try.underlying4 rfl rfl rfl (by first | exact single_self _ _ | exact pset_self _ _ _ | assumption) rfl) rfl ?_
      refine RL.q (by first | exact Yld.notD rfl | exact Yld.not rfl) rfl ?_
      refine RL.q (Yld.move rfl) rfl ?_
      refine' RL.or (t := 18) (d := 24) 6 rfl (.cons (k := 2) rfl (.cons (k := 3) rfl (.cons (k := 4) rfl (.cons (k := 5) rfl (.cons (k := 7) rfl (.cons (k := 8) rfl (.cons (k := 13) rfl (.cons (k := 14) rfl (.cons (k := 15) rfl (.cons (k := 16) rfl (.cons (k := 17) rfl .nil))))))))))) (.cons (k := 0) rfl (.cons (k := 102) rfl (.cons (k := 103) rfl (.cons (k := 104) rfl (.cons (k := 105) rfl .nil))))) ?_ ?_ ?_
      rotate_left 1
      ·
        intro hg18
        refine RL.gq rfl rfl (Yld.fieldAddr fo59_1 rfl) rfl ?_
        refine RL.gq rfl rfl (Yld.load1 (c := 102) Try.underlying2 rfl rfl rfl (by first | exact single_self _ _ | exact pset_self _ _ _ | assumption) rfl) rfl ?_
        refine RL.gq rfl rfl (Yld.fieldAddr fo38_3 rfl) rfl ?_
        refine RL.gq rfl rfl (Yld.load1 (c := 103) Try.underlying2 rfl rfl rfl (by first | exact single_self _ _ | exact pset_self _ _ _ | assumption) rfl) rfl ?_
        refine RL.gq rfl rfl (Yld.bin rfl rfl BinV.neq) rfl ?_
        refine RL.q (by first | exact Yld.pickT rfl rfl | exact Yld.pickF rfl rfl) rfl ?_
        exact RL.nil (N.meet (.cons rfl (.cons rfl (.cons rfl (.cons rfl (.cons rfl (.cons rfl (.cons rfl (.cons rfl (.cons rfl (.cons rfl (.cons rfl (.cons rfl .nil)))))))))))) (.cons rfl (.cons rfl (.cons rfl (.cons rfl (.cons rfl .nil))))))
      ·
        intro hg18
        refine RL.gskip rfl rfl rfl rfl ?_
        refine RL.gskip rfl rfl rfl rfl ?_
        refine RL.gskip rfl rfl rfl rfl ?_
        refine RL.gskip rfl rfl rfl rfl ?_
        refine RL.gskip rfl rfl rfl rfl ?_
        refine RL.q (by first | exact Yld.pickT rfl rfl | exact Yld.pickF rfl rfl) rfl ?_
        exact RL.nil (N.meet (.cons rfl (.cons rfl (.cons rfl (.cons rfl (.cons rfl (.cons rfl (.cons rfl (.cons rfl (.cons rfl (.cons rfl (.cons rfl (.cons rfl .nil)))))))))))) (.cons rfl (.cons rfl (.cons rfl (.cons rfl (.cons rfl .nil))))))
      refine RL.nil ?_
      refine N.next ?_
      refine W.keep (.cons (k := 2) rfl (.cons (k := 3) rfl (.cons (k := 4) rfl (.cons (k := 5) rfl (.cons (k := 24) rfl .nil))))) (.cons (k := 0) rfl (.cons (k := 102) rfl (.cons (k := 103) rfl (.cons (k := 104) rfl (.cons (k := 105) rfl .nil))))) ?_
      first | refine W.condD rfl (fun hc24 => ?_) (fun hc24 => ?_) | (refine W.cond rfl (fun hc24 => ?_) (fun hc24 => ?_) <;> try simp only [Bool.or_eq_true, Bool.and_eq_true, Bool.not_eq_true', Bool.not_eq_false', decide_eq_true_eq, Bool.or_eq_false_iff, Bool.and_eq_false_iff, decide_eq_false_iff_not, beq_iff_eq, beq_eq_false_iff_ne, ne_eq, Decidable.not_not] at hc24)
      ·
        refine W.seq ?_
        refine W.draw (.q 0 (.q 1 (.q 2 (.q 3 (.one 4 (.one 5 .done)))))) (.cons (k := 0) rfl (.cons (k := 102) rfl (.cons (k := 103) rfl .nil))) mix (by kernel_rfl) (by kernel_rfl) ?_
        refine DL.q rfl (Yld.loadW (c := 102) Try.underlying59 rfl sz59 rfl rfl (by first | exact single_self _ _ | exact pset_self _ _ _ | assumption) rfl) rfl ?_
        refine DL.q rfl (Yld.fieldAddr fo59_1 rfl) rfl ?_
        refine DL.q rfl (Yld.load1 (c := 102) Try.underlying2 rfl rfl rfl (by first | exact single_self _ _ | exact pset_self _ _ _ | assumption) rfl) rfl ?_
        refine DL.q rfl (Yld.buildP lay40 (.cons rfl rfl .nil) rfl) rfl ?_
        refine DL.one0 rfl (Eff.storeS (c := 104) _ sz59 rfl rfl rfl rfl rfl rfl rfl (by (try simp only [putAt, List.take, List.drop, List.nil_append, List.cons_append, List.append_nil, List.length_cons, List.length_nil, Nat.add_zero, Nat.zero_add, Nat.reduceAdd]); rfl)) (by rintro _ _ rfl; repeat (first | exact .nil | refine .cons rfl ?_)) ?_
        rintro _ _ rfl
        refine DL.one0 rfl (Eff.storeS (c := 105) _ sz40 rfl rfl rfl rfl rfl rfl rfl (by (try simp only [putAt, List.take, List.drop, List.nil_append, List.cons_append, List.append_nil, List.length_cons, List.length_nil, Nat.add_zero, Nat.zero_add, Nat.reduceAdd]); rfl)) (by rintro _ _ rfl; repeat (first | exact .nil | refine .cons rfl ?_)) ?_
        rintro _ _ rfl
        refine DL.done ?_
        refine N.next ?_
        refine W.keep (.cons (k := 4) rfl (.cons (k := 5) rfl .nil)) (.cons (k := 0) rfl (.cons (k := 102) rfl (.cons (k := 103) rfl (.cons (k := 104) rfl (.cons (k := 105) rfl .nil))))) ?_
        refine W.ret ?_
        refine N.then_ret ?_
        refine N.block_ret ?_
        refine N.then_ret ?_
        exact N.retBy [] (.cons (by first | exact .cell (c := 104) rfl rfl (fun w hs => run_loadVarA Try.underlying59 rfl sz59 rfl (fun j u hj => by rw [Nat.zero_add, PH.sub.cell hs (by first | exact single_self _ _ | exact pset_self _ _ _ | assumption)]; exact hj))) (.cons (by first | exact .cell (c := 105) rfl rfl (fun w hs => run_loadVarA Try.underlying40 rfl sz40 rfl (fun j u hj => by rw [Nat.zero_add, PH.sub.cell hs (by first | exact single_self _ _ | exact pset_self _ _ _ | assumption)]; exact hj))) .nil)) rfl rfl rfl rfl ⟨by unfold doL; rw [if_neg (show ¬ o.kd = 1 by omega), if_neg (show ¬ o.kd = 3 by omega), if_pos (show o.kd = 2 by omega), if_neg (show ¬ (c.1 = true ∧ c.2 = o.old) from fun h => by simp [h.1, h.2] at hc24)]; rfl, rfl⟩
      ·
        refine W.skip ?_
        refine N.next ?_
        refine W.region ?_
        refine RL.q (Yld.fieldAddr fo38_2 rfl) rfl ?_
        refine RL.q (Yld.load1 (c := 103) Try.underlying2 rfl rfl rfl (by first | exact single_self _ _ | exact pset_self _ _ _ | assumption) rfl) rfl ?_
        refine RL.q (Yld.buildP lay59 (.cons rfl rfl (.cons rfl rfl .nil)) rfl) rfl ?_
        refine RL.e0 (Eff.storeS (c := 102) _ sz59 rfl rfl rfl rfl rfl rfl rfl (by (try simp only [putAt, List.take, List.drop, List.nil_append, List.cons_append, List.append_nil, List.length_cons, List.length_nil, Nat.add_zero, Nat.zero_add, Nat.reduceAdd]); rfl)) ?_
        rintro _ _ rfl
        refine RL.nil ?_
        refine N.block_normal ?_
        refine N.next ?_
        refine W.keep (.cons (k := 2) rfl (.cons (k := 4) rfl (.cons (k := 5) rfl .nil))) (.cons (k := 0) rfl (.cons (k := 102) rfl (.cons (k := 103) rfl (.cons (k := 104) rfl (.cons (k := 105) rfl .nil))))) ?_
        refine W.seq ?_
        refine W.draw (.q 0 (.q 1 (.q 2 (.q 3 (.q 4 (.q 5 (.one 6 (.one 7 .done)))))))) (.cons (k := 0) rfl (.cons (k := 102) rfl (.cons (k := 103) rfl .nil))) mix (by kernel_rfl) (by kernel_rfl) ?_
        refine DL.q rfl (Yld.loadW (c := 102) Try.underlying59 rfl sz59 rfl rfl (by first | exact single_self _ _ | exact pset_self _ _ _ | assumption) rfl) rfl ?_
        refine DL.q rfl (Yld.fieldAddr fo59_0 rfl) rfl ?_
        refine DL.q rfl (Yld.load1 (c := 102) Try.underlying4 rfl rfl rfl (by first | exact single_self _ _ | exact pset_self _ _ _ | assumption) rfl) rfl ?_
        refine DL.q rfl (Yld.fieldAddr fo59_1 rfl) rfl ?_
        refine DL.q rfl (Yld.load1 (c := 102) Try.underlying2 rfl rfl rfl (by first | exact single_self _ _ | exact pset_self _ _ _ | assumption) rfl) rfl ?_
        refine DL.q rfl (Yld.buildP lay40 (.cons rfl rfl (.cons rfl rfl .nil)) rfl) rfl ?_
        refine DL.one0 rfl (Eff.storeS (c := 104) _ sz59 rfl rfl rfl rfl rfl rfl rfl (by (try simp only [putAt, List.take, List.drop, List.nil_append, List.cons_append, List.append_nil, List.length_cons, List.length_nil, Nat.add_zero, Nat.zero_add, Nat.reduceAdd]); rfl)) (by rintro _ _ rfl; repeat (first | exact .nil | refine .cons rfl ?_)) ?_
        rintro _ _ rfl
        refine DL.one0 rfl (Eff.storeS (c := 105) _ sz40 rfl rfl rfl rfl rfl rfl rfl (by (try simp only [putAt, List.take, List.drop, List.nil_append, List.cons_append, List.append_nil, List.length_cons, List.length_nil, Nat.add_zero, Nat.zero_add, Nat.reduceAdd]); rfl)) (by rintro _ _ rfl; repeat (first | exact .nil | refine .cons rfl ?_)) ?_
        rintro _ _ rfl
        refine DL.done ?_
        refine N.next ?_
        refine W.keep (.cons (k := 4) rfl (.cons (k := 5) rfl .nil)) (.cons (k := 0) rfl (.cons (k := 102) rfl (.cons (k := 103) rfl (.cons (k := 104) rfl (.cons (k := 105) rfl .nil))))) ?_
        refine W.ret ?_
        exact N.retBy [] (.cons (by first | exact .cell (c := 104) rfl rfl (fun w hs => run_loadVarA Try.underlying59 rfl sz59 rfl (fun j u hj => by rw [Nat.zero_add, PH.sub.cell hs (by first | exact single_self _ _ | exact pset_self _ _ _ | assumption)]; exact hj))) (.cons (by first | exact .cell (c := 105) rfl rfl (fun w hs => run_loadVarA Try.underlying40 rfl sz40 rfl (fun j u hj => by rw [Nat.zero_add, PH.sub.cell hs (by first | exact single_self _ _ | exact pset_self _ _ _ | assumption)]; exact hj))) .nil)) rfl rfl rfl rfl ⟨by unfold doL; rw [if_neg (show ¬ o.kd = 1 by omega), if_neg (show ¬ o.kd = 3 by omega), if_pos (show o.kd = 2 by omega), if_pos (show c.1 = true ∧ c.2 = o.old by simpa using hc24)]; rfl, rfl⟩
    ·
      refine W.seq ?_
      refine W.region ?_
      refine RL.q (Yld.bin rfl rfl BinV.eql) rfl ?_
      refine RL.q (Yld.assign rfl) rfl ?_
      refine RL.nil ?_
      refine N.next ?_
      refine W.keep (.cons (k := 2) rfl (.cons (k := 3) rfl (.cons (k := 4) rfl (.cons (k := 5) rfl (.cons (k := 32) rfl .nil))))) (.cons (k := 0) rfl (.cons (k := 102) rfl (.cons (k := 103) rfl (.cons (k := 104) rfl (.cons (k := 105) rfl .nil))))) ?_
      first | refine W.condD rfl (fun hc32 => ?_) (fun hc32 => ?_) | (refine W.cond rfl (fun hc32 => ?_) (fun hc32 => ?_) <;> try simp only [Bool.or_eq_true, Bool.and_eq_true, Bool.not_eq_true', Bool.not_eq_false', decide_eq_true_eq, Bool.or_eq_false_iff, Bool.and_eq_false_iff, decide_eq_false_iff_not, beq_iff_eq, beq_eq_false_iff_ne, ne_eq, Decidable.not_not] at hc32)
      ·
        refine W.region ?_
        refine RL.q (Yld.fieldAddr fo59_1 rfl) rfl ?_
        refine RL.q (Yld.load1 (c := 102) Try.underlying2 rfl rfl rfl (by first | exact single_self _ _ | exact pset_self _ _ _ | assumption) rfl) rfl ?_
        refine RL.q (Yld.fieldAddr fo38_2 rfl) rfl ?_
        refine RL.q (Yld.load1 (c := 103) Try.underlying2 rfl rfl rfl (by first | exact single_self _ _ | exact pset_self _ _ _ | assumption) rfl) rfl ?_
        refine RL.q (Yld.bin rfl rfl BinV.addW) rfl ?_
        refine RL.q (Yld.buildP lay59 (.cons rfl rfl (.cons rfl rfl .nil)) rfl) rfl ?_
        refine RL.e0 (Eff.storeS (c := 102) _ sz59 rfl rfl rfl rfl rfl rfl rfl (by (try simp only [putAt, List.take, List.drop, List.nil_append, List.cons_append, List.append_nil, List.length_cons, List.length_nil, Nat.add_zero, Nat.zero_add, Nat.reduceAdd]); rfl)) ?_
        rintro _ _ rfl
        refine RL.nil ?_
        refine N.block_normal ?_
        refine N.next ?_
        refine W.keep (.cons (k := 2) rfl (.cons (k := 4) rfl (.cons (k := 5) rfl .nil))) (.cons (k := 0) rfl (.cons (k := 102) rfl (.cons (k := 103) rfl (.cons (k := 104) rfl (.cons (k := 105) rfl .nil))))) ?_
        refine W.seq ?_
        refine W.draw (.q 0 (.q 1 (.q 2 (.q 3 (.q 4 (.q 5 (.one 6 (.one 7 .done)))))))) (.cons (k := 0) rfl (.cons (k := 102) rfl (.cons (k := 103) rfl .nil))) mix (by kernel_rfl) (by kernel_rfl) ?_
        refine DL.q rfl (Yld.loadW (c := 102) Try.underlying59 rfl sz59 rfl rfl (by first | exact single_self _ _ | exact pset_self _ _ _ | assumption) rfl) rfl ?_
        refine DL.q rfl (Yld.fieldAddr fo59_0 rfl) rfl ?_
        refine DL.q rfl (Yld.load1 (c := 102) Try.underlying4 rfl rfl rfl (by first | exact single_self _ _ | exact pset_self _ _ _ | assumption) rfl) rfl ?_
        refine DL.q rfl (Yld.fieldAddr fo59_1 rfl) rfl ?_
        refine DL.q rfl (Yld.load1 (c := 102) Try.underlying2 rfl rfl rfl (by first | exact single_self _ _ | exact pset_self _ _ _ | assumption) rfl) rfl ?_
        refine DL.q rfl (Yld.buildP lay40 (.cons rfl rfl (.cons rfl rfl .nil)) rfl) rfl ?_
        refine DL.one0 rfl (Eff.storeS (c := 104) _ sz59 rfl rfl rfl rfl rfl rfl rfl (by (try simp only [putAt, List.take, List.drop, List.nil_append, List.cons_append, List.append_nil, List.length_cons, List.length_nil, Nat.add_zero, Nat.zero_add, Nat.reduceAdd]); rfl)) (by rintro _ _ rfl; repeat (first | exact .nil | refine .cons rfl ?_)) ?_
        rintro _ _ rfl
        refine DL.one0 rfl (Eff.storeS (c := 105) _ sz40 rfl rfl rfl rfl rfl rfl rfl (by (try simp only [putAt, List.take, List.drop, List.nil_append, List.cons_append, List.append_nil, List.length_cons, List.length_nil, Nat.add_zero, Nat.zero_add, Nat.reduceAdd]); rfl)) (by rintro _ _ rfl; repeat (first | exact .nil | refine .cons rfl ?_)) ?_
        rintro _ _ rfl
        refine DL.done ?_
        refine N.next ?_
        refine W.keep (.cons (k := 4) rfl (.cons (k := 5) rfl .nil)) (.cons (k := 0) rfl (.cons (k := 102) rfl (.cons (k := 103) rfl (.cons (k := 104) rfl (.cons (k := 105) rfl .nil))))) ?_
        refine W.ret ?_
        exact N.retBy [] (.cons (by first | exact .cell (c := 104) rfl rfl (fun w hs => run_loadVarA Try.underlying59 rfl sz59 rfl (fun j u hj => by rw [Nat.zero_add, PH.sub.cell hs (by first | exact single_self _ _ | exact pset_self _ _ _ | assumption)]; exact hj))) (.cons (by first | exact .cell (c := 105) rfl rfl (fun w hs => run_loadVarA Try.underlying40 rfl sz40 rfl (fun j u hj => by rw [Nat.zero_add, PH.sub.cell hs (by first | exact single_self _ _ | exact pset_self _ _ _ | assumption)]; exact hj))) .nil)) rfl rfl rfl rfl ⟨by unfold doL; rw [if_neg (show ¬ o.kd = 1 by omega), if_pos (show o.kd = 3 by omega)]; rfl, rfl⟩
      ·
        refine W.skip ?_
        refine N.block_normal ?_
        refine N.next ?_
        refine W.seq ?_
        refine W.draw (.q 0 (.q 1 (.q 2 (.q 3 (.q 4 (.q 5 (.one 6 (.one 7 .done)))))))) (.cons (k := 0) rfl (.cons (k := 102) rfl (.cons (k := 103) rfl .nil))) mix (by kernel_rfl) (by kernel_rfl) ?_
        refine DL.q rfl (Yld.loadW (c := 102) Try.underlying59 rfl sz59 rfl rfl (by first | exact single_self _ _ | exact pset_self _ _ _ | assumption) rfl) rfl ?_
        refine DL.q rfl (Yld.fieldAddr fo59_0 rfl) rfl ?_
        refine DL.q rfl (Yld.load1 (c := 102) Try.underlying4 rfl rfl rfl (by first | exact single_self _ _ | exact pset_self _ _ _ | assumption) rfl) rfl ?_
        refine DL.q rfl (Yld.fieldAddr fo59_1 rfl) rfl ?_
        refine DL.q rfl (Yld.load1 (c := 102) Try.underlying2 rfl rfl rfl (by first | exact single_self _ _ | exact pset_self _ _ _ | assumption) rfl) rfl ?_
        refine DL.q rfl (Yld.buildP lay40 (.cons rfl rfl (.cons rfl rfl .nil)) rfl) rfl ?_
        refine DL.one0 rfl (Eff.storeS (c := 104) _ sz59 rfl rfl rfl rfl rfl rfl rfl (by (try simp only [putAt, List.take, List.drop, List.nil_append, List.cons_append, List.append_nil, List.length_cons, List.length_nil, Nat.add_zero, Nat.zero_add, Nat.reduceAdd]); rfl)) (by rintro _ _ rfl; repeat (first | exact .nil | refine .cons rfl ?_)) ?_
        rintro _ _ rfl
        refine DL.one0 rfl (Eff.storeS (c := 105) _ sz40 rfl rfl rfl rfl rfl rfl rfl (by (try simp only [putAt, List.take, List.drop, List.nil_append, List.cons_append, List.append_nil, List.length_cons, List.length_nil, Nat.add_zero, Nat.zero_add, Nat.reduceAdd]); rfl)) (by rintro _ _ rfl; repeat (first | exact .nil | refine .cons rfl ?_)) ?_
        rintro _ _ rfl
        refine DL.done ?_
        refine N.next ?_
        refine W.keep (.cons (k := 4) rfl (.cons (k := 5) rfl .nil)) (.cons (k := 0) rfl (.cons (k := 102) rfl (.cons (k := 103) rfl (.cons (k := 104) rfl (.cons (k := 105) rfl .nil))))) ?_
        refine W.ret ?_
        exact N.retBy [] (.cons (by first | exact .cell (c := 104) rfl rfl (fun w hs => run_loadVarA Try.underlying59 rfl sz59 rfl (fun j u hj => by rw [Nat.zero_add, PH.sub.cell hs (by first | exact single_self _ _ | exact pset_self _ _ _ | assumption)]; exact hj))) (.cons (by first | exact .cell (c := 105) rfl rfl (fun w hs => run_loadVarA Try.underlying40 rfl sz40 rfl (fun j u hj => by rw [Nat.zero_add, PH.sub.cell hs (by first | exact single_self _ _ | exact pset_self _ _ _ | assumption)]; exact hj))) .nil)) rfl rfl rfl rfl ⟨by unfold doL; rw [if_neg (show ¬ o.kd = 1 by omega), if_neg (show ¬ o.kd = 3 by omega), if_neg (show ¬ o.kd = 2 by omega)]; rfl, rfl⟩

theorem key70 : KeyOK Try.prog 70 encSt := keySt Try.underlying70 Try.underlying68 (by kernel_rfl) (by kernel_rfl) rfl rfl rfl rfl rfl rfl rfl rfl Try.underlying63 sz68 Try.underlying4 Try.underlying2
def HistLaw.zs (r : List Nat) : List Int := r.map fun i : Nat => (i : Int)
@[simp] theorem HistLaw.zs_len (r : List Nat) : (zs r).length = r.length := by simp [zs]
theorem HistLaw.zs_app (a b : List Nat) : zs (a ++ b) = zs a ++ zs b := by simp [zs]
def HistLaw.uz (l : List Nat) : List (List Value) := l.map fun z : Nat => [.int .u64 (z : Int)]
@[simp] theorem HistLaw.uz_len (l : List Nat) : (uz l).length = l.length := by simp [uz]
theorem HistLaw.uz_get {l : List Nat} {i z : Nat} (h : l[i]? = some z) : (uz l)[i]? = some [.int .u64 (z : Int)] := by simp [uz, h]
theorem HistLaw.uz_set (l : List Nat) (i z : Nat) : uz (l.set i z) = (uz l).set i [.int .u64 (z : Int)] := by simp [uz, List.map_set]
/-- bit k of row i of the table: k precedes i -/
def HistLaw.BF (l : List O) (i k : Nat) (bf : List Nat) : Prop := bf.length = 60 ∧ ∀ (j z : Nat), bf[j]? = some z → z < 2 ^ 60 ∧ ∀ m, z.testBit m = true ↔ ((j < i ∨ j = i ∧ m < k) ∧ ∃ a b, l[j]? = some a ∧ l[m]? = some b ∧ Prec b a)
def HistLaw.MU (l : List O) (i m : Nat) : Prop := m < 2 ^ 60 ∧ ∀ k, m.testBit k = true ↔ (k < i ∧ ∃ a, l[k]? = some a ∧ 0 ≤ a.rsp)
def HistLaw.AllT (m : List (SK × Value)) : Prop := ∀ k v, mget m k = some v → v = .bool true
theorem HistLaw.AllT.get {m : List (SK × Value)} (h : AllT m) (k : SK) : (mget m k).getD (.bool false) = .bool (mget m k).isSome := by
  cases e : mget m k with
  | none => rfl
  | some v => rw [h k v e]; rfl
theorem HistLaw.AllT.set {m : List (SK × Value)} (h : AllT m) (k : SK) : AllT (mset m k (.bool true)) := by
  intro k' v hv
  rw [mget_mset] at hv
  split at hv
  · cases hv; rfl
  · exact h k' v hv
def HistLaw.Sn (m : List (SK × Value)) (s : SK) : Prop := (mget m s).isSome = true
structure HistLaw.SS where
  es : Array MapEntry
  ck : Nat
  m : List (SK × Value)
  H : PH
  p : Option Addr
  c : Nat
structure HistLaw.SI2 extends SS where
  i : Nat
theorem HistLaw.sn_set {m : List (SK × Value)} {k s : SK} : Sn (mset m k (.bool true)) s ↔ s = k ∨ Sn m s := by
  unfold Sn
  rw [mget_mset]
  by_cases e : k = s
  · subst e; simp
  · rw [if_neg e]; simp [Ne.symm e]
theorem HistLaw.free_iff {l : List O} {n t i z : Nat} (hn : l.length = n) (ht : t < 2 ^ 60) {bf : List Nat} (hB : BF l n 0 bf) (hi : i < n) (hz : bf[i]? = some z) : freeL l t i ↔ t.testBit i = false ∧ ¬ ∃ k, z.testBit k = true ∧ t.testBit k = false := by
  obtain ⟨h1, h2⟩ := hB.2 i z hz
  constructor
  · rintro ⟨h3, h4⟩
    refine ⟨h3, fun ⟨k, hk, hk2⟩ => ?_⟩
    obtain ⟨_, a, b, ha, hb, hp⟩ := (h2 k).1 hk
    rw [h4 k b a hb ha hp] at hk2; cases hk2
  · rintro ⟨h3, h4⟩
    refine ⟨h3, fun k b a hb ha hp => ?_⟩
    cases hk : t.testBit k with
    | true => rfl
    | false => exact absurd ⟨k, (h2 k).2 ⟨.inl hi, a, b, ha, hb, hp⟩, hk⟩ h4
theorem HistLaw.done_iff {l : List O} {t m : Nat} (hm : MU l l.length m) : doneL l t ↔ ∀ k, m.testBit k = true → t.testBit k = true := by
  constructor
  · intro h k hk
    obtain ⟨_, a, ha, h0⟩ := (hm.2 k).1 hk
    exact h k a ha h0
  · intro h i a ha h0
    exact h i ((hm.2 i).2 ⟨(List.getElem?_eq_some_iff.1 ha).1, a, ha, h0⟩)

end Go.Proofs.Ytbgppnkccbhbpaa
