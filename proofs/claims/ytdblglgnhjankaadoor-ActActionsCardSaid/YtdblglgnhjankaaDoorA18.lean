/- Message, in the reference. Written by program (walk2.py). -/
import Derived.Test.YtdblglgnhjankaaDoorA16
import Derived.Test.YtdblglgnhjankaaDoorA17
namespace Go.Proofs.YtdblglgnhjankaaDoor
open SL Cfg
set_option linter.unusedVariables false
set_option linter.unusedSimpArgs false

set_option maxRecDepth 100000 in
set_option maxHeartbeats 6400000 in
theorem rmessage_ct (a : Ac) (gn nu : Int) (z : Sta) (H1 : PH) (hz : z.In H1) (hb : z.o.length ≤ 100000) : Ct Tryd.prog 26 [.agg [.int .i64 a.k, .int .i64 a.m, .int .i64 a.g, .int .i64 a.c, .int .i64 a.r, .int .i64 a.uk, .int .i64 a.ui, .int .i64 a.ur, .int .i64 a.uv].toArray, .int .i64 gn, .int .i64 nu, .agg [.int .i64 z.g, .int .i64 z.m, .int .i64 z.ro, .int .i64 z.te, .int .i64 z.le, .int .i64 z.ba, .int .i64 z.la, .int .i64 z.co, .slice z.p0 z.n0 z.c0, .slice z.p1 z.n1 z.c1, .slice z.p2 z.n2 z.c2, .slice z.po z.o.length z.cso, .slice z.pn z.n.length z.csn, .slice z.pl z.l.length z.csl, .slice z.pq z.q.length z.csq].toArray] [H1] (fun v Hs => ∃ (x : Msg) (ok : Bool) (H' : PH), v = .tuple #[x.val, .bool ok] ∧ x.In H' ∧ (x.toMsgD, ok) = msgF a gn nu z ∧ Hs = [H1, H']) := by
  refine Ct.body Tryd.func26 rfl Tryd.ntmps26 rfl ?_
  intro E F
  obtain ⟨ho, hn, hll, hq⟩ := hz
  have hmo := ho.len_le
  simp only [iz_len, maxLen] at hmo
  have hmn := hn.len_le
  simp only [iz_len, maxLen] at hmn
  refine W.seq ?_
  refine W.imp (Imp.empty _ 130) ?_
  refine W.region ?_
  refine RL.e (Eff.box 104 _ rfl rfl) rfl ?_
  rintro _ _ ⟨b4, rfl, rfl⟩
  refine RL.e (Eff.box 107 _ rfl rfl) rfl ?_
  rintro _ _ ⟨b7, rfl, rfl⟩
  refine RL.e (Eff.alloc 108 zc71) rfl ?_
  rintro _ _ ⟨b8, rfl, rfl⟩
  refine RL.q (Yld.assign rfl) rfl ?_
  refine RL.nil ?_
  refine N.next ?_
  refine W.seq ?_
  refine W.seq ?_
  refine W.region ?_
  refine RL.q (Yld.fieldAddr fo44_0 rfl) rfl ?_
  refine RL.q (Yld.load1 (c := 104) Tryd.underlying3 rfl rfl rfl (by first | exact single_self _ _ | exact pset_self _ _ _ | assumption) rfl) rfl ?_
  refine RL.q (Yld.bin rfl rfl BinV.eql) rfl ?_
  refine RL.nil ?_
  refine N.next ?_
  refine W.keep (.cons (k := 1) rfl (.cons (k := 2) rfl (.cons (k := 4) rfl (.cons (k := 7) rfl (.cons (k := 8) rfl (.cons (k := 14) rfl .nil)))))) (.cons (k := 0) rfl (.cons (k := 1) rfl (.cons (k := 104) rfl (.cons (k := 107) rfl (.cons (k := 108) rfl (.cons (k := 130) rfl .nil)))))) ?_
  first | refine W.condD rfl (fun hc14 => ?_) (fun hc14 => ?_) | (refine W.cond rfl (fun hc14 => ?_) (fun hc14 => ?_) <;> try simp only [Bool.or_eq_true, Bool.and_eq_true, Bool.not_eq_true', Bool.not_eq_false', decide_eq_true_eq, Bool.or_eq_false_iff, Bool.and_eq_false_iff, decide_eq_false_iff_not, beq_iff_eq, beq_eq_false_iff_ne, ne_eq, Decidable.not_not] at hc14)
  ·
    refine W.seq ?_
    refine W.region ?_
    refine RL.q (Yld.move rfl) rfl ?_
    refine RL.q (Yld.move rfl) rfl ?_
    refine RL.q (Yld.fieldAddr fo44_5 rfl) rfl ?_
    refine RL.q (Yld.loadA (c := 104) Tryd.underlying42 rfl sz42 rfl rfl (by first | exact single_self _ _ | exact pset_self _ _ _ | assumption) rfl rfl) rfl ?_
    refine RL.q (Yld.buildP lay71 (.cons rfl rfl (.cons rfl rfl (.cons rfl rfl (.cons rfl rfl .nil)))) rfl) rfl ?_
    refine RL.e0 (Eff.storeS (c := 108) _ sz71 rfl rfl rfl rfl rfl rfl rfl (by (try simp only [putAt, List.take, List.drop, List.nil_append, List.cons_append, List.append_nil, List.length_cons, List.length_nil, Nat.add_zero, Nat.zero_add, Nat.reduceAdd]); rfl)) ?_
    rintro _ _ rfl
    refine RL.q (Yld.assign rfl) rfl ?_
    refine RL.nil ?_
    refine N.next ?_
    refine W.keep (.cons (k := 8) rfl (.cons (k := 9) rfl .nil)) (.cons (k := 0) rfl (.cons (k := 1) rfl (.cons (k := 104) rfl (.cons (k := 107) rfl (.cons (k := 108) rfl (.cons (k := 130) rfl .nil)))))) ?_
    refine W.ret ?_
    refine N.then_ret ?_
    exact N.retBy [1, 130] (.cons (by first | exact .cell (c := 108) rfl rfl (fun w hs => run_loadVarA Tryd.underlying71 rfl sz71 rfl (fun j u hj => by rw [Nat.zero_add, PH.sub.cell hs (by first | exact single_self _ _ | exact pset_self _ _ _ | assumption)]; exact hj))) (.cons (.tmp rfl) .nil)) rfl rfl rfl rfl ⟨⟨msgU a gn nu, none, 0, none, 0⟩, true, _, rfl, ⟨⟨rfl, rfl⟩, ⟨rfl, rfl⟩⟩, by unfold msgF; rw [if_pos hc14], rfl⟩
  ·
    have hk0 : ¬ a.k = 0 := hc14
    refine W.skip ?_
    refine N.next ?_
    refine W.seq ?_
    refine W.region ?_
    refine RL.q (Yld.fieldAddr fo61_9 rfl) rfl ?_
    refine RL.q (Yld.fieldAddr fo59_0 rfl) rfl ?_
    refine RL.q (Yld.load1 (c := 107) Tryd.underlying54 rfl rfl rfl (by first | exact single_self _ _ | exact pset_self _ _ _ | assumption) rfl) rfl ?_
    refine RL.q (Yld.assign rfl) rfl ?_
    refine RL.nil ?_
    refine N.next ?_
    refine W.keep (.cons (k := 1) rfl (.cons (k := 2) rfl (.cons (k := 4) rfl (.cons (k := 7) rfl (.cons (k := 8) rfl (.cons (k := 10) rfl .nil)))))) (.cons (k := 0) rfl (.cons (k := 1) rfl (.cons (k := 104) rfl (.cons (k := 107) rfl (.cons (k := 108) rfl (.cons (k := 130) rfl .nil)))))) ?_
    refine W.seq ?_
    refine W.seq ?_
    refine W.region ?_
    refine RL.q (Yld.fieldAddr fo44_0 rfl) rfl ?_
    refine RL.q (Yld.load1 (c := 104) Tryd.underlying3 rfl rfl rfl (by first | exact single_self _ _ | exact pset_self _ _ _ | assumption) rfl) rfl ?_
    refine RL.q (Yld.bin rfl rfl BinV.neq) rfl ?_
    refine RL.q (Yld.move rfl) rfl ?_
    refine' RL.or (t := 26) (d := 31) 5 rfl (.cons (k := 1) rfl (.cons (k := 2) rfl (.cons (k := 4) rfl (.cons (k := 7) rfl (.cons (k := 8) rfl (.cons (k := 10) rfl (.cons (k := 23) rfl (.cons (k := 24) rfl (.cons (k := 25) rfl .nil))))))))) (.cons (k := 0) rfl (.cons (k := 1) rfl (.cons (k := 104) rfl (.cons (k := 107) rfl (.cons (k := 108) rfl (.cons (k := 130) rfl .nil)))))) ?_ ?_ ?_
    rotate_left 1
    ·
      intro hg26
      refine RL.gq rfl rfl (Yld.loadW (c := 104) Tryd.underlying44 rfl sz44 rfl rfl (by first | exact single_self _ _ | exact pset_self _ _ _ | assumption) rfl) rfl ?_
      refine RL.gq rfl rfl (Yld.loadW (c := 107) Tryd.underlying61 rfl sz61 rfl rfl (by first | exact single_self _ _ | exact pset_self _ _ _ | assumption) rfl) rfl ?_
      refine RL.ge rfl rfl (Eff.call ent55 [] [] (.cons rfl (.cons rfl .nil)) (rleader_ct a z) rfl rfl rfl rfl (by rintro _ _ ⟨_, rfl⟩; rfl)) rfl ?_
      rintro _ _ ⟨_, ⟨rfl, rfl⟩, rfl⟩
      refine RL.gq rfl rfl (by first | exact Yld.notD rfl | exact Yld.not rfl) rfl ?_
      refine RL.q (by first | exact Yld.pickT rfl rfl | exact Yld.pickF rfl rfl) rfl ?_
      exact RL.nil (N.meet (.cons rfl (.cons rfl (.cons rfl (.cons rfl (.cons rfl (.cons rfl (.cons rfl (.cons rfl (.cons rfl (.cons rfl .nil)))))))))) (.cons rfl (.cons rfl (.cons rfl (.cons rfl (.cons rfl (.cons rfl .nil)))))))
    ·
      intro hg26
      refine RL.gskip rfl rfl rfl rfl ?_
      refine RL.gskip rfl rfl rfl rfl ?_
      refine RL.gskip rfl rfl rfl rfl ?_
      refine RL.gskip rfl rfl rfl rfl ?_
      refine RL.q (by first | exact Yld.pickT rfl rfl | exact Yld.pickF rfl rfl) rfl ?_
      exact RL.nil (N.meet (.cons rfl (.cons rfl (.cons rfl (.cons rfl (.cons rfl (.cons rfl (.cons rfl (.cons rfl (.cons rfl (.cons rfl .nil)))))))))) (.cons rfl (.cons rfl (.cons rfl (.cons rfl (.cons rfl (.cons rfl .nil)))))))
    refine RL.q (Yld.move rfl) rfl ?_
    refine' RL.or (t := 32) (d := 38) 6 rfl (.cons (k := 1) rfl (.cons (k := 2) rfl (.cons (k := 4) rfl (.cons (k := 7) rfl (.cons (k := 8) rfl (.cons (k := 10) rfl (.cons (k := 23) rfl (.cons (k := 24) rfl (.cons (k := 25) rfl (.cons (k := 31) rfl .nil)))))))))) (.cons (k := 0) rfl (.cons (k := 1) rfl (.cons (k := 104) rfl (.cons (k := 107) rfl (.cons (k := 108) rfl (.cons (k := 130) rfl .nil)))))) ?_ ?_ ?_
    rotate_left 1
    ·
      intro hg32
      refine RL.gq rfl rfl (Yld.fieldAddr fo61_9 rfl) rfl ?_
      refine RL.gq rfl rfl (Yld.fieldAddr fo59_1 rfl) rfl ?_
      refine RL.gq rfl rfl (Yld.load1 (c := 107) Tryd.underlying54 rfl rfl rfl (by first | exact single_self _ _ | exact pset_self _ _ _ | assumption) rfl) rfl ?_
      refine RL.gq rfl rfl (Yld.lenSl Tryd.underlying54 rfl) rfl ?_
      refine RL.gq rfl rfl (Yld.bin rfl rfl BinV.gtr) rfl ?_
      refine RL.q (by first | exact Yld.pickT rfl rfl | exact Yld.pickF rfl rfl) rfl ?_
      exact RL.nil (N.meet (.cons rfl (.cons rfl (.cons rfl (.cons rfl (.cons rfl (.cons rfl (.cons rfl (.cons rfl (.cons rfl (.cons rfl (.cons rfl .nil))))))))))) (.cons rfl (.cons rfl (.cons rfl (.cons rfl (.cons rfl (.cons rfl .nil)))))))
    ·
      intro hg32
      refine RL.gskip rfl rfl rfl rfl ?_
      refine RL.gskip rfl rfl rfl rfl ?_
      refine RL.gskip rfl rfl rfl rfl ?_
      refine RL.gskip rfl rfl rfl rfl ?_
      refine RL.gskip rfl rfl rfl rfl ?_
      refine RL.q (by first | exact Yld.pickT rfl rfl | exact Yld.pickF rfl rfl) rfl ?_
      exact RL.nil (N.meet (.cons rfl (.cons rfl (.cons rfl (.cons rfl (.cons rfl (.cons rfl (.cons rfl (.cons rfl (.cons rfl (.cons rfl (.cons rfl .nil))))))))))) (.cons rfl (.cons rfl (.cons rfl (.cons rfl (.cons rfl (.cons rfl .nil)))))))
    refine RL.q (Yld.move rfl) rfl ?_
    refine' RL.or (t := 39) (d := 43) 4 rfl (.cons (k := 1) rfl (.cons (k := 2) rfl (.cons (k := 4) rfl (.cons (k := 7) rfl (.cons (k := 8) rfl (.cons (k := 10) rfl (.cons (k := 23) rfl (.cons (k := 24) rfl (.cons (k := 25) rfl (.cons (k := 31) rfl (.cons (k := 38) rfl .nil))))))))))) (.cons (k := 0) rfl (.cons (k := 1) rfl (.cons (k := 104) rfl (.cons (k := 107) rfl (.cons (k := 108) rfl (.cons (k := 130) rfl .nil)))))) ?_ ?_ ?_
    rotate_left 1
    ·
      intro hg39
      refine RL.gq rfl rfl (Yld.move rfl) rfl ?_
      refine RL.gq rfl rfl (Yld.lenSl Tryd.underlying54 rfl) rfl ?_
      refine RL.gq rfl rfl (Yld.bin rfl rfl BinV.eql) rfl ?_
      refine RL.q (by first | exact Yld.pickT rfl rfl | exact Yld.pickF rfl rfl) rfl ?_
      exact RL.nil (N.meet (.cons rfl (.cons rfl (.cons rfl (.cons rfl (.cons rfl (.cons rfl (.cons rfl (.cons rfl (.cons rfl (.cons rfl (.cons rfl (.cons rfl .nil)))))))))))) (.cons rfl (.cons rfl (.cons rfl (.cons rfl (.cons rfl (.cons rfl .nil)))))))
    ·
      intro hg39
      refine RL.gskip rfl rfl rfl rfl ?_
      refine RL.gskip rfl rfl rfl rfl ?_
      refine RL.gskip rfl rfl rfl rfl ?_
      refine RL.q (by first | exact Yld.pickT rfl rfl | exact Yld.pickF rfl rfl) rfl ?_
      exact RL.nil (N.meet (.cons rfl (.cons rfl (.cons rfl (.cons rfl (.cons rfl (.cons rfl (.cons rfl (.cons rfl (.cons rfl (.cons rfl (.cons rfl (.cons rfl .nil)))))))))))) (.cons rfl (.cons rfl (.cons rfl (.cons rfl (.cons rfl (.cons rfl .nil)))))))
    refine RL.nil ?_
    refine N.next ?_
    refine W.keep (.cons (k := 1) rfl (.cons (k := 2) rfl (.cons (k := 4) rfl (.cons (k := 8) rfl (.cons (k := 10) rfl (.cons (k := 43) rfl .nil)))))) (.cons (k := 0) rfl (.cons (k := 1) rfl (.cons (k := 104) rfl (.cons (k := 107) rfl (.cons (k := 108) rfl (.cons (k := 130) rfl .nil)))))) ?_
    refine W.cond rfl (fun hc43 => ?_) (fun hc43 => ?_)
    ·
      have hg : a.k ≠ 1 ∨ leadsB a z = false ∨ 0 < z.n.length ∨ z.o.length = 0 := by simpa [or_assoc] using hc43
      refine W.seq ?_
      refine W.region ?_
      refine RL.q (Yld.buildP lay71 .nil rfl) rfl ?_
      refine RL.e0 (Eff.storeS (c := 108) _ sz71 rfl rfl rfl rfl rfl rfl rfl (by (try simp only [putAt, List.take, List.drop, List.nil_append, List.cons_append, List.append_nil, List.length_cons, List.length_nil, Nat.add_zero, Nat.zero_add, Nat.reduceAdd]); rfl)) ?_
      rintro _ _ rfl
      refine RL.q (Yld.assign rfl) rfl ?_
      refine RL.nil ?_
      refine N.next ?_
      refine W.keep (.cons (k := 8) rfl (.cons (k := 9) rfl .nil)) (.cons (k := 0) rfl (.cons (k := 1) rfl (.cons (k := 104) rfl (.cons (k := 107) rfl (.cons (k := 108) rfl (.cons (k := 130) rfl .nil)))))) ?_
      refine W.ret ?_
      refine N.then_ret ?_
      exact N.retBy [1, 130] (.cons (by first | exact .cell (c := 108) rfl rfl (fun w hs => run_loadVarA Tryd.underlying71 rfl sz71 rfl (fun j u hj => by rw [Nat.zero_add, PH.sub.cell hs (by first | exact single_self _ _ | exact pset_self _ _ _ | assumption)]; exact hj))) (.cons (.tmp rfl) .nil)) rfl rfl rfl rfl ⟨⟨msgZ, none, 0, none, 0⟩, false, _, rfl, ⟨⟨rfl, rfl⟩, ⟨rfl, rfl⟩⟩, by unfold msgF; rw [if_neg hk0, if_pos hg], rfl⟩
    ·
      have hg : ¬ (a.k ≠ 1 ∨ leadsB a z = false ∨ 0 < z.n.length ∨ z.o.length = 0) := fun h => by
        rcases h with h | h | h | h
        all_goals simp_all
      refine W.skip ?_
      refine N.next ?_
      refine W.seq ?_
      refine W.region ?_
      refine RL.q (Yld.fieldAddr fo44_2 rfl) rfl ?_
      refine RL.q (Yld.load1 (c := 104) Tryd.underlying3 rfl rfl rfl (by first | exact single_self _ _ | exact pset_self _ _ _ | assumption) rfl) rfl ?_
      refine RL.q (Yld.move rfl) rfl ?_
      refine RL.q (Yld.move rfl) rfl ?_
      refine RL.q (Yld.fieldAddr fo44_3 rfl) rfl ?_
      refine RL.q (Yld.load1 (c := 104) Tryd.underlying3 rfl rfl rfl (by first | exact single_self _ _ | exact pset_self _ _ _ | assumption) rfl) rfl ?_
      refine RL.q (Yld.buildP lay66 (.cons rfl rfl .nil) rfl) rfl ?_
      refine RL.q (Yld.buildP lay71 (.cons rfl rfl (.cons rfl rfl (.cons rfl rfl (.cons rfl rfl (.cons rfl rfl .nil))))) rfl) rfl ?_
      refine RL.e (Eff.alloc 111 zc71) rfl ?_
      rintro _ _ ⟨b11, rfl, rfl⟩
      refine RL.e0 (Eff.storeS (c := 111) _ sz71 rfl rfl rfl rfl rfl rfl rfl (by (try simp only [putAt, List.take, List.drop, List.nil_append, List.cons_append, List.append_nil, List.length_cons, List.length_nil, Nat.add_zero, Nat.zero_add, Nat.reduceAdd]); rfl)) ?_
      rintro _ _ rfl
      refine RL.nil ?_
      refine N.next ?_
      refine W.keep (.cons (k := 4) rfl (.cons (k := 8) rfl (.cons (k := 10) rfl (.cons (k := 11) rfl .nil)))) (.cons (k := 0) rfl (.cons (k := 1) rfl (.cons (k := 104) rfl (.cons (k := 107) rfl (.cons (k := 108) rfl (.cons (k := 111) rfl (.cons (k := 130) rfl .nil))))))) ?_
      refine W.seq ?_
      refine W.seq ?_
      refine W.region ?_
      refine RL.q (Yld.fieldAddr fo44_3 rfl) rfl ?_
      refine RL.q (Yld.load1 (c := 104) Tryd.underlying3 rfl rfl rfl (by first | exact single_self _ _ | exact pset_self _ _ _ | assumption) rfl) rfl ?_
      refine RL.nil ?_
      refine N.next ?_
      refine W.block ?_
      refine W.seq ?_
      refine W.seq ?_
      refine W.region ?_
      refine RL.q (Yld.bin rfl rfl BinV.eql) rfl ?_
      refine RL.q (Yld.assign rfl) rfl ?_
      refine RL.nil ?_
      refine N.next ?_
      first | refine W.condD rfl (fun hc55 => ?_) (fun hc55 => ?_) | (refine W.cond rfl (fun hc55 => ?_) (fun hc55 => ?_) <;> try simp only [Bool.or_eq_true, Bool.and_eq_true, Bool.not_eq_true', Bool.not_eq_false', decide_eq_true_eq, Bool.or_eq_false_iff, Bool.and_eq_false_iff, decide_eq_false_iff_not, beq_iff_eq, beq_eq_false_iff_ne, ne_eq, Decidable.not_not] at hc55)
      ·
        refine W.skip ?_
        refine N.next ?_
        first | (refine W.as (t := 55) rfl (boolT (by first | assumption | omega | (simp; done))) ?_; refine W.condT rfl ?_) | refine W.condT rfl ?_
        refine W.seq ?_
        refine W.region ?_
        refine RL.q (Yld.fieldAddr fo44_4 rfl) rfl ?_
        refine RL.q (Yld.load1 (c := 104) Tryd.underlying3 rfl rfl rfl (by first | exact single_self _ _ | exact pset_self _ _ _ | assumption) rfl) rfl ?_
        refine RL.q (Yld.fieldAddr fo71_9 rfl) rfl ?_
        refine RL.q (Yld.fieldAddr fo66_1 rfl) rfl ?_
        refine RL.e0 (Eff.storeS (c := 111) _ sz3 rfl rfl rfl rfl rfl rfl rfl (by (try simp only [putAt, List.take, List.drop, List.nil_append, List.cons_append, List.append_nil, List.length_cons, List.length_nil, Nat.add_zero, Nat.zero_add, Nat.reduceAdd]); rfl)) ?_
        rintro _ _ rfl
        refine RL.nil ?_
        refine N.next ?_
        refine W.keep (.cons (k := 8) rfl (.cons (k := 11) rfl .nil)) (.cons (k := 0) rfl (.cons (k := 1) rfl (.cons (k := 104) rfl (.cons (k := 107) rfl (.cons (k := 108) rfl (.cons (k := 111) rfl (.cons (k := 130) rfl .nil))))))) ?_
        refine W.seq ?_
        refine W.region ?_
        refine RL.q (Yld.loadW (c := 111) Tryd.underlying71 rfl sz71 rfl rfl (by first | exact single_self _ _ | exact pset_self _ _ _ | assumption) rfl) rfl ?_
        refine RL.e0 (Eff.storeS (c := 108) _ sz71 rfl rfl rfl rfl rfl rfl rfl (by (try simp only [putAt, List.take, List.drop, List.nil_append, List.cons_append, List.append_nil, List.length_cons, List.length_nil, Nat.add_zero, Nat.zero_add, Nat.reduceAdd]); rfl)) ?_
        rintro _ _ rfl
        refine RL.q (Yld.assign rfl) rfl ?_
        refine RL.nil ?_
        refine N.next ?_
        refine W.ret ?_
        refine N.block_ret ?_
        refine N.then_ret ?_
        exact N.retBy [1, 130] (.cons (by first | exact .cell (c := 108) rfl rfl (fun w hs => run_loadVarA Tryd.underlying71 rfl sz71 rfl (fun j u hj => by rw [Nat.zero_add, PH.sub.cell hs (by first | exact single_self _ _ | exact pset_self _ _ _ | assumption)]; exact hj))) (.cons (.tmp rfl) .nil)) rfl rfl rfl rfl ⟨⟨msgA a gn nu a.r [] [], none, 0, none, 0⟩, true, _, rfl, ⟨⟨rfl, rfl⟩, ⟨rfl, rfl⟩⟩, by unfold msgF; rw [if_neg hk0, if_neg hg, if_pos (by omega)], rfl⟩
      ·
        refine W.region ?_
        refine RL.q (Yld.bin rfl rfl BinV.eql) rfl ?_
        refine RL.q (Yld.assign rfl) rfl ?_
        refine RL.nil ?_
        refine N.next ?_
        first | refine W.condD rfl (fun hc55 => ?_) (fun hc55 => ?_) | (refine W.cond rfl (fun hc55 => ?_) (fun hc55 => ?_) <;> try simp only [Bool.or_eq_true, Bool.and_eq_true, Bool.not_eq_true', Bool.not_eq_false', decide_eq_true_eq, Bool.or_eq_false_iff, Bool.and_eq_false_iff, decide_eq_false_iff_not, beq_iff_eq, beq_eq_false_iff_ne, ne_eq, Decidable.not_not] at hc55)
        ·
          refine W.seq ?_
          refine W.region ?_
          refine RL.q (Yld.fieldAddr fo44_4 rfl) rfl ?_
          refine RL.q (Yld.load1 (c := 104) Tryd.underlying3 rfl rfl rfl (by first | exact single_self _ _ | exact pset_self _ _ _ | assumption) rfl) rfl ?_
          refine RL.q (Yld.fieldAddr fo71_9 rfl) rfl ?_
          refine RL.q (Yld.fieldAddr fo66_1 rfl) rfl ?_
          refine RL.e0 (Eff.storeS (c := 111) _ sz3 rfl rfl rfl rfl rfl rfl rfl (by (try simp only [putAt, List.take, List.drop, List.nil_append, List.cons_append, List.append_nil, List.length_cons, List.length_nil, Nat.add_zero, Nat.zero_add, Nat.reduceAdd]); rfl)) ?_
          rintro _ _ rfl
          refine RL.nil ?_
          refine N.next ?_
          refine W.keep (.cons (k := 8) rfl (.cons (k := 11) rfl .nil)) (.cons (k := 0) rfl (.cons (k := 1) rfl (.cons (k := 104) rfl (.cons (k := 107) rfl (.cons (k := 108) rfl (.cons (k := 111) rfl (.cons (k := 130) rfl .nil))))))) ?_
          refine W.seq ?_
          refine W.region ?_
          refine RL.q (Yld.loadW (c := 111) Tryd.underlying71 rfl sz71 rfl rfl (by first | exact single_self _ _ | exact pset_self _ _ _ | assumption) rfl) rfl ?_
          refine RL.e0 (Eff.storeS (c := 108) _ sz71 rfl rfl rfl rfl rfl rfl rfl (by (try simp only [putAt, List.take, List.drop, List.nil_append, List.cons_append, List.append_nil, List.length_cons, List.length_nil, Nat.add_zero, Nat.zero_add, Nat.reduceAdd]); rfl)) ?_
          rintro _ _ rfl
          refine RL.q (Yld.assign rfl) rfl ?_
          refine RL.nil ?_
          refine N.next ?_
          refine W.ret ?_
          refine N.block_ret ?_
          refine N.then_ret ?_
          exact N.retBy [1, 130] (.cons (by first | exact .cell (c := 108) rfl rfl (fun w hs => run_loadVarA Tryd.underlying71 rfl sz71 rfl (fun j u hj => by rw [Nat.zero_add, PH.sub.cell hs (by first | exact single_self _ _ | exact pset_self _ _ _ | assumption)]; exact hj))) (.cons (.tmp rfl) .nil)) rfl rfl rfl rfl ⟨⟨msgA a gn nu a.r [] [], none, 0, none, 0⟩, true, _, rfl, ⟨⟨rfl, rfl⟩, ⟨rfl, rfl⟩⟩, by unfold msgF; rw [if_neg hk0, if_neg hg, if_pos (by omega)], rfl⟩
        ·
          refine W.seq ?_
          refine W.region ?_
          refine RL.q (Yld.bin rfl rfl BinV.eql) rfl ?_
          refine RL.q (Yld.assign rfl) rfl ?_
          refine RL.nil ?_
          refine N.next ?_
          refine W.keep (.cons (k := 4) rfl (.cons (k := 8) rfl (.cons (k := 10) rfl (.cons (k := 11) rfl (.cons (k := 63) rfl .nil))))) (.cons (k := 0) rfl (.cons (k := 1) rfl (.cons (k := 104) rfl (.cons (k := 107) rfl (.cons (k := 108) rfl (.cons (k := 111) rfl (.cons (k := 130) rfl .nil))))))) ?_
          first | refine W.condD rfl (fun hc63 => ?_) (fun hc63 => ?_) | (refine W.cond rfl (fun hc63 => ?_) (fun hc63 => ?_) <;> try simp only [Bool.or_eq_true, Bool.and_eq_true, Bool.not_eq_true', Bool.not_eq_false', decide_eq_true_eq, Bool.or_eq_false_iff, Bool.and_eq_false_iff, decide_eq_false_iff_not, beq_iff_eq, beq_eq_false_iff_ne, ne_eq, Decidable.not_not] at hc63)
          ·
            refine W.seq ?_
            refine W.region ?_
            refine RL.q (Yld.move rfl) rfl ?_
            refine RL.q (Yld.fieldAddr fo44_1 rfl) rfl ?_
            refine RL.q (Yld.load1 (c := 104) Tryd.underlying3 rfl rfl rfl (by first | exact single_self _ _ | exact pset_self _ _ _ | assumption) rfl) rfl ?_
            refine RL.e (Eff.call ent56 [1] [1] (.cons rfl (.cons rfl .nil)) (ron_ct z.o H1 _ _ ho a.m) rfl rfl rfl rfl (by rintro _ _ ⟨_, rfl⟩; rfl)) rfl ?_
            rintro _ _ ⟨_, ⟨rfl, rfl⟩, rfl⟩
            refine RL.q (Yld.move rfl) rfl ?_
            refine' RL.and (t := 69) (d := 75) 6 rfl (.cons (k := 4) rfl (.cons (k := 8) rfl (.cons (k := 10) rfl (.cons (k := 11) rfl (.cons (k := 63) rfl (.cons (k := 65) rfl (.cons (k := 66) rfl (.cons (k := 67) rfl (.cons (k := 68) rfl .nil))))))))) (.cons (k := 0) rfl (.cons (k := 1) rfl (.cons (k := 104) rfl (.cons (k := 107) rfl (.cons (k := 108) rfl (.cons (k := 111) rfl (.cons (k := 130) rfl .nil))))))) ?_ ?_ ?_
            rotate_left 1
            ·
              intro hg69
              refine RL.gq rfl rfl (Yld.move rfl) rfl ?_
              refine RL.gq rfl rfl (Yld.fieldAddr fo44_4 rfl) rfl ?_
              refine RL.gq rfl rfl (Yld.load1 (c := 104) Tryd.underlying3 rfl rfl rfl (by first | exact single_self _ _ | exact pset_self _ _ _ | assumption) rfl) rfl ?_
              refine RL.ge rfl rfl (Eff.call ent48 [1] [1] (.cons rfl (.cons rfl .nil)) (rhas_ct z.o _ _ _ ho a.r) rfl rfl rfl rfl (by rintro _ _ ⟨_, rfl⟩; rfl)) rfl ?_
              rintro _ _ ⟨_, ⟨rfl, rfl⟩, rfl⟩
              refine RL.gq rfl rfl (by first | exact Yld.notD rfl | exact Yld.not rfl) rfl ?_
              refine RL.q (by first | exact Yld.pickT rfl rfl | exact Yld.pickF rfl rfl) rfl ?_
              exact RL.nil (N.meet (.cons rfl (.cons rfl (.cons rfl (.cons rfl (.cons rfl (.cons rfl (.cons rfl (.cons rfl (.cons rfl (.cons rfl .nil)))))))))) (.cons rfl (.cons rfl (.cons rfl (.cons rfl (.cons rfl (.cons rfl (.cons rfl .nil))))))))
            ·
              intro hg69
              refine RL.gskip rfl rfl rfl rfl ?_
              refine RL.gskip rfl rfl rfl rfl ?_
              refine RL.gskip rfl rfl rfl rfl ?_
              refine RL.gskip rfl rfl rfl rfl ?_
              refine RL.gskip rfl rfl rfl rfl ?_
              refine RL.q (by first | exact Yld.pickT rfl rfl | exact Yld.pickF rfl rfl) rfl ?_
              exact RL.nil (N.meet (.cons rfl (.cons rfl (.cons rfl (.cons rfl (.cons rfl (.cons rfl (.cons rfl (.cons rfl (.cons rfl (.cons rfl .nil)))))))))) (.cons rfl (.cons rfl (.cons rfl (.cons rfl (.cons rfl (.cons rfl (.cons rfl .nil))))))))
            refine RL.nil ?_
            refine N.next ?_
            refine W.keep (.cons (k := 4) rfl (.cons (k := 8) rfl (.cons (k := 10) rfl (.cons (k := 11) rfl (.cons (k := 75) rfl .nil))))) (.cons (k := 0) rfl (.cons (k := 1) rfl (.cons (k := 104) rfl (.cons (k := 107) rfl (.cons (k := 108) rfl (.cons (k := 111) rfl (.cons (k := 130) rfl .nil))))))) ?_
            refine W.cond rfl (fun hc75 => ?_) (fun hc75 => ?_)
            ·
              have ho2 : ¬ (onB z.o a.m = false ∨ a.r ∈ z.o) := fun h => by rcases h with h | h <;> simp [h] at hc75
              refine W.seq ?_
              refine W.draw (.q 1 (.q 3 (.q 4 (.q 5 (.q 6 (.q 7 (.one 0 (.one 2 (.q 9 (.q 10 (.one 8 (.one 11 (.q 12 (.q 13 (.one 14 .done))))))))))))))) (.cons (k := 0) rfl (.cons (k := 1) rfl (.cons (k := 104) rfl (.cons (k := 107) rfl (.cons (k := 108) rfl (.cons (k := 130) rfl .nil)))))) mix (by kernel_rfl) (by kernel_rfl) ?_
              refine DL.q rfl (Yld.move rfl) rfl ?_
              refine DL.q rfl (Yld.move rfl) rfl ?_
              refine DL.q rfl (Yld.fieldAddr fo44_1 rfl) rfl ?_
              refine DL.q rfl (Yld.load1 (c := 104) Tryd.underlying3 rfl rfl rfl (by first | exact single_self _ _ | exact pset_self _ _ _ | assumption) rfl) rfl ?_
              refine DL.q rfl (Yld.fieldAddr fo44_4 rfl) rfl ?_
              refine DL.q rfl (Yld.load1 (c := 104) Tryd.underlying3 rfl rfl rfl (by first | exact single_self _ _ | exact pset_self _ _ _ | assumption) rfl) rfl ?_
              refine DL.one rfl (Eff.buildSlice 176 Tryd.underlying54 sz3 zc3 rfl rfl .nil rfl) rfl (by rintro _ _ ⟨b76, rfl, rfl⟩; repeat (first | exact .nil | refine .cons rfl ?_)) ?_
              rintro _ _ ⟨b76, rfl, rfl⟩
              refine DL.one rfl (Eff.appendE (tc := 176) (sc := 1) (fun z : Int => [Value.int .i64 z]) Tryd.underlying54 el3 rfl rfl rfl rfl (iz_none rfl) rfl ho rfl (iz_one1 _) (by decide) (by first | (simp; done) | (simp; omega)) (by first | (simp [maxLen]; done) | (simp [maxLen]; omega))) rfl (by rintro _ _ ⟨Ha, pa, ca, rfl, hOa, rfl⟩; repeat (first | exact .nil | refine .cons rfl ?_)) ?_
              rintro _ _ ⟨Ha, pa, ca, rfl, hOa, rfl⟩
              refine DL.q rfl (Yld.fieldAddr fo71_9 rfl) rfl ?_
              refine DL.q rfl (Yld.fieldAddr fo66_2 rfl) rfl ?_
              refine DL.one rfl (Eff.call ent21 [1] [1, 131] (.cons rfl (.cons rfl (.cons rfl .nil))) (rtarget_ct z.o _ _ _ ho (by omega) a.m a.r) rfl rfl rfl rfl (by rintro _ _ ⟨_, _, _, _, _, rfl⟩; rfl)) rfl (by rintro _ _ ⟨_, ⟨Ht, pt, ct, rfl, hOt, rfl⟩, rfl⟩; repeat (first | exact .nil | refine .cons rfl ?_)) ?_
              rintro _ _ ⟨_, ⟨Ht, pt, ct, rfl, hOt, rfl⟩, rfl⟩
              refine DL.one0 rfl (Eff.storeS (c := 111) _ sz54 rfl rfl rfl rfl rfl rfl rfl (by (try simp only [putAt, List.take, List.drop, List.nil_append, List.cons_append, List.append_nil, List.length_cons, List.length_nil, Nat.add_zero, Nat.zero_add, Nat.reduceAdd]); rfl)) (by rintro _ _ rfl; repeat (first | exact .nil | refine .cons rfl ?_)) ?_
              rintro _ _ rfl
              refine DL.q rfl (Yld.fieldAddr fo71_9 rfl) rfl ?_
              refine DL.q rfl (Yld.fieldAddr fo66_3 rfl) rfl ?_
              refine DL.one0 rfl (Eff.storeS (c := 111) _ sz54 rfl rfl rfl rfl rfl rfl rfl (by (try simp only [putAt, List.take, List.drop, List.nil_append, List.cons_append, List.append_nil, List.length_cons, List.length_nil, Nat.add_zero, Nat.zero_add, Nat.reduceAdd]); rfl)) (by rintro _ _ rfl; repeat (first | exact .nil | refine .cons rfl ?_)) ?_
              rintro _ _ rfl
              refine DL.done ?_
              refine N.next ?_
              refine W.keep (.cons (k := 8) rfl (.cons (k := 11) rfl .nil)) (.cons (k := 0) rfl (.cons (k := 1) rfl (.cons (k := 104) rfl (.cons (k := 107) rfl (.cons (k := 108) rfl (.cons (k := 111) rfl (.cons (k := 130) rfl (.cons (k := 131) rfl (.cons (k := 176) rfl .nil))))))))) ?_
              refine W.seq ?_
              refine W.region ?_
              refine RL.q (Yld.loadW (c := 111) Tryd.underlying71 rfl sz71 rfl rfl (by first | exact single_self _ _ | exact pset_self _ _ _ | assumption) rfl) rfl ?_
              refine RL.e0 (Eff.storeS (c := 108) _ sz71 rfl rfl rfl rfl rfl rfl rfl (by (try simp only [putAt, List.take, List.drop, List.nil_append, List.cons_append, List.append_nil, List.length_cons, List.length_nil, Nat.add_zero, Nat.zero_add, Nat.reduceAdd]); rfl)) ?_
              rintro _ _ rfl
              refine RL.q (Yld.assign rfl) rfl ?_
              refine RL.nil ?_
              refine N.next ?_
              refine W.ret ?_
              refine N.block_ret ?_
              refine N.then_ret ?_
              refine N.merge 176 131 rfl rfl rfl fun ha1 => ?_
              exact N.retBy [1, 176] (.cons (by first | exact .cell (c := 108) rfl rfl (fun w hs => run_loadVarA Tryd.underlying71 rfl sz71 rfl (fun j u hj => by rw [Nat.zero_add, PH.sub.cell hs (by first | exact single_self _ _ | exact pset_self _ _ _ | assumption)]; exact hj))) (.cons (.tmp rfl) .nil)) rfl rfl rfl rfl ⟨⟨msgA a gn nu 0 z.o (tgL z.o a.m a.r), pa, ca, pt, ct⟩, true, _, by unfold Msg.val; simp; rfl, ⟨hOa.sl.mono hjoin_l, hOt.sl.mono ha1⟩, by unfold msgF; rw [if_neg hk0, if_neg hg, if_neg (by omega), if_pos (by omega), if_neg ho2], rfl⟩
            ·
              have ho2 : onB z.o a.m = false ∨ a.r ∈ z.o := by simp at hc75; by_cases h : onB z.o a.m = true; exact .inr (hc75 h); exact .inl (by simpa using h)
              refine W.skip ?_
              refine N.block_normal ?_
              refine N.next ?_
              refine W.keep (.cons (k := 8) rfl .nil) (.cons (k := 0) rfl (.cons (k := 1) rfl (.cons (k := 104) rfl (.cons (k := 107) rfl (.cons (k := 108) rfl (.cons (k := 111) rfl (.cons (k := 130) rfl .nil))))))) ?_
              refine W.seq ?_
              refine W.region ?_
              refine RL.q (Yld.buildP lay71 .nil rfl) rfl ?_
              refine RL.e0 (Eff.storeS (c := 108) _ sz71 rfl rfl rfl rfl rfl rfl rfl (by (try simp only [putAt, List.take, List.drop, List.nil_append, List.cons_append, List.append_nil, List.length_cons, List.length_nil, Nat.add_zero, Nat.zero_add, Nat.reduceAdd]); rfl)) ?_
              rintro _ _ rfl
              refine RL.q (Yld.assign rfl) rfl ?_
              refine RL.nil ?_
              refine N.next ?_
              refine W.ret ?_
              exact N.retBy [1, 130] (.cons (by first | exact .cell (c := 108) rfl rfl (fun w hs => run_loadVarA Tryd.underlying71 rfl sz71 rfl (fun j u hj => by rw [Nat.zero_add, PH.sub.cell hs (by first | exact single_self _ _ | exact pset_self _ _ _ | assumption)]; exact hj))) (.cons (.tmp rfl) .nil)) rfl rfl rfl rfl ⟨⟨msgZ, none, 0, none, 0⟩, false, _, rfl, ⟨⟨rfl, rfl⟩, ⟨rfl, rfl⟩⟩, by unfold msgF; rw [if_neg hk0, if_neg hg, if_neg (by omega), if_pos (by omega), if_pos ho2], rfl⟩
          ·
            refine W.skip ?_
            refine N.block_normal ?_
            refine N.next ?_
            refine W.keep (.cons (k := 8) rfl .nil) (.cons (k := 0) rfl (.cons (k := 1) rfl (.cons (k := 104) rfl (.cons (k := 107) rfl (.cons (k := 108) rfl (.cons (k := 111) rfl (.cons (k := 130) rfl .nil))))))) ?_
            refine W.seq ?_
            refine W.region ?_
            refine RL.q (Yld.buildP lay71 .nil rfl) rfl ?_
            refine RL.e0 (Eff.storeS (c := 108) _ sz71 rfl rfl rfl rfl rfl rfl rfl (by (try simp only [putAt, List.take, List.drop, List.nil_append, List.cons_append, List.append_nil, List.length_cons, List.length_nil, Nat.add_zero, Nat.zero_add, Nat.reduceAdd]); rfl)) ?_
            rintro _ _ rfl
            refine RL.q (Yld.assign rfl) rfl ?_
            refine RL.nil ?_
            refine N.next ?_
            refine W.ret ?_
            exact N.retBy [1, 130] (.cons (by first | exact .cell (c := 108) rfl rfl (fun w hs => run_loadVarA Tryd.underlying71 rfl sz71 rfl (fun j u hj => by rw [Nat.zero_add, PH.sub.cell hs (by first | exact single_self _ _ | exact pset_self _ _ _ | assumption)]; exact hj))) (.cons (.tmp rfl) .nil)) rfl rfl rfl rfl ⟨⟨msgZ, none, 0, none, 0⟩, false, _, rfl, ⟨⟨rfl, rfl⟩, ⟨rfl, rfl⟩⟩, by unfold msgF; rw [if_neg hk0, if_neg hg, if_neg (by omega), if_neg (by omega)], rfl⟩

end Go.Proofs.YtdblglgnhjankaaDoor
