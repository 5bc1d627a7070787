/- The laws are awake. Written by program (walk2.py). -/
import Derived.Test.YtdblglgnhjankaaDoorA9
import Derived.Test.YtdblglgnhjankaaDoorSlMrg
namespace Go.Proofs.YtdblglgnhjankaaDoor
open SL Cfg
set_option linter.unusedVariables false
set_option linter.unusedSimpArgs false
theorem zc29 : zc Tryd.prog 29 [.slice none 0 0, .slice none 0 0, .slice none 0 0, .slice none 0 0, .slice none 0 0, .slice none 0 0, .int .i64 0, .int .i64 0, .int .i64 0, .int .i64 0, .slice none 0 0] := (by kernel_rfl : ((Tryd.prog.info? 29).bind (·.zero)).map (fun v => v.cells.toList) = some [.slice none 0 0, .slice none 0 0, .slice none 0 0, .slice none 0 0, .slice none 0 0, .slice none 0 0, .int .i64 0, .int .i64 0, .int .i64 0, .int .i64 0, .slice none 0 0])
theorem zc38 : zc Tryd.prog 38 [.int .i64 0, .int .i64 0, .int .i64 0, .slice none 0 0, .slice none 0 0, .slice none 0 0, .bool false, .int .i64 0, .int .i64 0] := (by kernel_rfl : ((Tryd.prog.info? 38).bind (·.zero)).map (fun v => v.cells.toList) = some [.int .i64 0, .int .i64 0, .int .i64 0, .slice none 0 0, .slice none 0 0, .slice none 0 0, .bool false, .int .i64 0, .int .i64 0])
theorem lay99 : layS Tryd.prog 99 = some ([.string .empty, .int .i64 0, .int .i64 0], [(0, 1), (1, 1), (2, 1)]) := by kernel_rfl
theorem zc99 : zc Tryd.prog 99 [.string .empty, .int .i64 0, .int .i64 0] := (by kernel_rfl : ((Tryd.prog.info? 99).bind (·.zero)).map (fun v => v.cells.toList) = some [.string .empty, .int .i64 0, .int .i64 0])
theorem lay90 : layS Tryd.prog 90 = some ([.string .empty, .int .i64 0, .int .i64 0, .int .i64 0, .int .i64 0, .int .i64 0, .slice none 0 0], [(0, 1), (1, 1), (2, 1), (3, 1), (4, 1), (5, 1), (6, 1)]) := by kernel_rfl
theorem zc90 : zc Tryd.prog 90 [.string .empty, .int .i64 0, .int .i64 0, .int .i64 0, .int .i64 0, .int .i64 0, .slice none 0 0] := (by kernel_rfl : ((Tryd.prog.info? 90).bind (·.zero)).map (fun v => v.cells.toList) = some [.string .empty, .int .i64 0, .int .i64 0, .int .i64 0, .int .i64 0, .int .i64 0, .slice none 0 0])
theorem lay29 : layS Tryd.prog 29 = some ([.slice none 0 0, .slice none 0 0, .slice none 0 0, .slice none 0 0, .slice none 0 0, .slice none 0 0, .int .i64 0, .int .i64 0, .int .i64 0, .int .i64 0, .slice none 0 0], [(0, 1), (1, 1), (2, 1), (3, 1), (4, 1), (5, 1), (6, 1), (7, 1), (8, 1), (9, 1), (10, 1)]) := by kernel_rfl
theorem lay84 : layS Tryd.prog 84 = some ([.int .i64 0, .int .i64 0, .int .i64 0], [(0, 1), (1, 1), (2, 1)]) := by kernel_rfl
theorem lay86 : layS Tryd.prog 86 = some ([.int .i64 0, .int .i64 0, .int .i64 0, .int .i64 0], [(0, 1), (1, 3)]) := by kernel_rfl
theorem zc86 : zc Tryd.prog 86 [.int .i64 0, .int .i64 0, .int .i64 0, .int .i64 0] := (by kernel_rfl : ((Tryd.prog.info? 86).bind (·.zero)).map (fun v => v.cells.toList) = some [.int .i64 0, .int .i64 0, .int .i64 0, .int .i64 0])
theorem lay49 : layS Tryd.prog 49 = some ([.int .i64 0, .int .i64 0, .int .i64 0, .int .i64 0], [(0, 1), (1, 1), (2, 1), (3, 1)]) := by kernel_rfl
theorem lay35 : layS Tryd.prog 35 = some ([.slice none 0 0], [(0, 1)]) := by kernel_rfl
theorem zc49 : zc Tryd.prog 49 [.int .i64 0, .int .i64 0, .int .i64 0, .int .i64 0] := (by kernel_rfl : ((Tryd.prog.info? 49).bind (·.zero)).map (fun v => v.cells.toList) = some [.int .i64 0, .int .i64 0, .int .i64 0, .int .i64 0])
theorem lay38 : layS Tryd.prog 38 = some ([.int .i64 0, .int .i64 0, .int .i64 0, .slice none 0 0, .slice none 0 0, .slice none 0 0, .bool false, .int .i64 0, .int .i64 0], [(0, 1), (1, 1), (2, 1), (3, 1), (4, 1), (5, 1), (6, 1), (7, 1), (8, 1)]) := by kernel_rfl
theorem Cfg.lit_sl {b e m : Nat} {ls : List (List Value)} {cs : List Value} (h1 : ∀ r ∈ ls, r.length = m ∧ ∀ v ∈ r, v.oneCell' = true) (hcs : cs = ls.flatten) (hm : ls.length ≤ maxLen) : Sl (single b (.cells cs.toArray e (0, 0))) (some ⟨b, 0, none⟩) ls.length m ls :=
  (Own.mk [] h1 (Nat.le_refl _) hm (by rw [List.append_nil]; exact flatten_length fun l hl => (h1 l hl).1) (by rw [List.append_nil]; exact hcs)).sl
def Cfg.exMs : List Mc := [⟨⟨#[97]⟩, 0, 0⟩, ⟨⟨#[98]⟩, 0, 0⟩, ⟨⟨#[99]⟩, 0, 0⟩, ⟨⟨#[100]⟩, 0, 0⟩]
def Cfg.exIs : List It := [⟨⟨#[103]⟩, 0, 0, 0, 0, 0, none, 0, 0⟩]
def Cfg.exXs : List (Int × Mv) := [(0, ⟨1, 1, 4⟩), (0, ⟨1, 1, 4⟩), (0, ⟨1, 1, 4⟩)]
def Cfg.exYs : List St := [⟨0, 0, 0, 0⟩, ⟨0, 0, 0, 0⟩, ⟨0, 0, 504, 0⟩]
def Cfg.exM (p q : Option Addr) : Md := ⟨none, 0, 0, none, 0, 0, none, 0, 0, p, exMs, 4, none, 0, 0, q, exIs, 1, 0, 0, 0, 0, none, 0, 0⟩
def Cfg.exS (p q : Option Addr) : Ins := ⟨0, 2, 0, none, 0, 0, p, exXs, 3, q, exYs, 3, false, 0, 0⟩
theorem Cfg.exOne {ls : List (List Value)} {m : Nat} (h : (ls.all fun r => r.length == m && r.all (·.oneCell')) = true) : ∀ r ∈ ls, r.length = m ∧ ∀ v ∈ r, v.oneCell' = true := fun r hr => by
  have := List.all_eq_true.1 h r hr
  simp only [Bool.and_eq_true, beq_iff_eq, List.all_eq_true] at this
  exact this

set_option maxRecDepth 100000 in
set_option maxHeartbeats 3200000 in
theorem example_ct  : Ct Tryd.prog 31 [] [] (fun v Hs => ∃ p q r t H, v = .tuple #[.agg [.slice (exM p q).a0 (exM p q).n0 (exM p q).c0, .slice (exM p q).a1 (exM p q).n1 (exM p q).c1, .slice (exM p q).a2 (exM p q).n2 (exM p q).c2, .slice (exM p q).pm (exM p q).ms.length (exM p q).cm, .slice (exM p q).a4 (exM p q).n4 (exM p q).c4, .slice (exM p q).pi (exM p q).is.length (exM p q).ci, .int .i64 (exM p q).d0, .int .i64 (exM p q).d1, .int .i64 (exM p q).d2, .int .i64 (exM p q).d3, .slice (exM p q).a5 (exM p q).n5 (exM p q).c5].toArray, .agg [.int .i64 (exS r t).g, .int .i64 (exS r t).v, .int .i64 (exS r t).sl, .slice (exS r t).pb (exS r t).nb (exS r t).cb, .slice (exS r t).pp (exS r t).xs.length (exS r t).cp, .slice (exS r t).ps (exS r t).ys.length (exS r t).cs, .bool (exS r t).ca, .int .i64 (exS r t).se, .int .i64 (exS r t).ou].toArray] ∧ (exM p q).In H ∧ (exS r t).In H ∧ Hs = [H]) := by
  refine Ct.body Tryd.func31 rfl Tryd.ntmps31 rfl ?_
  intro E F
  refine W.seq ?_
  refine W.region ?_
  refine RL.e (Eff.alloc 100 zc29) rfl ?_
  rintro _ _ ⟨b0, rfl, rfl⟩
  refine RL.e (Eff.alloc 101 zc38) rfl ?_
  rintro _ _ ⟨b1, rfl, rfl⟩
  refine RL.nil ?_
  refine N.next ?_
  refine W.seq ?_
  refine W.region ?_
  refine RL.q (Yld.buildP lay99 (.cons rfl rfl .nil) rfl) rfl ?_
  refine RL.q (Yld.buildP lay99 (.cons rfl rfl .nil) rfl) rfl ?_
  refine RL.q (Yld.buildP lay99 (.cons rfl rfl .nil) rfl) rfl ?_
  refine RL.q (Yld.buildP lay99 (.cons rfl rfl .nil) rfl) rfl ?_
  refine RL.e (Eff.buildSlice 108 Tryd.underlying24 sz99 zc99 rfl rfl (.cons rfl rfl (.cons rfl rfl (.cons rfl rfl (.cons rfl rfl .nil)))) rfl) rfl ?_
  rintro _ _ ⟨b8, rfl, rfl⟩
  refine RL.q (Yld.buildP lay90 (.cons rfl rfl (.cons rfl rfl .nil)) rfl) rfl ?_
  refine RL.e (Eff.buildSlice 110 Tryd.underlying26 sz90 zc90 rfl rfl (.cons rfl rfl .nil) rfl) rfl ?_
  rintro _ _ ⟨b10, rfl, rfl⟩
  refine RL.q (Yld.buildP lay29 (.cons rfl rfl (.cons rfl rfl .nil)) rfl) rfl ?_
  refine RL.e (Eff.alloc 102 zc29) rfl ?_
  rintro _ _ ⟨b2, rfl, rfl⟩
  refine RL.e0 (Eff.storeS (c := 102) _ sz29 rfl rfl rfl rfl rfl rfl rfl (by (try simp only [putAt, List.take, List.drop, List.nil_append, List.cons_append, List.append_nil, List.length_cons, List.length_nil, Nat.add_zero, Nat.zero_add, Nat.reduceAdd]); rfl)) ?_
  rintro _ _ rfl
  refine RL.nil ?_
  refine N.next ?_
  refine W.keep (.cons (k := 0) rfl (.cons (k := 1) rfl (.cons (k := 2) rfl .nil))) (.cons (k := 0) rfl (.cons (k := 100) rfl (.cons (k := 101) rfl (.cons (k := 102) rfl (.cons (k := 108) rfl (.cons (k := 110) rfl .nil)))))) ?_
  refine W.seq ?_
  refine W.region ?_
  refine RL.q (Yld.buildP lay84 (.cons rfl rfl (.cons rfl rfl (.cons rfl rfl .nil))) rfl) rfl ?_
  refine RL.q (Yld.buildP lay86 (.cons rfl rfl .nil) rfl) rfl ?_
  refine RL.e (Eff.alloc 103 zc86) rfl ?_
  rintro _ _ ⟨b3, rfl, rfl⟩
  refine RL.e0 (Eff.storeS (c := 103) _ sz86 rfl rfl rfl rfl rfl rfl rfl (by (try simp only [putAt, List.take, List.drop, List.nil_append, List.cons_append, List.append_nil, List.length_cons, List.length_nil, Nat.add_zero, Nat.zero_add, Nat.reduceAdd]); rfl)) ?_
  rintro _ _ rfl
  refine RL.nil ?_
  refine N.next ?_
  refine W.seq ?_
  refine W.draw (.q 0 (.q 1 (.q 2 (.q 3 (.q 6 (.q 7 (.q 8 (.three 4 (.q 5 (.two 9 (.q 10 (.one 11 (.one 12 .done))) 11 (.one 9 (.q 10 (.one 12 .done))))) 9 (.two 4 (.q 5 (.q 10 (.one 11 (.one 12 .done)))) 11 (.one 4 (.q 5 (.q 10 (.one 12 .done))))) 11 (.two 4 (.q 5 (.one 9 (.q 10 (.one 12 .done)))) 9 (.one 4 (.q 5 (.q 10 (.one 12 .done))))))))))))) (.cons (k := 0) rfl (.cons (k := 102) rfl (.cons (k := 103) rfl (.cons (k := 108) rfl (.cons (k := 110) rfl .nil))))) mix (by kernel_rfl) (by kernel_rfl) ?_
  refine DL.q rfl (Yld.loadW (c := 102) Tryd.underlying29 rfl sz29 rfl rfl (by first | exact single_self _ _ | exact pset_self _ _ _ | assumption) rfl) rfl ?_
  refine DL.q rfl (Yld.loadW (c := 103) Tryd.underlying86 rfl sz86 rfl rfl (by first | exact single_self _ _ | exact pset_self _ _ _ | assumption) rfl) rfl ?_
  refine DL.q rfl (Yld.loadW (c := 103) Tryd.underlying86 rfl sz86 rfl rfl (by first | exact single_self _ _ | exact pset_self _ _ _ | assumption) rfl) rfl ?_
  refine DL.q rfl (Yld.loadW (c := 103) Tryd.underlying86 rfl sz86 rfl rfl (by first | exact single_self _ _ | exact pset_self _ _ _ | assumption) rfl) rfl ?_
  refine DL.q rfl (Yld.buildP lay49 .nil rfl) rfl ?_
  refine DL.q rfl (Yld.buildP lay49 .nil rfl) rfl ?_
  refine DL.q rfl (Yld.buildP lay49 (.cons rfl rfl .nil) rfl) rfl ?_
  refine DL.three ?_ ?_ ?_
  ·
    refine DL.one rfl (Eff.buildSlice 118 Tryd.underlying33 sz86 zc86 rfl rfl (.cons rfl rfl (.cons rfl rfl (.cons rfl rfl .nil))) rfl) rfl (by rintro _ _ ⟨b18, rfl, rfl⟩; repeat (first | exact .nil | refine .cons rfl ?_)) ?_
    rintro _ _ ⟨b18, rfl, rfl⟩
    refine DL.q rfl (Yld.buildP lay35 (.cons rfl rfl .nil) rfl) rfl ?_
    refine DL.two ?_ ?_
    ·
      refine DL.one rfl (Eff.buildSlice 123 Tryd.underlying36 sz49 zc49 rfl rfl (.cons rfl rfl (.cons rfl rfl (.cons rfl rfl .nil))) rfl) rfl (by rintro _ _ ⟨b23, rfl, rfl⟩; repeat (first | exact .nil | refine .cons rfl ?_)) ?_
      rintro _ _ ⟨b23, rfl, rfl⟩
      refine DL.q rfl (Yld.buildP lay38 (.cons rfl rfl (.cons rfl rfl (.cons rfl rfl .nil))) rfl) rfl ?_
      refine DL.one0 rfl (Eff.storeS (c := 100) _ sz29 rfl rfl rfl rfl rfl rfl rfl (by (try simp only [putAt, List.take, List.drop, List.nil_append, List.cons_append, List.append_nil, List.length_cons, List.length_nil, Nat.add_zero, Nat.zero_add, Nat.reduceAdd]); rfl)) (by rintro _ _ rfl; repeat (first | exact .nil | refine .cons rfl ?_)) ?_
      rintro _ _ rfl
      refine DL.one0 rfl (Eff.storeS (c := 101) _ sz38 rfl rfl rfl rfl rfl rfl rfl (by (try simp only [putAt, List.take, List.drop, List.nil_append, List.cons_append, List.append_nil, List.length_cons, List.length_nil, Nat.add_zero, Nat.zero_add, Nat.reduceAdd]); rfl)) (by rintro _ _ rfl; repeat (first | exact .nil | refine .cons rfl ?_)) ?_
      rintro _ _ rfl
      refine DL.done ?_
      refine N.next ?_
      refine W.keep (.cons (k := 0) rfl (.cons (k := 1) rfl .nil)) (.cons (k := 0) rfl (.cons (k := 100) rfl (.cons (k := 101) rfl (.cons (k := 102) rfl (.cons (k := 103) rfl (.cons (k := 108) rfl (.cons (k := 110) rfl (.cons (k := 118) rfl (.cons (k := 123) rfl .nil))))))))) ?_
      refine W.ret ?_
      refine N.merge 108 110 rfl rfl rfl fun ha1 => ?_
      refine N.merge 108 118 rfl rfl rfl fun ha2 => ?_
      refine N.merge 108 123 rfl rfl rfl fun ha3 => ?_
      exact N.retBy [108] (.cons (by first | exact .cell (c := 100) rfl rfl (fun w hs => run_loadVarA Tryd.underlying29 rfl sz29 rfl (fun j u hj => by rw [Nat.zero_add, PH.sub.cell hs (by first | exact single_self _ _ | exact pset_self _ _ _ | assumption)]; exact hj))) (.cons (by first | exact .cell (c := 101) rfl rfl (fun w hs => run_loadVarA Tryd.underlying38 rfl sz38 rfl (fun j u hj => by rw [Nat.zero_add, PH.sub.cell hs (by first | exact single_self _ _ | exact pset_self _ _ _ | assumption)]; exact hj))) .nil)) rfl rfl rfl rfl ⟨some ⟨b8, 0, none⟩, some ⟨b10, 0, none⟩, some ⟨b18, 0, none⟩, some ⟨b23, 0, none⟩, _, rfl, ⟨(((lit_sl (b := b8) (ls := exMs.map Mc.c') (exOne (by decide)) rfl (by decide)).mono hjoin_l).mono hjoin_l).mono hjoin_l, (((lit_sl (b := b10) (ls := exIs.map It.c') (exOne (by decide)) rfl (by decide)).mono ha1).mono hjoin_l).mono hjoin_l⟩, ⟨((lit_sl (b := b18) (ls := exXs.map tmC) (exOne (by decide)) rfl (by decide)).mono ha2).mono hjoin_l, (lit_sl (b := b23) (ls := exYs.map St.c') (exOne (by decide)) rfl (by decide)).mono ha3⟩, rfl⟩
    ·
      refine DL.one0 rfl (Eff.storeS (c := 100) _ sz29 rfl rfl rfl rfl rfl rfl rfl (by (try simp only [putAt, List.take, List.drop, List.nil_append, List.cons_append, List.append_nil, List.length_cons, List.length_nil, Nat.add_zero, Nat.zero_add, Nat.reduceAdd]); rfl)) (by rintro _ _ rfl; repeat (first | exact .nil | refine .cons rfl ?_)) ?_
      rintro _ _ rfl
      refine DL.one rfl (Eff.buildSlice 123 Tryd.underlying36 sz49 zc49 rfl rfl (.cons rfl rfl (.cons rfl rfl (.cons rfl rfl .nil))) rfl) rfl (by rintro _ _ ⟨b23, rfl, rfl⟩; repeat (first | exact .nil | refine .cons rfl ?_)) ?_
      rintro _ _ ⟨b23, rfl, rfl⟩
      refine DL.q rfl (Yld.buildP lay38 (.cons rfl rfl (.cons rfl rfl (.cons rfl rfl .nil))) rfl) rfl ?_
      refine DL.one0 rfl (Eff.storeS (c := 101) _ sz38 rfl rfl rfl rfl rfl rfl rfl (by (try simp only [putAt, List.take, List.drop, List.nil_append, List.cons_append, List.append_nil, List.length_cons, List.length_nil, Nat.add_zero, Nat.zero_add, Nat.reduceAdd]); rfl)) (by rintro _ _ rfl; repeat (first | exact .nil | refine .cons rfl ?_)) ?_
      rintro _ _ rfl
      refine DL.done ?_
      refine N.next ?_
      refine W.keep (.cons (k := 0) rfl (.cons (k := 1) rfl .nil)) (.cons (k := 0) rfl (.cons (k := 100) rfl (.cons (k := 101) rfl (.cons (k := 102) rfl (.cons (k := 103) rfl (.cons (k := 108) rfl (.cons (k := 110) rfl (.cons (k := 118) rfl (.cons (k := 123) rfl .nil))))))))) ?_
      refine W.ret ?_
      refine N.merge 108 110 rfl rfl rfl fun ha1 => ?_
      refine N.merge 108 118 rfl rfl rfl fun ha2 => ?_
      refine N.merge 108 123 rfl rfl rfl fun ha3 => ?_
      exact N.retBy [108] (.cons (by first | exact .cell (c := 100) rfl rfl (fun w hs => run_loadVarA Tryd.underlying29 rfl sz29 rfl (fun j u hj => by rw [Nat.zero_add, PH.sub.cell hs (by first | exact single_self _ _ | exact pset_self _ _ _ | assumption)]; exact hj))) (.cons (by first | exact .cell (c := 101) rfl rfl (fun w hs => run_loadVarA Tryd.underlying38 rfl sz38 rfl (fun j u hj => by rw [Nat.zero_add, PH.sub.cell hs (by first | exact single_self _ _ | exact pset_self _ _ _ | assumption)]; exact hj))) .nil)) rfl rfl rfl rfl ⟨some ⟨b8, 0, none⟩, some ⟨b10, 0, none⟩, some ⟨b18, 0, none⟩, some ⟨b23, 0, none⟩, _, rfl, ⟨(((lit_sl (b := b8) (ls := exMs.map Mc.c') (exOne (by decide)) rfl (by decide)).mono hjoin_l).mono hjoin_l).mono hjoin_l, (((lit_sl (b := b10) (ls := exIs.map It.c') (exOne (by decide)) rfl (by decide)).mono ha1).mono hjoin_l).mono hjoin_l⟩, ⟨((lit_sl (b := b18) (ls := exXs.map tmC) (exOne (by decide)) rfl (by decide)).mono ha2).mono hjoin_l, (lit_sl (b := b23) (ls := exYs.map St.c') (exOne (by decide)) rfl (by decide)).mono ha3⟩, rfl⟩
  ·
    refine DL.one rfl (Eff.buildSlice 123 Tryd.underlying36 sz49 zc49 rfl rfl (.cons rfl rfl (.cons rfl rfl (.cons rfl rfl .nil))) rfl) rfl (by rintro _ _ ⟨b23, rfl, rfl⟩; repeat (first | exact .nil | refine .cons rfl ?_)) ?_
    rintro _ _ ⟨b23, rfl, rfl⟩
    refine DL.two ?_ ?_
    ·
      refine DL.one rfl (Eff.buildSlice 118 Tryd.underlying33 sz86 zc86 rfl rfl (.cons rfl rfl (.cons rfl rfl (.cons rfl rfl .nil))) rfl) rfl (by rintro _ _ ⟨b18, rfl, rfl⟩; repeat (first | exact .nil | refine .cons rfl ?_)) ?_
      rintro _ _ ⟨b18, rfl, rfl⟩
      refine DL.q rfl (Yld.buildP lay35 (.cons rfl rfl .nil) rfl) rfl ?_
      refine DL.q rfl (Yld.buildP lay38 (.cons rfl rfl (.cons rfl rfl (.cons rfl rfl .nil))) rfl) rfl ?_
      refine DL.one0 rfl (Eff.storeS (c := 100) _ sz29 rfl rfl rfl rfl rfl rfl rfl (by (try simp only [putAt, List.take, List.drop, List.nil_append, List.cons_append, List.append_nil, List.length_cons, List.length_nil, Nat.add_zero, Nat.zero_add, Nat.reduceAdd]); rfl)) (by rintro _ _ rfl; repeat (first | exact .nil | refine .cons rfl ?_)) ?_
      rintro _ _ rfl
      refine DL.one0 rfl (Eff.storeS (c := 101) _ sz38 rfl rfl rfl rfl rfl rfl rfl (by (try simp only [putAt, List.take, List.drop, List.nil_append, List.cons_append, List.append_nil, List.length_cons, List.length_nil, Nat.add_zero, Nat.zero_add, Nat.reduceAdd]); rfl)) (by rintro _ _ rfl; repeat (first | exact .nil | refine .cons rfl ?_)) ?_
      rintro _ _ rfl
      refine DL.done ?_
      refine N.next ?_
      refine W.keep (.cons (k := 0) rfl (.cons (k := 1) rfl .nil)) (.cons (k := 0) rfl (.cons (k := 100) rfl (.cons (k := 101) rfl (.cons (k := 102) rfl (.cons (k := 103) rfl (.cons (k := 108) rfl (.cons (k := 110) rfl (.cons (k := 118) rfl (.cons (k := 123) rfl .nil))))))))) ?_
      refine W.ret ?_
      refine N.merge 108 110 rfl rfl rfl fun ha1 => ?_
      refine N.merge 108 118 rfl rfl rfl fun ha2 => ?_
      refine N.merge 108 123 rfl rfl rfl fun ha3 => ?_
      exact N.retBy [108] (.cons (by first | exact .cell (c := 100) rfl rfl (fun w hs => run_loadVarA Tryd.underlying29 rfl sz29 rfl (fun j u hj => by rw [Nat.zero_add, PH.sub.cell hs (by first | exact single_self _ _ | exact pset_self _ _ _ | assumption)]; exact hj))) (.cons (by first | exact .cell (c := 101) rfl rfl (fun w hs => run_loadVarA Tryd.underlying38 rfl sz38 rfl (fun j u hj => by rw [Nat.zero_add, PH.sub.cell hs (by first | exact single_self _ _ | exact pset_self _ _ _ | assumption)]; exact hj))) .nil)) rfl rfl rfl rfl ⟨some ⟨b8, 0, none⟩, some ⟨b10, 0, none⟩, some ⟨b18, 0, none⟩, some ⟨b23, 0, none⟩, _, rfl, ⟨(((lit_sl (b := b8) (ls := exMs.map Mc.c') (exOne (by decide)) rfl (by decide)).mono hjoin_l).mono hjoin_l).mono hjoin_l, (((lit_sl (b := b10) (ls := exIs.map It.c') (exOne (by decide)) rfl (by decide)).mono ha1).mono hjoin_l).mono hjoin_l⟩, ⟨((lit_sl (b := b18) (ls := exXs.map tmC) (exOne (by decide)) rfl (by decide)).mono ha2).mono hjoin_l, (lit_sl (b := b23) (ls := exYs.map St.c') (exOne (by decide)) rfl (by decide)).mono ha3⟩, rfl⟩
    ·
      refine DL.one0 rfl (Eff.storeS (c := 100) _ sz29 rfl rfl rfl rfl rfl rfl rfl (by (try simp only [putAt, List.take, List.drop, List.nil_append, List.cons_append, List.append_nil, List.length_cons, List.length_nil, Nat.add_zero, Nat.zero_add, Nat.reduceAdd]); rfl)) (by rintro _ _ rfl; repeat (first | exact .nil | refine .cons rfl ?_)) ?_
      rintro _ _ rfl
      refine DL.one rfl (Eff.buildSlice 118 Tryd.underlying33 sz86 zc86 rfl rfl (.cons rfl rfl (.cons rfl rfl (.cons rfl rfl .nil))) rfl) rfl (by rintro _ _ ⟨b18, rfl, rfl⟩; repeat (first | exact .nil | refine .cons rfl ?_)) ?_
      rintro _ _ ⟨b18, rfl, rfl⟩
      refine DL.q rfl (Yld.buildP lay35 (.cons rfl rfl .nil) rfl) rfl ?_
      refine DL.q rfl (Yld.buildP lay38 (.cons rfl rfl (.cons rfl rfl (.cons rfl rfl .nil))) rfl) rfl ?_
      refine DL.one0 rfl (Eff.storeS (c := 101) _ sz38 rfl rfl rfl rfl rfl rfl rfl (by (try simp only [putAt, List.take, List.drop, List.nil_append, List.cons_append, List.append_nil, List.length_cons, List.length_nil, Nat.add_zero, Nat.zero_add, Nat.reduceAdd]); rfl)) (by rintro _ _ rfl; repeat (first | exact .nil | refine .cons rfl ?_)) ?_
      rintro _ _ rfl
      refine DL.done ?_
      refine N.next ?_
      refine W.keep (.cons (k := 0) rfl (.cons (k := 1) rfl .nil)) (.cons (k := 0) rfl (.cons (k := 100) rfl (.cons (k := 101) rfl (.cons (k := 102) rfl (.cons (k := 103) rfl (.cons (k := 108) rfl (.cons (k := 110) rfl (.cons (k := 118) rfl (.cons (k := 123) rfl .nil))))))))) ?_
      refine W.ret ?_
      refine N.merge 108 110 rfl rfl rfl fun ha1 => ?_
      refine N.merge 108 118 rfl rfl rfl fun ha2 => ?_
      refine N.merge 108 123 rfl rfl rfl fun ha3 => ?_
      exact N.retBy [108] (.cons (by first | exact .cell (c := 100) rfl rfl (fun w hs => run_loadVarA Tryd.underlying29 rfl sz29 rfl (fun j u hj => by rw [Nat.zero_add, PH.sub.cell hs (by first | exact single_self _ _ | exact pset_self _ _ _ | assumption)]; exact hj))) (.cons (by first | exact .cell (c := 101) rfl rfl (fun w hs => run_loadVarA Tryd.underlying38 rfl sz38 rfl (fun j u hj => by rw [Nat.zero_add, PH.sub.cell hs (by first | exact single_self _ _ | exact pset_self _ _ _ | assumption)]; exact hj))) .nil)) rfl rfl rfl rfl ⟨some ⟨b8, 0, none⟩, some ⟨b10, 0, none⟩, some ⟨b18, 0, none⟩, some ⟨b23, 0, none⟩, _, rfl, ⟨(((lit_sl (b := b8) (ls := exMs.map Mc.c') (exOne (by decide)) rfl (by decide)).mono hjoin_l).mono hjoin_l).mono hjoin_l, (((lit_sl (b := b10) (ls := exIs.map It.c') (exOne (by decide)) rfl (by decide)).mono ha1).mono hjoin_l).mono hjoin_l⟩, ⟨((lit_sl (b := b18) (ls := exXs.map tmC) (exOne (by decide)) rfl (by decide)).mono ha2).mono hjoin_l, (lit_sl (b := b23) (ls := exYs.map St.c') (exOne (by decide)) rfl (by decide)).mono ha3⟩, rfl⟩
  ·
    refine DL.one0 rfl (Eff.storeS (c := 100) _ sz29 rfl rfl rfl rfl rfl rfl rfl (by (try simp only [putAt, List.take, List.drop, List.nil_append, List.cons_append, List.append_nil, List.length_cons, List.length_nil, Nat.add_zero, Nat.zero_add, Nat.reduceAdd]); rfl)) (by rintro _ _ rfl; repeat (first | exact .nil | refine .cons rfl ?_)) ?_
    rintro _ _ rfl
    refine DL.two ?_ ?_
    ·
      refine DL.one rfl (Eff.buildSlice 118 Tryd.underlying33 sz86 zc86 rfl rfl (.cons rfl rfl (.cons rfl rfl (.cons rfl rfl .nil))) rfl) rfl (by rintro _ _ ⟨b18, rfl, rfl⟩; repeat (first | exact .nil | refine .cons rfl ?_)) ?_
      rintro _ _ ⟨b18, rfl, rfl⟩
      refine DL.q rfl (Yld.buildP lay35 (.cons rfl rfl .nil) rfl) rfl ?_
      refine DL.one rfl (Eff.buildSlice 123 Tryd.underlying36 sz49 zc49 rfl rfl (.cons rfl rfl (.cons rfl rfl (.cons rfl rfl .nil))) rfl) rfl (by rintro _ _ ⟨b23, rfl, rfl⟩; repeat (first | exact .nil | refine .cons rfl ?_)) ?_
      rintro _ _ ⟨b23, rfl, rfl⟩
      refine DL.q rfl (Yld.buildP lay38 (.cons rfl rfl (.cons rfl rfl (.cons rfl rfl .nil))) rfl) rfl ?_
      refine DL.one0 rfl (Eff.storeS (c := 101) _ sz38 rfl rfl rfl rfl rfl rfl rfl (by (try simp only [putAt, List.take, List.drop, List.nil_append, List.cons_append, List.append_nil, List.length_cons, List.length_nil, Nat.add_zero, Nat.zero_add, Nat.reduceAdd]); rfl)) (by rintro _ _ rfl; repeat (first | exact .nil | refine .cons rfl ?_)) ?_
      rintro _ _ rfl
      refine DL.done ?_
      refine N.next ?_
      refine W.keep (.cons (k := 0) rfl (.cons (k := 1) rfl .nil)) (.cons (k := 0) rfl (.cons (k := 100) rfl (.cons (k := 101) rfl (.cons (k := 102) rfl (.cons (k := 103) rfl (.cons (k := 108) rfl (.cons (k := 110) rfl (.cons (k := 118) rfl (.cons (k := 123) rfl .nil))))))))) ?_
      refine W.ret ?_
      refine N.merge 108 110 rfl rfl rfl fun ha1 => ?_
      refine N.merge 108 118 rfl rfl rfl fun ha2 => ?_
      refine N.merge 108 123 rfl rfl rfl fun ha3 => ?_
      exact N.retBy [108] (.cons (by first | exact .cell (c := 100) rfl rfl (fun w hs => run_loadVarA Tryd.underlying29 rfl sz29 rfl (fun j u hj => by rw [Nat.zero_add, PH.sub.cell hs (by first | exact single_self _ _ | exact pset_self _ _ _ | assumption)]; exact hj))) (.cons (by first | exact .cell (c := 101) rfl rfl (fun w hs => run_loadVarA Tryd.underlying38 rfl sz38 rfl (fun j u hj => by rw [Nat.zero_add, PH.sub.cell hs (by first | exact single_self _ _ | exact pset_self _ _ _ | assumption)]; exact hj))) .nil)) rfl rfl rfl rfl ⟨some ⟨b8, 0, none⟩, some ⟨b10, 0, none⟩, some ⟨b18, 0, none⟩, some ⟨b23, 0, none⟩, _, rfl, ⟨(((lit_sl (b := b8) (ls := exMs.map Mc.c') (exOne (by decide)) rfl (by decide)).mono hjoin_l).mono hjoin_l).mono hjoin_l, (((lit_sl (b := b10) (ls := exIs.map It.c') (exOne (by decide)) rfl (by decide)).mono ha1).mono hjoin_l).mono hjoin_l⟩, ⟨((lit_sl (b := b18) (ls := exXs.map tmC) (exOne (by decide)) rfl (by decide)).mono ha2).mono hjoin_l, (lit_sl (b := b23) (ls := exYs.map St.c') (exOne (by decide)) rfl (by decide)).mono ha3⟩, rfl⟩
    ·
      refine DL.one rfl (Eff.buildSlice 123 Tryd.underlying36 sz49 zc49 rfl rfl (.cons rfl rfl (.cons rfl rfl (.cons rfl rfl .nil))) rfl) rfl (by rintro _ _ ⟨b23, rfl, rfl⟩; repeat (first | exact .nil | refine .cons rfl ?_)) ?_
      rintro _ _ ⟨b23, rfl, rfl⟩
      refine DL.one rfl (Eff.buildSlice 118 Tryd.underlying33 sz86 zc86 rfl rfl (.cons rfl rfl (.cons rfl rfl (.cons rfl rfl .nil))) rfl) rfl (by rintro _ _ ⟨b18, rfl, rfl⟩; repeat (first | exact .nil | refine .cons rfl ?_)) ?_
      rintro _ _ ⟨b18, rfl, rfl⟩
      refine DL.q rfl (Yld.buildP lay35 (.cons rfl rfl .nil) rfl) rfl ?_
      refine DL.q rfl (Yld.buildP lay38 (.cons rfl rfl (.cons rfl rfl (.cons rfl rfl .nil))) rfl) rfl ?_
      refine DL.one0 rfl (Eff.storeS (c := 101) _ sz38 rfl rfl rfl rfl rfl rfl rfl (by (try simp only [putAt, List.take, List.drop, List.nil_append, List.cons_append, List.append_nil, List.length_cons, List.length_nil, Nat.add_zero, Nat.zero_add, Nat.reduceAdd]); rfl)) (by rintro _ _ rfl; repeat (first | exact .nil | refine .cons rfl ?_)) ?_
      rintro _ _ rfl
      refine DL.done ?_
      refine N.next ?_
      refine W.keep (.cons (k := 0) rfl (.cons (k := 1) rfl .nil)) (.cons (k := 0) rfl (.cons (k := 100) rfl (.cons (k := 101) rfl (.cons (k := 102) rfl (.cons (k := 103) rfl (.cons (k := 108) rfl (.cons (k := 110) rfl (.cons (k := 118) rfl (.cons (k := 123) rfl .nil))))))))) ?_
      refine W.ret ?_
      refine N.merge 108 110 rfl rfl rfl fun ha1 => ?_
      refine N.merge 108 118 rfl rfl rfl fun ha2 => ?_
      refine N.merge 108 123 rfl rfl rfl fun ha3 => ?_
      exact N.retBy [108] (.cons (by first | exact .cell (c := 100) rfl rfl (fun w hs => run_loadVarA Tryd.underlying29 rfl sz29 rfl (fun j u hj => by rw [Nat.zero_add, PH.sub.cell hs (by first | exact single_self _ _ | exact pset_self _ _ _ | assumption)]; exact hj))) (.cons (by first | exact .cell (c := 101) rfl rfl (fun w hs => run_loadVarA Tryd.underlying38 rfl sz38 rfl (fun j u hj => by rw [Nat.zero_add, PH.sub.cell hs (by first | exact single_self _ _ | exact pset_self _ _ _ | assumption)]; exact hj))) .nil)) rfl rfl rfl rfl ⟨some ⟨b8, 0, none⟩, some ⟨b10, 0, none⟩, some ⟨b18, 0, none⟩, some ⟨b23, 0, none⟩, _, rfl, ⟨(((lit_sl (b := b8) (ls := exMs.map Mc.c') (exOne (by decide)) rfl (by decide)).mono hjoin_l).mono hjoin_l).mono hjoin_l, (((lit_sl (b := b10) (ls := exIs.map It.c') (exOne (by decide)) rfl (by decide)).mono ha1).mono hjoin_l).mono hjoin_l⟩, ⟨((lit_sl (b := b18) (ls := exXs.map tmC) (exOne (by decide)) rfl (by decide)).mono ha2).mono hjoin_l, (lit_sl (b := b23) (ls := exYs.map St.c') (exOne (by decide)) rfl (by decide)).mono ha3⟩, rfl⟩

end Go.Proofs.YtdblglgnhjankaaDoor
