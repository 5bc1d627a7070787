/- Contracts of the reference of package replog. Written by program (walk2.py). -/
import Derived.Test.YtdkefpnebmmhlaaP3
namespace Go.Proofs.Ytdkefpnebmmhlaa
open SL Cfg Rep
set_option linter.unusedVariables false
set_option linter.unusedSimpArgs false
theorem zc42 : zc Try.prog 42 [.int .i64 0, .int .i64 0, .slice none 0 0] := (by kernel_rfl : ((Try.prog.info? 42).bind (·.zero)).map (fun v => v.cells.toList) = some [.int .i64 0, .int .i64 0, .slice none 0 0])
theorem lay42 : layS Try.prog 42 = some ([.int .i64 0, .int .i64 0, .slice none 0 0], [(0, 1), (1, 1), (2, 1)]) := by kernel_rfl
theorem sz42 : sz Try.prog 42 3 := (by kernel_rfl : (Try.prog.info? 42).map (·.size) = some 3)
theorem fo42_2 : fieldOff Try.prog 42 2 = some 2 := by kernel_rfl
theorem fo42_0 : fieldOff Try.prog 42 0 = some 0 := by kernel_rfl
theorem fo42_1 : fieldOff Try.prog 42 1 = some 1 := by kernel_rfl
theorem ent76 : Ent Try.prog 76 := ⟨_, _, Try.func76, by kernel_rfl, rfl⟩
theorem ent16 : Ent Try.prog 16 := ⟨_, _, Try.func16, by kernel_rfl, rfl⟩
def Rep.Lg.entry (g : Lg) (i : Int) : Option En := if i ≤ g.ix ∨ g.ix + g.es.length < i then none else g.es[(i - g.ix - 1).toNat]?
theorem Rep.Lg.term_entry {g : Lg} {i : Int} (h : i ≠ g.ix) : g.term i = ((g.entry i).map (·.tm) |>.getD 0, (g.entry i).isSome) := by
  unfold Lg.term Lg.entry
  rw [if_neg h]
  by_cases e : i < g.ix ∨ (g.es.length : Int) < i - g.ix
  · rw [if_pos e, if_pos (by omega)]; rfl
  · rw [if_neg e, if_neg (by omega)]
    cases g.es[(i - g.ix - 1).toNat]? <;> rfl
structure Rep.FI where
  i : Nat
  H : PH
  p : Option Addr
  c : Nat
  s : List En

set_option maxRecDepth 100000 in
set_option maxHeartbeats 400000 in
theorem rlnew_ct (i t : Int) : Ct Try.prog 49 [.int .i64 i, .int .i64 t] [] (fun v Hs => v = .agg [.int .i64 (max i 0), .int .i64 (max t 0), .slice none 0 0].toArray ∧ Hs = []) := by
  refine Ct.body Try.func49 rfl Try.ntmps49 rfl ?_
  intro E F
  refine W.seq ?_
  refine W.region ?_
  refine RL.e (Eff.alloc 104 zc42) rfl ?_
  rintro _ _ ⟨b4, rfl, rfl⟩
  refine RL.nil ?_
  refine N.next ?_
  refine W.seq ?_
  refine W.region ?_
  refine RL.q (Yld.move rfl) rfl ?_
  refine RL.q (Yld.max2 rfl rfl) rfl ?_
  refine RL.q (Yld.move rfl) rfl ?_
  refine RL.q (Yld.max2 rfl rfl) rfl ?_
  refine RL.q (Yld.buildP lay42 (.cons rfl rfl (.cons rfl rfl .nil)) rfl) rfl ?_
  refine RL.e0 (Eff.storeS (c := 104) _ sz42 rfl rfl rfl rfl rfl rfl rfl (by (try simp only [putAt, List.take, List.drop, List.nil_append, List.cons_append, List.append_nil, List.length_cons, List.length_nil, Nat.add_zero, Nat.zero_add, Nat.reduceAdd]); rfl)) ?_
  rintro _ _ rfl
  refine RL.nil ?_
  refine N.next ?_
  refine W.keep (.cons (k := 4) rfl .nil) (.cons (k := 0) rfl (.cons (k := 104) rfl .nil)) ?_
  refine W.ret ?_
  exact N.retBy [] (.cons (by first | exact .cell (c := 104) rfl rfl (fun w hs => run_loadVarA Try.underlying42 rfl sz42 rfl (fun j u hj => by rw [Nat.zero_add, PH.sub.cell hs (by first | exact single_self _ _ | exact pset_self _ _ _ | assumption)]; exact hj))) .nil) rfl rfl rfl rfl ⟨by rw [Int.max_comm i, Int.max_comm t]; rfl, rfl⟩

set_option maxRecDepth 100000 in
set_option maxHeartbeats 400000 in
theorem rllast_ct (g : Lg) (hg : LOK g) (H1 : PH) (p : Option Addr) (c : Nat) (hS : Sl H1 p c 15 (g.es.map En.c)) : Ct Try.prog 16 [.agg [.int .i64 g.ix, .int .i64 g.tm, .slice p g.es.length c].toArray] [H1] (fun v Hs => v = .tuple [.int .i64 g.last.1, .int .i64 g.last.2].toArray ∧ Hs = [H1]) := by
  refine Ct.body Try.func16 rfl Try.ntmps16 rfl ?_
  intro E F
  have hmx := hS.len_le
  simp only [List.length_map, maxLen] at hmx
  obtain ⟨g0, g1, g2, g3⟩ := hg
  have hg : LOK g := ⟨g0, g1, g2, g3⟩
  refine W.seq ?_
  refine W.region ?_
  refine RL.e (Eff.box 101 _ rfl rfl) rfl ?_
  rintro _ _ ⟨b1, rfl, rfl⟩
  refine RL.q (Yld.assign rfl) rfl ?_
  refine RL.q (Yld.assign rfl) rfl ?_
  refine RL.nil ?_
  refine N.next ?_
  refine W.seq ?_
  refine W.seq ?_
  refine W.region ?_
  refine RL.q (Yld.fieldAddr fo42_2 rfl) rfl ?_
  refine RL.q (Yld.load1 (c := 101) Try.underlying40 rfl rfl rfl (by first | exact single_self _ _ | exact pset_self _ _ _ | assumption) rfl) rfl ?_
  refine RL.q (Yld.lenSl Try.underlying40 rfl) rfl ?_
  refine RL.q (Yld.assign rfl) rfl ?_
  refine RL.nil ?_
  refine N.next ?_
  refine W.keep (.cons (k := 1) rfl (.cons (k := 4) rfl .nil)) (.cons (k := 0) rfl (.cons (k := 1) rfl (.cons (k := 101) rfl .nil))) ?_
  refine W.seq ?_
  refine W.region ?_
  refine RL.q (Yld.move rfl) rfl ?_
  refine RL.q (Yld.bin rfl rfl BinV.gtr) rfl ?_
  refine RL.nil ?_
  refine N.next ?_
  first | refine W.condD rfl (fun hc9 => ?_) (fun hc9 => ?_) | (refine W.cond rfl (fun hc9 => ?_) (fun hc9 => ?_) <;> try simp only [Bool.or_eq_true, Bool.and_eq_true, Bool.not_eq_true', Bool.not_eq_false', decide_eq_true_eq, Bool.or_eq_false_iff, Bool.and_eq_false_iff, decide_eq_false_iff_not, beq_iff_eq, beq_eq_false_iff_ne, ne_eq, Decidable.not_not] at hc9)
  ·
    have hn1 : (((g.es.length : Int) - 1).toNat) = g.es.length - 1 := by omega
    obtain ⟨e, he⟩ : ∃ e, g.es[g.es.length - 1]? = some e := ⟨_, List.getElem?_eq_getElem (by omega)⟩
    have hle : (g.es.map En.c)[((g.es.length : Int) - 1).toNat]? = some [.int .i64 e.ix, .int .i64 e.tm, .int .i64 0, .int .i64 e.cl, .int .i64 0, .string .empty, .int .i64 0, .int .i64 0, .int .i64 0, .int .i64 0, .slice none 0 0, .slice none 0 0, .slice none 0 0, .slice none 0 0, .slice none 0 0] := by rw [hn1]; simp [he, En.c]
    have hla : g.last = (e.ix, e.tm) := by unfold Lg.last; rw [he]
    refine W.seq ?_
    refine W.draw (.q 0 (.q 1 (.q 2 (.q 3 (.q 4 (.q 5 (.q 6 (.q 7 (.q 8 (.q 9 (.q 10 (.q 11 (.q 12 (.q 13 (.q 14 (.q 15 .done)))))))))))))))) (.cons (k := 0) rfl (.cons (k := 1) rfl (.cons (k := 101) rfl .nil))) mix (by kernel_rfl) (by kernel_rfl) ?_
    refine DL.q rfl (Yld.fieldAddr fo42_2 rfl) rfl ?_
    refine DL.q rfl (Yld.load1 (c := 101) Try.underlying40 rfl rfl rfl (by first | exact single_self _ _ | exact pset_self _ _ _ | assumption) rfl) rfl ?_
    refine DL.q rfl (Yld.move rfl) rfl ?_
    refine DL.q rfl (Yld.bin rfl rfl (by first | exact BinV.sub (by omega) (by omega) | exact BinV.subW)) rfl ?_
    refine DL.q rfl (Yld.indexRow Try.underlying40 sz82 rfl rfl (by first | assumption | exact Own.sl (by assumption)) (by first | rfl | omega | (simp; done) | (simp; omega)) (by omega) (by first | omega | (simp; done) | (simp; omega))) rfl ?_
    refine DL.q rfl (Yld.fieldAddr fo82_0 rfl) rfl ?_
    refine DL.q rfl (by first | exact (by first | exact Yld.loadRow1 (cl := 101) Try.underlying3 rfl rfl rfl (by first | assumption | exact Own.sl (by assumption)) (by assumption) | exact Yld.loadRow1 (cl := 1) Try.underlying3 rfl rfl rfl (by first | assumption | exact Own.sl (by assumption)) (by assumption)) | exact (by first | exact Yld.loadRowF (cl := 101) (j := 0) Try.underlying3 rfl rfl rfl (by first | assumption | exact Own.sl (by assumption)) (by assumption) rfl | exact Yld.loadRowF (cl := 1) (j := 0) Try.underlying3 rfl rfl rfl (by first | assumption | exact Own.sl (by assumption)) (by assumption) rfl)) rfl ?_
    refine DL.q rfl (Yld.fieldAddr fo42_2 rfl) rfl ?_
    refine DL.q rfl (Yld.load1 (c := 101) Try.underlying40 rfl rfl rfl (by first | exact single_self _ _ | exact pset_self _ _ _ | assumption) rfl) rfl ?_
    refine DL.q rfl (Yld.move rfl) rfl ?_
    refine DL.q rfl (Yld.bin rfl rfl (by first | exact BinV.sub (by omega) (by omega) | exact BinV.subW)) rfl ?_
    refine DL.q rfl (Yld.indexRow Try.underlying40 sz82 rfl rfl (by first | assumption | exact Own.sl (by assumption)) (by first | rfl | omega | (simp; done) | (simp; omega)) (by omega) (by first | omega | (simp; done) | (simp; omega))) rfl ?_
    refine DL.q rfl (Yld.fieldAddr fo82_1 rfl) rfl ?_
    refine DL.q rfl (by first | exact Yld.loadRowF (cl := 101) (j := 1) Try.underlying3 rfl rfl rfl (by first | assumption | exact Own.sl (by assumption)) (by assumption) rfl | exact Yld.loadRowF (cl := 1) (j := 1) Try.underlying3 rfl rfl rfl (by first | assumption | exact Own.sl (by assumption)) (by assumption) rfl) rfl ?_
    refine DL.q rfl (Yld.assign rfl) rfl ?_
    refine DL.q rfl (Yld.assign rfl) rfl ?_
    refine DL.done ?_
    refine N.next ?_
    refine W.keep (.cons (k := 2) rfl (.cons (k := 3) rfl .nil)) (.cons (k := 0) rfl (.cons (k := 1) rfl (.cons (k := 101) rfl .nil))) ?_
    refine W.ret ?_
    refine N.then_ret ?_
    exact N.retBy [1] (.cons (.tmp rfl) (.cons (.tmp rfl) .nil)) rfl rfl rfl rfl ⟨by rw [hla]; rfl, rfl⟩
  ·
    have hn0 : g.es.length = 0 := by omega
    have hla : g.last = (g.ix, g.tm) := by unfold Lg.last; rw [List.getElem?_eq_none (by omega)]
    refine W.skip ?_
    refine N.next ?_
    refine W.seq ?_
    refine W.draw (.q 0 (.q 1 (.q 2 (.q 3 (.q 4 (.q 5 .done)))))) (.cons (k := 0) rfl (.cons (k := 1) rfl (.cons (k := 101) rfl .nil))) mix (by kernel_rfl) (by kernel_rfl) ?_
    refine DL.q rfl (Yld.fieldAddr fo42_0 rfl) rfl ?_
    refine DL.q rfl (Yld.load1 (c := 101) Try.underlying3 rfl rfl rfl (by first | exact single_self _ _ | exact pset_self _ _ _ | assumption) rfl) rfl ?_
    refine DL.q rfl (Yld.fieldAddr fo42_1 rfl) rfl ?_
    refine DL.q rfl (Yld.load1 (c := 101) Try.underlying3 rfl rfl rfl (by first | exact single_self _ _ | exact pset_self _ _ _ | assumption) rfl) rfl ?_
    refine DL.q rfl (Yld.assign rfl) rfl ?_
    refine DL.q rfl (Yld.assign rfl) rfl ?_
    refine DL.done ?_
    refine N.next ?_
    refine W.keep (.cons (k := 2) rfl (.cons (k := 3) rfl .nil)) (.cons (k := 0) rfl (.cons (k := 1) rfl (.cons (k := 101) rfl .nil))) ?_
    refine W.ret ?_
    exact N.retBy [1] (.cons (.tmp rfl) (.cons (.tmp rfl) .nil)) rfl rfl rfl rfl ⟨by rw [hla]; rfl, rfl⟩

set_option maxRecDepth 100000 in
set_option maxHeartbeats 400000 in
theorem rlentry_ct (g : Lg) (hg : LOK g) (H1 : PH) (p : Option Addr) (c : Nat) (hS : Sl H1 p c 15 (g.es.map En.c)) (i : Int) (hi0 : -4611686018427387904 ≤ i) (hi1 : i ≤ 4611686018427387904) : Ct Try.prog 76 [.agg [.int .i64 g.ix, .int .i64 g.tm, .slice p g.es.length c].toArray, .int .i64 i] [H1] (fun v Hs => (∃ e0, (g.entry i).getD ⟨0, 0, 0⟩ = e0 ∧ v = .tuple [.agg [.int .i64 e0.ix, .int .i64 e0.tm, .int .i64 0, .int .i64 e0.cl, .int .i64 0, .string .empty, .int .i64 0, .int .i64 0, .int .i64 0, .int .i64 0, .slice none 0 0, .slice none 0 0, .slice none 0 0, .slice none 0 0, .slice none 0 0].toArray, .bool (g.entry i).isSome].toArray) ∧ Hs = [H1]) := by
  refine Ct.body Try.func76 rfl Try.ntmps76 rfl ?_
  intro E F
  have hmx := hS.len_le
  simp only [List.length_map, maxLen] at hmx
  obtain ⟨g0, g1, g2, g3⟩ := hg
  have hg : LOK g := ⟨g0, g1, g2, g3⟩
  refine W.seq ?_
  refine W.region ?_
  refine RL.e (Eff.box 102 _ rfl rfl) rfl ?_
  rintro _ _ ⟨b2, rfl, rfl⟩
  refine RL.e (Eff.alloc 104 zc82) rfl ?_
  rintro _ _ ⟨b4, rfl, rfl⟩
  refine RL.q (Yld.assign rfl) rfl ?_
  refine RL.nil ?_
  refine N.next ?_
  refine W.seq ?_
  refine W.seq ?_
  refine W.region ?_
  refine RL.q (Yld.move rfl) rfl ?_
  refine RL.q (Yld.fieldAddr fo42_0 rfl) rfl ?_
  refine RL.q (Yld.load1 (c := 102) Try.underlying3 rfl rfl rfl (by first | exact single_self _ _ | exact pset_self _ _ _ | assumption) rfl) rfl ?_
  refine RL.q (Yld.bin rfl rfl BinV.leq) rfl ?_
  refine RL.q (Yld.move rfl) rfl ?_
  refine' RL.or (t := 10) (d := 19) 9 rfl (.cons (k := 0) rfl (.cons (k := 1) rfl (.cons (k := 2) rfl (.cons (k := 4) rfl (.cons (k := 5) rfl (.cons (k := 6) rfl (.cons (k := 7) rfl (.cons (k := 8) rfl (.cons (k := 9) rfl .nil))))))))) (.cons (k := 0) rfl (.cons (k := 1) rfl (.cons (k := 102) rfl (.cons (k := 104) rfl .nil)))) ?_ ?_ ?_
  rotate_left 1
  ·
    intro hg10
    refine RL.gq rfl rfl (Yld.move rfl) rfl ?_
    refine RL.gq rfl rfl (Yld.fieldAddr fo42_0 rfl) rfl ?_
    refine RL.gq rfl rfl (Yld.load1 (c := 102) Try.underlying3 rfl rfl rfl (by first | exact single_self _ _ | exact pset_self _ _ _ | assumption) rfl) rfl ?_
    refine RL.gq rfl rfl (Yld.fieldAddr fo42_2 rfl) rfl ?_
    refine RL.gq rfl rfl (Yld.load1 (c := 102) Try.underlying40 rfl rfl rfl (by first | exact single_self _ _ | exact pset_self _ _ _ | assumption) rfl) rfl ?_
    refine RL.gq rfl rfl (Yld.lenSl Try.underlying40 rfl) rfl ?_
    refine RL.gq rfl rfl (Yld.bin rfl rfl (by first | exact BinV.add (by omega) (by omega) | exact BinV.addW)) rfl ?_
    refine RL.gq rfl rfl (Yld.bin rfl rfl BinV.gtr) rfl ?_
    refine RL.q (by first | exact Yld.pickT rfl rfl | exact Yld.pickF rfl rfl) rfl ?_
    exact RL.nil (N.meet (.cons rfl (.cons rfl (.cons rfl (.cons rfl (.cons rfl (.cons rfl (.cons rfl (.cons rfl (.cons rfl (.cons rfl .nil)))))))))) (.cons rfl (.cons rfl (.cons rfl (.cons rfl .nil)))))
  ·
    intro hg10
    refine RL.gskip rfl rfl rfl rfl ?_
    refine RL.gskip rfl rfl rfl rfl ?_
    refine RL.gskip rfl rfl rfl rfl ?_
    refine RL.gskip rfl rfl rfl rfl ?_
    refine RL.gskip rfl rfl rfl rfl ?_
    refine RL.gskip rfl rfl rfl rfl ?_
    refine RL.gskip rfl rfl rfl rfl ?_
    refine RL.gskip rfl rfl rfl rfl ?_
    refine RL.q (by first | exact Yld.pickT rfl rfl | exact Yld.pickF rfl rfl) rfl ?_
    exact RL.nil (N.meet (.cons rfl (.cons rfl (.cons rfl (.cons rfl (.cons rfl (.cons rfl (.cons rfl (.cons rfl (.cons rfl (.cons rfl .nil)))))))))) (.cons rfl (.cons rfl (.cons rfl (.cons rfl .nil)))))
  refine RL.nil ?_
  refine N.next ?_
  refine W.keep (.cons (k := 1) rfl (.cons (k := 2) rfl (.cons (k := 4) rfl (.cons (k := 19) rfl .nil)))) (.cons (k := 0) rfl (.cons (k := 1) rfl (.cons (k := 102) rfl (.cons (k := 104) rfl .nil)))) ?_
  first | refine W.condD rfl (fun hc19 => ?_) (fun hc19 => ?_) | (refine W.cond rfl (fun hc19 => ?_) (fun hc19 => ?_) <;> try simp only [Bool.or_eq_true, Bool.and_eq_true, Bool.not_eq_true', Bool.not_eq_false', decide_eq_true_eq, Bool.or_eq_false_iff, Bool.and_eq_false_iff, decide_eq_false_iff_not, beq_iff_eq, beq_eq_false_iff_ne, ne_eq, Decidable.not_not] at hc19)
  ·
    refine W.seq ?_
    refine W.region ?_
    refine RL.q (Yld.buildP lay82 .nil rfl) rfl ?_
    refine RL.e0 (Eff.storeS (c := 104) _ sz82 rfl rfl rfl rfl rfl rfl rfl (by (try simp only [putAt, List.take, List.drop, List.nil_append, List.cons_append, List.append_nil, List.length_cons, List.length_nil, Nat.add_zero, Nat.zero_add, Nat.reduceAdd]); rfl)) ?_
    rintro _ _ rfl
    refine RL.q (Yld.assign rfl) rfl ?_
    refine RL.nil ?_
    refine N.next ?_
    refine W.keep (.cons (k := 4) rfl (.cons (k := 5) rfl .nil)) (.cons (k := 0) rfl (.cons (k := 1) rfl (.cons (k := 102) rfl (.cons (k := 104) rfl .nil)))) ?_
    refine W.ret ?_
    refine N.then_ret ?_
    exact N.retBy [1] (.cons (by first | exact .cell (c := 104) rfl rfl (fun w hs => run_loadVarA Try.underlying82 rfl sz82 rfl (fun j u hj => by rw [Nat.zero_add, PH.sub.cell hs (by first | exact single_self _ _ | exact pset_self _ _ _ | assumption)]; exact hj))) (.cons (.tmp rfl) .nil)) rfl rfl rfl rfl ⟨⟨⟨0, 0, 0⟩, by unfold Lg.entry; rw [if_pos (by omega)]; rfl, by unfold Lg.entry; rw [if_pos (by omega)]; rfl⟩, rfl⟩
  ·
    have hcn : ¬ (i ≤ g.ix ∨ g.ix + (g.es.length : Int) < i) := by omega
    have hk : (i - g.ix - 1).toNat < g.es.length := by omega
    obtain ⟨e, he⟩ : ∃ e, g.es[(i - g.ix - 1).toNat]? = some e := ⟨_, List.getElem?_eq_getElem hk⟩
    have hle : (g.es.map En.c)[(i - g.ix - 1).toNat]? = some [.int .i64 e.ix, .int .i64 e.tm, .int .i64 0, .int .i64 e.cl, .int .i64 0, .string .empty, .int .i64 0, .int .i64 0, .int .i64 0, .int .i64 0, .slice none 0 0, .slice none 0 0, .slice none 0 0, .slice none 0 0, .slice none 0 0] := by simp only [List.getElem?_map, he, Option.map_some, En.c]
    refine W.skip ?_
    refine N.next ?_
    refine W.seq ?_
    refine W.region ?_
    refine RL.q (Yld.fieldAddr fo42_2 rfl) rfl ?_
    refine RL.q (Yld.load1 (c := 102) Try.underlying40 rfl rfl rfl (by first | exact single_self _ _ | exact pset_self _ _ _ | assumption) rfl) rfl ?_
    refine RL.q (Yld.move rfl) rfl ?_
    refine RL.q (Yld.fieldAddr fo42_0 rfl) rfl ?_
    refine RL.q (Yld.load1 (c := 102) Try.underlying3 rfl rfl rfl (by first | exact single_self _ _ | exact pset_self _ _ _ | assumption) rfl) rfl ?_
    refine RL.q (Yld.bin rfl rfl (by first | exact BinV.sub (by omega) (by omega) | exact BinV.subW)) rfl ?_
    refine RL.q (Yld.bin rfl rfl (by first | exact BinV.sub (by omega) (by omega) | exact BinV.subW)) rfl ?_
    refine RL.q (Yld.indexRow Try.underlying40 sz82 rfl rfl (by first | assumption | exact Own.sl (by assumption)) (by first | rfl | omega | (simp; done) | (simp; omega)) (by omega) (by first | omega | (simp; done) | (simp; omega))) rfl ?_
    refine RL.q (by first | exact Yld.loadRow (cl := 104) Try.underlying82 rfl sz82 rfl rfl (by first | assumption | exact Own.sl (by assumption)) (by assumption) | exact Yld.loadRow (cl := 102) Try.underlying82 rfl sz82 rfl rfl (by first | assumption | exact Own.sl (by assumption)) (by assumption) | exact Yld.loadRow (cl := 1) Try.underlying82 rfl sz82 rfl rfl (by first | assumption | exact Own.sl (by assumption)) (by assumption)) rfl ?_
    refine RL.e0 (Eff.storeS (c := 104) _ sz82 rfl rfl rfl rfl rfl rfl rfl (by (try simp only [putAt, List.take, List.drop, List.nil_append, List.cons_append, List.append_nil, List.length_cons, List.length_nil, Nat.add_zero, Nat.zero_add, Nat.reduceAdd]); rfl)) ?_
    rintro _ _ rfl
    refine RL.q (Yld.assign rfl) rfl ?_
    refine RL.nil ?_
    refine N.next ?_
    refine W.keep (.cons (k := 4) rfl (.cons (k := 5) rfl .nil)) (.cons (k := 0) rfl (.cons (k := 1) rfl (.cons (k := 102) rfl (.cons (k := 104) rfl .nil)))) ?_
    refine W.ret ?_
    exact N.retBy [1] (.cons (by first | exact .cell (c := 104) rfl rfl (fun w hs => run_loadVarA Try.underlying82 rfl sz82 rfl (fun j u hj => by rw [Nat.zero_add, PH.sub.cell hs (by first | exact single_self _ _ | exact pset_self _ _ _ | assumption)]; exact hj))) (.cons (.tmp rfl) .nil)) rfl rfl rfl rfl ⟨⟨e, by unfold Lg.entry; rw [if_neg hcn, he]; rfl, by unfold Lg.entry; rw [if_neg hcn, he]; rfl⟩, rfl⟩

set_option maxRecDepth 100000 in
set_option maxHeartbeats 400000 in
theorem rlterm_ct (g : Lg) (hg : LOK g) (H1 : PH) (p : Option Addr) (c : Nat) (hS : Sl H1 p c 15 (g.es.map En.c)) (i : Int) (hi0 : -4611686018427387904 ≤ i) (hi1 : i ≤ 4611686018427387904) : Ct Try.prog 52 [.agg [.int .i64 g.ix, .int .i64 g.tm, .slice p g.es.length c].toArray, .int .i64 i] [H1] (fun v Hs => v = .tuple [.int .i64 (g.term i).1, .bool (g.term i).2].toArray ∧ Hs = [H1]) := by
  refine Ct.body Try.func52 rfl Try.ntmps52 rfl ?_
  intro E F
  have hmx := hS.len_le
  simp only [List.length_map, maxLen] at hmx
  obtain ⟨g0, g1, g2, g3⟩ := hg
  have hg : LOK g := ⟨g0, g1, g2, g3⟩
  refine W.seq ?_
  refine W.region ?_
  refine RL.e (Eff.box 102 _ rfl rfl) rfl ?_
  rintro _ _ ⟨b2, rfl, rfl⟩
  refine RL.q (Yld.assign rfl) rfl ?_
  refine RL.q (Yld.assign rfl) rfl ?_
  refine RL.nil ?_
  refine N.next ?_
  refine W.seq ?_
  refine W.seq ?_
  refine W.region ?_
  refine RL.q (Yld.move rfl) rfl ?_
  refine RL.q (Yld.fieldAddr fo42_0 rfl) rfl ?_
  refine RL.q (Yld.load1 (c := 102) Try.underlying3 rfl rfl rfl (by first | exact single_self _ _ | exact pset_self _ _ _ | assumption) rfl) rfl ?_
  refine RL.q (Yld.bin rfl rfl BinV.eql) rfl ?_
  refine RL.nil ?_
  refine N.next ?_
  refine W.keep (.cons (k := 1) rfl (.cons (k := 2) rfl (.cons (k := 11) rfl .nil))) (.cons (k := 0) rfl (.cons (k := 1) rfl (.cons (k := 102) rfl .nil))) ?_
  first | refine W.condD rfl (fun hc11 => ?_) (fun hc11 => ?_) | (refine W.cond rfl (fun hc11 => ?_) (fun hc11 => ?_) <;> try simp only [Bool.or_eq_true, Bool.and_eq_true, Bool.not_eq_true', Bool.not_eq_false', decide_eq_true_eq, Bool.or_eq_false_iff, Bool.and_eq_false_iff, decide_eq_false_iff_not, beq_iff_eq, beq_eq_false_iff_ne, ne_eq, Decidable.not_not] at hc11)
  ·
    have ht : g.term i = (g.tm, true) := by unfold Lg.term; rw [if_pos hc11]
    refine W.seq ?_
    refine W.region ?_
    refine RL.q (Yld.fieldAddr fo42_1 rfl) rfl ?_
    refine RL.q (Yld.load1 (c := 102) Try.underlying3 rfl rfl rfl (by first | exact single_self _ _ | exact pset_self _ _ _ | assumption) rfl) rfl ?_
    refine RL.q (Yld.assign rfl) rfl ?_
    refine RL.q (Yld.assign rfl) rfl ?_
    refine RL.nil ?_
    refine N.next ?_
    refine W.keep (.cons (k := 4) rfl (.cons (k := 5) rfl .nil)) (.cons (k := 0) rfl (.cons (k := 1) rfl (.cons (k := 102) rfl .nil))) ?_
    refine W.ret ?_
    refine N.then_ret ?_
    exact N.retBy [1] (.cons (.tmp rfl) (.cons (.tmp rfl) .nil)) rfl rfl rfl rfl ⟨by rw [ht]; rfl, rfl⟩
  ·
    have ht := Lg.term_entry hc11
    refine W.skip ?_
    refine N.next ?_
    refine W.seq ?_
    refine W.region ?_
    refine RL.q (Yld.loadW (c := 102) Try.underlying42 rfl sz42 rfl rfl (by first | exact single_self _ _ | exact pset_self _ _ _ | assumption) rfl) rfl ?_
    refine RL.q (Yld.move rfl) rfl ?_
    refine RL.e (Eff.call ent76 [1] [1] (.cons rfl (.cons rfl .nil)) (rlentry_ct g hg _ _ _ hS i hi0 hi1) rfl rfl rfl rfl (by rintro _ _ ⟨_, rfl⟩; rfl)) rfl ?_
    rintro _ _ ⟨_, ⟨⟨e0, he0, rfl⟩, rfl⟩, rfl⟩
    refine RL.q (Yld.move rfl) rfl ?_
    refine RL.q (Yld.extract rfl rfl) rfl ?_
    refine RL.q (Yld.extract rfl rfl) rfl ?_
    refine RL.e (Eff.alloc 106 zc82) rfl ?_
    rintro _ _ ⟨b6, rfl, rfl⟩
    refine RL.e0 (Eff.storeS (c := 106) _ sz82 rfl rfl rfl rfl rfl rfl rfl (by (try simp only [putAt, List.take, List.drop, List.nil_append, List.cons_append, List.append_nil, List.length_cons, List.length_nil, Nat.add_zero, Nat.zero_add, Nat.reduceAdd]); rfl)) ?_
    rintro _ _ rfl
    refine RL.q (Yld.assign rfl) rfl ?_
    refine RL.nil ?_
    refine N.next ?_
    refine W.keep (.cons (k := 6) rfl (.cons (k := 7) rfl .nil)) (.cons (k := 0) rfl (.cons (k := 1) rfl (.cons (k := 102) rfl (.cons (k := 106) rfl .nil)))) ?_
    refine W.seq ?_
    refine W.region ?_
    refine RL.q (Yld.fieldAddr fo82_1 rfl) rfl ?_
    refine RL.q (Yld.load1 (c := 106) Try.underlying3 rfl rfl rfl (by first | exact single_self _ _ | exact pset_self _ _ _ | assumption) rfl) rfl ?_
    refine RL.q (Yld.move rfl) rfl ?_
    refine RL.q (Yld.assign rfl) rfl ?_
    refine RL.q (Yld.assign rfl) rfl ?_
    refine RL.nil ?_
    refine N.next ?_
    refine W.keep (.cons (k := 4) rfl (.cons (k := 5) rfl .nil)) (.cons (k := 0) rfl (.cons (k := 1) rfl (.cons (k := 102) rfl (.cons (k := 106) rfl .nil)))) ?_
    refine W.ret ?_
    exact N.retBy [1] (.cons (.tmp rfl) (.cons (.tmp rfl) .nil)) rfl rfl rfl rfl ⟨by rw [ht, ← he0]; cases g.entry i <;> rfl, rfl⟩

set_option maxRecDepth 100000 in
set_option maxHeartbeats 1600000 in
theorem rlfrom_ct (g : Lg) (hg : LOK g) (H1 : PH) (p : Option Addr) (c : Nat) (hS : Sl H1 p c 15 (g.es.map En.c)) (i : Int) (hi0 : -4611686018427387904 ≤ i) (hi1 : i ≤ 4611686018427387904) (m : Int) : Ct Try.prog 53 [.agg [.int .i64 g.ix, .int .i64 g.tm, .slice p g.es.length c].toArray, .int .i64 i, .int .i64 m] [H1] (fun v Hs => ∃ H' p' c', v = .slice p' (g.fr i m).length c' ∧ Own H' p' c' 82 15 ((g.fr i m).map En.c) ∧ Hs = [H1, H']) := by
  refine Ct.body Try.func53 rfl Try.ntmps53 rfl ?_
  intro E F
  have hmx := hS.len_le
  simp only [List.length_map, maxLen] at hmx
  obtain ⟨g0, g1, g2, g3⟩ := hg
  have hg : LOK g := ⟨g0, g1, g2, g3⟩
  refine W.seq ?_
  refine W.region ?_
  refine RL.e (Eff.box 103 _ rfl rfl) rfl ?_
  rintro _ _ ⟨b3, rfl, rfl⟩
  refine RL.q (Yld.assign rfl) rfl ?_
  refine RL.nil ?_
  refine N.next ?_
  refine W.seq ?_
  refine W.region ?_
  refine RL.e (Eff.buildSlice 109 Try.underlying40 sz82 zc82 rfl rfl .nil rfl) rfl ?_
  rintro _ _ ⟨b9, rfl, rfl⟩
  refine RL.q (Yld.assign rfl) rfl ?_
  refine RL.nil ?_
  refine N.next ?_
  refine W.seq ?_
  refine W.seq ?_
  refine W.region ?_
  refine RL.q (Yld.assign rfl) rfl ?_
  refine RL.nil ?_
  refine N.next ?_
  refine W.block ?_
  refine W.loopK (ι := FI) (fun x => (x.i ≤ g.es.length ∧ Own x.H x.p x.c 82 15 (x.s.map En.c) ∧ x.s = (g.es.take x.i).drop (g.at i) ∧ (x.i = 0 ∨ x.i ≤ g.at i ∨ (x.i : Int) - g.at i ≤ m) ∧ (m ≤ 0 → x.i = 0))) (fun x => [(7, .slice x.p x.s.length x.c), (8, .int .i64 (x.i : Nat))]) (fun x => [(109, x.H)]) (fun x => g.es.length - x.i) (.cons (k := 1) rfl (.cons (k := 2) rfl (.cons (k := 3) rfl .nil))) (.cons (k := 0) rfl (.cons (k := 1) rfl (.cons (k := 103) rfl .nil))) ⟨0, single b9 (.cells [].toArray 82 (0, 0)), some ⟨b9, 0, none⟩, 0, []⟩ ?_ ?_ ?_ ?_
  · exact ⟨Nat.zero_le _, en_none rfl, by simp, .inl rfl, fun _ => rfl⟩
  · exact (.as rfl (by first | rfl | (simp; done) | (congr 1; simp; done) | (congr 1; omega)) (.as rfl (by first | rfl | (simp; done) | (congr 1; simp; done) | (congr 1; omega)) .nil))
  · exact (.cons rfl .nil)
  rintro x ⟨hi, hO, hs, hI1, hI2⟩
  refine W.keep (.cons (k := 7) rfl (.cons (k := 8) rfl (.cons (k := 1) rfl (.cons (k := 2) rfl (.cons (k := 3) rfl .nil))))) (.cons (k := 109) rfl (.cons (k := 0) rfl (.cons (k := 1) rfl (.cons (k := 103) rfl .nil)))) ?_
  refine W.seq ?_
  refine W.seq ?_
  refine W.region ?_
  refine RL.q (Yld.move rfl) rfl ?_
  refine RL.q (Yld.fieldAddr fo42_2 rfl) rfl ?_
  refine RL.q (Yld.load1 (c := 103) Try.underlying40 rfl rfl rfl (by first | exact single_self _ _ | exact pset_self _ _ _ | assumption) rfl) rfl ?_
  refine RL.q (Yld.lenSl Try.underlying40 rfl) rfl ?_
  refine RL.q (Yld.bin rfl rfl BinV.lss) rfl ?_
  refine RL.q (Yld.move rfl) rfl ?_
  refine' RL.and (t := 15) (d := 20) 5 rfl (.cons (k := 1) rfl (.cons (k := 2) rfl (.cons (k := 3) rfl (.cons (k := 7) rfl (.cons (k := 8) rfl (.cons (k := 10) rfl (.cons (k := 11) rfl (.cons (k := 12) rfl (.cons (k := 13) rfl (.cons (k := 14) rfl .nil)))))))))) (.cons (k := 0) rfl (.cons (k := 1) rfl (.cons (k := 103) rfl (.cons (k := 109) rfl .nil)))) ?_ ?_ ?_
  rotate_left 1
  ·
    intro hg15
    refine RL.gq rfl rfl (Yld.move rfl) rfl ?_
    refine RL.gq rfl rfl (Yld.lenSl Try.underlying40 rfl) rfl ?_
    refine RL.gq rfl rfl (Yld.move rfl) rfl ?_
    refine RL.gq rfl rfl (Yld.bin rfl rfl BinV.lss) rfl ?_
    refine RL.q (by first | exact Yld.pickT rfl rfl | exact Yld.pickF rfl rfl) rfl ?_
    exact RL.nil (N.meet (.cons rfl (.cons rfl (.cons rfl (.cons rfl (.cons rfl (.cons rfl (.cons rfl (.cons rfl (.cons rfl (.cons rfl (.cons rfl .nil))))))))))) (.cons rfl (.cons rfl (.cons rfl (.cons rfl .nil)))))
  ·
    intro hg15
    refine RL.gskip rfl rfl rfl rfl ?_
    refine RL.gskip rfl rfl rfl rfl ?_
    refine RL.gskip rfl rfl rfl rfl ?_
    refine RL.gskip rfl rfl rfl rfl ?_
    refine RL.q (by first | exact Yld.pickT rfl rfl | exact Yld.pickF rfl rfl) rfl ?_
    exact RL.nil (N.meet (.cons rfl (.cons rfl (.cons rfl (.cons rfl (.cons rfl (.cons rfl (.cons rfl (.cons rfl (.cons rfl (.cons rfl (.cons rfl .nil))))))))))) (.cons rfl (.cons rfl (.cons rfl (.cons rfl .nil)))))
  refine RL.nil ?_
  refine N.next ?_
  refine W.keep (.cons (k := 1) rfl (.cons (k := 2) rfl (.cons (k := 3) rfl (.cons (k := 7) rfl (.cons (k := 8) rfl (.cons (k := 20) rfl .nil)))))) (.cons (k := 0) rfl (.cons (k := 1) rfl (.cons (k := 103) rfl (.cons (k := 109) rfl .nil)))) ?_
  first | refine W.condD rfl (fun hc20 => ?_) (fun hc20 => ?_) | (refine W.cond rfl (fun hc20 => ?_) (fun hc20 => ?_) <;> try simp only [Bool.or_eq_true, Bool.and_eq_true, Bool.not_eq_true', Bool.not_eq_false', decide_eq_true_eq, Bool.or_eq_false_iff, Bool.and_eq_false_iff, decide_eq_false_iff_not, beq_iff_eq, beq_eq_false_iff_ne, ne_eq, Decidable.not_not] at hc20)
  ·
    obtain ⟨hc20, hc20b⟩ := hc20
    have hsl : x.s.length = x.i - g.at i := by rw [hs, List.length_drop, List.length_take]; omega
    obtain ⟨e, he⟩ : ∃ e, g.es[x.i]? = some e := ⟨_, List.getElem?_eq_getElem (show x.i < g.es.length by omega)⟩
    have hle : (g.es.map En.c)[x.i]? = some [.int .i64 e.ix, .int .i64 e.tm, .int .i64 0, .int .i64 e.cl, .int .i64 0, .string .empty, .int .i64 0, .int .i64 0, .int .i64 0, .int .i64 0, .slice none 0 0, .slice none 0 0, .slice none 0 0, .slice none 0 0, .slice none 0 0] := by simp [he, En.c]
    have hei := g2 _ _ he
    have hat : (g.at i : Int) = max i (g.ix + 1) - g.ix - 1 := by unfold Lg.at; omega
    refine W.skip ?_
    refine N.next ?_
    refine W.seq ?_
    refine W.block ?_
    refine W.seq ?_
    refine W.region ?_
    refine RL.q (Yld.fieldAddr fo42_2 rfl) rfl ?_
    refine RL.q (Yld.load1 (c := 103) Try.underlying40 rfl rfl rfl (by first | exact single_self _ _ | exact pset_self _ _ _ | assumption) rfl) rfl ?_
    refine RL.q (Yld.move rfl) rfl ?_
    refine RL.q (Yld.indexRow Try.underlying40 sz82 rfl rfl (by first | assumption | exact Own.sl (by assumption)) (by first | rfl | omega | (simp; done) | (simp; omega)) (by omega) (by first | omega | (simp; done) | (simp; omega))) rfl ?_
    refine RL.q (Yld.fieldAddr fo82_0 rfl) rfl ?_
    refine RL.q (by first | exact (by first | exact Yld.loadRow1 (cl := 1) Try.underlying3 rfl rfl rfl (by first | assumption | exact Own.sl (by assumption)) (by assumption) | exact Yld.loadRow1 (cl := 103) Try.underlying3 rfl rfl rfl (by first | assumption | exact Own.sl (by assumption)) (by assumption) | exact Yld.loadRow1 (cl := 109) Try.underlying3 rfl rfl rfl (by first | assumption | exact Own.sl (by assumption)) (by assumption)) | exact (by first | exact Yld.loadRowF (cl := 1) (j := 0) Try.underlying3 rfl rfl rfl (by first | assumption | exact Own.sl (by assumption)) (by assumption) rfl | exact Yld.loadRowF (cl := 103) (j := 0) Try.underlying3 rfl rfl rfl (by first | assumption | exact Own.sl (by assumption)) (by assumption) rfl | exact Yld.loadRowF (cl := 109) (j := 0) Try.underlying3 rfl rfl rfl (by first | assumption | exact Own.sl (by assumption)) (by assumption) rfl)) rfl ?_
    refine RL.q (Yld.move rfl) rfl ?_
    refine RL.q (Yld.bin rfl rfl BinV.geq) rfl ?_
    refine RL.nil ?_
    refine N.next ?_
    refine W.keep (.cons (k := 1) rfl (.cons (k := 2) rfl (.cons (k := 3) rfl (.cons (k := 7) rfl (.cons (k := 8) rfl (.cons (k := 30) rfl .nil)))))) (.cons (k := 0) rfl (.cons (k := 1) rfl (.cons (k := 103) rfl (.cons (k := 109) rfl .nil)))) ?_
    first | refine W.condD rfl (fun hc30 => ?_) (fun hc30 => ?_) | (refine W.cond rfl (fun hc30 => ?_) (fun hc30 => ?_) <;> try simp only [Bool.or_eq_true, Bool.and_eq_true, Bool.not_eq_true', Bool.not_eq_false', decide_eq_true_eq, Bool.or_eq_false_iff, Bool.and_eq_false_iff, decide_eq_false_iff_not, beq_iff_eq, beq_eq_false_iff_ne, ne_eq, Decidable.not_not] at hc30)
    ·
      refine W.region ?_
      refine RL.q (Yld.move rfl) rfl ?_
      refine RL.q (Yld.fieldAddr fo42_2 rfl) rfl ?_
      refine RL.q (Yld.load1 (c := 103) Try.underlying40 rfl rfl rfl (by first | exact single_self _ _ | exact pset_self _ _ _ | assumption) rfl) rfl ?_
      refine RL.q (Yld.move rfl) rfl ?_
      refine RL.q (Yld.indexRow Try.underlying40 sz82 rfl rfl (by first | assumption | exact Own.sl (by assumption)) (by first | rfl | omega | (simp; done) | (simp; omega)) (by omega) (by first | omega | (simp; done) | (simp; omega))) rfl ?_
      refine RL.q (by first | exact Yld.loadRow (cl := 1) Try.underlying82 rfl sz82 rfl rfl (by first | assumption | exact Own.sl (by assumption)) (by assumption) | exact Yld.loadRow (cl := 103) Try.underlying82 rfl sz82 rfl rfl (by first | assumption | exact Own.sl (by assumption)) (by assumption) | exact Yld.loadRow (cl := 109) Try.underlying82 rfl sz82 rfl rfl (by first | assumption | exact Own.sl (by assumption)) (by assumption)) rfl ?_
      refine RL.e (Eff.buildSlice 137 Try.underlying40 sz82 zc82 rfl rfl (.cons rfl rfl .nil) rfl) rfl ?_
      rintro _ _ ⟨b37, rfl, rfl⟩
      refine RL.e (Eff.appendE (tc := 109) (sc := 137) En.c Try.underlying40 el82 rfl rfl rfl rfl hO rfl (en_single rfl) rfl (fun a _ => a.c_one) (by decide) (by first | (simp; done) | (simp; omega)) (by first | (simp [maxLen]; done) | (simp [maxLen]; omega))) rfl ?_
      rintro _ _ ⟨Ha, pa, ca, rfl, hOa, rfl⟩
      refine RL.q (Yld.assign rfl) rfl ?_
      refine RL.nil ?_
      refine N.block_normal ?_
      refine N.next ?_
      refine W.keep (.cons (k := 1) rfl (.cons (k := 2) rfl (.cons (k := 3) rfl (.cons (k := 7) rfl (.cons (k := 8) rfl .nil))))) (.cons (k := 0) rfl (.cons (k := 1) rfl (.cons (k := 103) rfl (.cons (k := 109) rfl (.cons (k := 137) rfl .nil))))) ?_
      refine W.region ?_
      refine RL.q (Yld.move rfl) rfl ?_
      refine RL.q (Yld.bin rfl rfl (by first | exact BinV.add (by omega) (by omega) | exact BinV.addW)) rfl ?_
      refine RL.q (Yld.assign rfl) rfl ?_
      refine RL.nil ?_
      exact N.famK ⟨x.i + 1, Ha, pa, ca, x.s ++ [e]⟩ ⟨⟨by dsimp only; omega, hOa, by dsimp only; rw [take_snoc he, if_pos (by omega), hs], by dsimp only; omega, by dsimp only; omega⟩, by dsimp only; omega⟩ (.as rfl (by first | rfl | (simp; done) | (congr 1; simp; done) | (congr 1; omega)) (.as rfl (by first | rfl | (simp; done) | (congr 1; simp; done) | (congr 1; omega)) .nil)) (.cons rfl (.cons rfl (.cons rfl .nil))) (.cons rfl .nil) (.cons rfl (.cons rfl (.cons rfl .nil)))
    ·
      refine W.skip ?_
      refine N.block_normal ?_
      refine N.next ?_
      refine W.region ?_
      refine RL.q (Yld.move rfl) rfl ?_
      refine RL.q (Yld.bin rfl rfl (by first | exact BinV.add (by omega) (by omega) | exact BinV.addW)) rfl ?_
      refine RL.q (Yld.assign rfl) rfl ?_
      refine RL.nil ?_
      exact N.famK ⟨x.i + 1, x.H, x.p, x.c, x.s⟩ ⟨⟨by dsimp only; omega, hO, by dsimp only; rw [take_snoc he, if_neg (by omega)]; exact hs, by dsimp only; omega, by dsimp only; omega⟩, by dsimp only; omega⟩ (.as rfl (by first | rfl | (simp; done) | (congr 1; simp; done) | (congr 1; omega)) (.as rfl (by first | rfl | (simp; done) | (congr 1; simp; done) | (congr 1; omega)) .nil)) (.cons rfl (.cons rfl (.cons rfl .nil))) (.cons rfl .nil) (.cons rfl (.cons rfl (.cons rfl .nil)))
  ·
    have hend : x.i = g.es.length ∨ m ≤ ((g.es.take x.i).drop (g.at i)).length := by rw [← hs]; omega
    have hfr := Lg.fr_ref hi hI1 hI2 hend
    refine W.exit ?_
    refine N.then_exit ?_
    refine N.then_exit ?_
    refine N.block_eq ?_
    refine N.next ?_
    refine W.keep (.cons (k := 7) rfl .nil) (.cons (k := 0) rfl (.cons (k := 1) rfl (.cons (k := 103) rfl (.cons (k := 109) rfl .nil)))) ?_
    refine W.seq ?_
    refine W.region ?_
    refine RL.q (Yld.move rfl) rfl ?_
    refine RL.q (Yld.assign rfl) rfl ?_
    refine RL.nil ?_
    refine N.next ?_
    refine W.ret ?_
    exact N.retBy [1, 109] (.cons (.tmp rfl) .nil) rfl rfl rfl rfl ⟨x.H, x.p, x.c, by rw [← hfr, ← hs]; rfl, by rw [← hfr, ← hs]; exact hO, rfl⟩

set_option maxRecDepth 100000 in
set_option maxHeartbeats 1600000 in
theorem rlappend_ct (g : Lg) (hg : LOK g) (H1 : PH) (p : Option Addr) (c : Nat) (hS : Sl H1 p c 15 (g.es.map En.c)) (hl : g.es.length < 1000) (t cl : Int) (ht : g.last.2 ≤ t) (H3 : PH) (p3 : Option Addr) (c3 : Nat) (hC : Sl H3 p3 c3 13 [cmdC cl]) : Ct Try.prog 50 [.agg [.int .i64 g.ix, .int .i64 g.tm, .slice p g.es.length c].toArray, .int .i64 t, .slice p3 1 c3] [H1, H3] (fun v Hs => ∃ H' p' c' Hr, (∃ pr cr, v = .tuple [.agg [.int .i64 (g.put t cl).ix, .int .i64 (g.put t cl).tm, .slice p' (g.put t cl).es.length c'].toArray, .slice pr 1 cr].toArray) ∧ Own H' p' c' 82 15 ((g.put t cl).es.map En.c) ∧ Hs = [H1, H3, H', Hr]) := by
  refine Ct.body Try.func50 rfl Try.ntmps50 rfl ?_
  intro E F
  have hmx := hS.len_le
  simp only [List.length_map, maxLen] at hmx
  obtain ⟨g0, g1, g2, g3⟩ := hg
  have hg : LOK g := ⟨g0, g1, g2, g3⟩
  have hli := Lg.last_ix hg
  refine W.seq ?_
  refine W.region ?_
  refine RL.e (Eff.box 103 _ rfl rfl) rfl ?_
  rintro _ _ ⟨b3, rfl, rfl⟩
  refine RL.e (Eff.alloc 106 zc42) rfl ?_
  rintro _ _ ⟨b6, rfl, rfl⟩
  refine RL.q (Yld.assign rfl) rfl ?_
  refine RL.nil ?_
  refine N.next ?_
  refine W.seq ?_
  refine W.region ?_
  refine RL.q (Yld.loadW (c := 103) Try.underlying42 rfl sz42 rfl rfl (by first | exact single_self _ _ | exact pset_self _ _ _ | assumption) rfl) rfl ?_
  refine RL.e (Eff.call ent16 [1] [1] (.cons rfl .nil) (rllast_ct g hg _ _ _ hS) rfl rfl rfl rfl (by rintro _ _ ⟨_, rfl⟩; rfl)) rfl ?_
  rintro _ _ ⟨_, ⟨rfl, rfl⟩, rfl⟩
  refine RL.q (Yld.move rfl) rfl ?_
  refine RL.q (Yld.extract rfl rfl) rfl ?_
  refine RL.q (Yld.extract rfl rfl) rfl ?_
  refine RL.q (Yld.assign rfl) rfl ?_
  refine RL.q (Yld.assign rfl) rfl ?_
  refine RL.nil ?_
  refine N.next ?_
  refine W.keep (.cons (k := 1) rfl (.cons (k := 2) rfl (.cons (k := 3) rfl (.cons (k := 6) rfl (.cons (k := 8) rfl (.cons (k := 9) rfl .nil)))))) (.cons (k := 0) rfl (.cons (k := 1) rfl (.cons (k := 2) rfl (.cons (k := 103) rfl (.cons (k := 106) rfl .nil))))) ?_
  refine W.seq ?_
  refine W.seq ?_
  refine W.region ?_
  refine RL.q (Yld.move rfl) rfl ?_
  refine RL.q (Yld.move rfl) rfl ?_
  refine RL.q (Yld.bin rfl rfl BinV.lss) rfl ?_
  refine RL.nil ?_
  refine N.next ?_
  first | (refine W.as (t := 19) rfl (boolF (by first | assumption | omega | (simp; done))) ?_; refine W.condF rfl ?_) | refine W.condF rfl ?_
  refine W.skip ?_
  refine N.next ?_
  refine W.keep (.cons (k := 1) rfl (.cons (k := 2) rfl (.cons (k := 3) rfl (.cons (k := 6) rfl (.cons (k := 8) rfl .nil))))) (.cons (k := 0) rfl (.cons (k := 1) rfl (.cons (k := 2) rfl (.cons (k := 103) rfl (.cons (k := 106) rfl .nil))))) ?_
  refine W.seq ?_
  refine W.region ?_
  refine RL.e (Eff.buildSlice 121 Try.underlying40 sz82 zc82 rfl rfl .nil rfl) rfl ?_
  rintro _ _ ⟨b21, rfl, rfl⟩
  refine RL.q (Yld.assign rfl) rfl ?_
  refine RL.nil ?_
  refine N.next ?_
  refine W.seq ?_
  refine W.seq ?_
  refine W.region ?_
  refine RL.q (Yld.assign rfl) rfl ?_
  refine RL.nil ?_
  refine N.next ?_
  refine W.block ?_
  refine W.loopK (ι := EI) (fun x => (x.i ≤ 1 ∧ Own x.H x.p x.c 82 15 (([⟨g.last.1 + 1, t, cl⟩].take x.i).map En.c))) (fun x => [(10, .slice x.p ([(⟨g.last.1 + 1, t, cl⟩ : En)].take x.i).length x.c), (11, .int .i64 (x.i : Nat))]) (fun x => [(121, x.H)]) (fun x => 1 - x.i) (.cons (k := 1) rfl (.cons (k := 2) rfl (.cons (k := 3) rfl (.cons (k := 6) rfl (.cons (k := 8) rfl .nil))))) (.cons (k := 0) rfl (.cons (k := 1) rfl (.cons (k := 2) rfl (.cons (k := 103) rfl (.cons (k := 106) rfl .nil))))) ⟨0, single b21 (.cells [].toArray 82 (0, 0)), some ⟨b21, 0, none⟩, 0⟩ ?_ ?_ ?_ ?_
  · exact ⟨Nat.zero_le _, en_none rfl⟩
  · exact (.as rfl (by first | rfl | (simp; done) | (congr 1; simp; done) | (congr 1; omega)) (.as rfl (by first | rfl | (simp; done) | (congr 1; simp; done) | (congr 1; omega)) .nil))
  · exact (.cons rfl .nil)
  rintro x ⟨hi, hO2⟩
  refine W.keep (.cons (k := 10) rfl (.cons (k := 11) rfl (.cons (k := 1) rfl (.cons (k := 2) rfl (.cons (k := 3) rfl (.cons (k := 6) rfl (.cons (k := 8) rfl .nil))))))) (.cons (k := 121) rfl (.cons (k := 0) rfl (.cons (k := 1) rfl (.cons (k := 2) rfl (.cons (k := 103) rfl (.cons (k := 106) rfl .nil)))))) ?_
  refine W.seq ?_
  refine W.seq ?_
  refine W.region ?_
  refine RL.q (Yld.move rfl) rfl ?_
  refine RL.q (Yld.move rfl) rfl ?_
  refine RL.q (Yld.lenSl Try.underlying101 rfl) rfl ?_
  refine RL.q (Yld.bin rfl rfl BinV.lss) rfl ?_
  refine RL.nil ?_
  refine N.next ?_
  first | refine W.condD rfl (fun hc25 => ?_) (fun hc25 => ?_) | (refine W.cond rfl (fun hc25 => ?_) (fun hc25 => ?_) <;> try simp only [Bool.or_eq_true, Bool.and_eq_true, Bool.not_eq_true', Bool.not_eq_false', decide_eq_true_eq, Bool.or_eq_false_iff, Bool.and_eq_false_iff, decide_eq_false_iff_not, beq_iff_eq, beq_eq_false_iff_ne, ne_eq, Decidable.not_not] at hc25)
  ·
    obtain ⟨xi, xH, xp, xc⟩ := x
    dsimp only at hi hO2 hc25 ⊢
    obtain rfl : xi = 0 := by omega
    have hlc : [cmdC cl][0]? = some [.int .i64 0, .int .i64 cl, .int .i64 0, .string .empty, .int .i64 0, .int .i64 0, .int .i64 0, .int .i64 0, .slice none 0 0, .slice none 0 0, .slice none 0 0, .slice none 0 0, .slice none 0 0] := rfl
    refine W.skip ?_
    refine N.next ?_
    refine W.keep (.cons (k := 1) rfl (.cons (k := 2) rfl (.cons (k := 3) rfl (.cons (k := 6) rfl (.cons (k := 8) rfl (.cons (k := 10) rfl (.cons (k := 11) rfl .nil))))))) (.cons (k := 0) rfl (.cons (k := 1) rfl (.cons (k := 2) rfl (.cons (k := 103) rfl (.cons (k := 106) rfl (.cons (k := 121) rfl .nil)))))) ?_
    refine W.seq ?_
    refine W.block ?_
    refine W.region ?_
    refine RL.q (Yld.move rfl) rfl ?_
    refine RL.q (Yld.move rfl) rfl ?_
    refine RL.q (Yld.bin rfl rfl (by first | exact BinV.add (by omega) (by omega) | exact BinV.addW)) rfl ?_
    refine RL.q (Yld.move rfl) rfl ?_
    refine RL.q (Yld.bin rfl rfl (by first | exact BinV.add (by omega) (by omega) | exact BinV.addW)) rfl ?_
    refine RL.q (Yld.move rfl) rfl ?_
    refine RL.q (Yld.move rfl) rfl ?_
    refine RL.q (Yld.move rfl) rfl ?_
    refine RL.q (Yld.indexRow Try.underlying101 sz80 rfl rfl (by first | assumption | exact Own.sl (by assumption)) (by first | rfl | omega | (simp; done) | (simp; omega)) (by omega) (by first | omega | (simp; done) | (simp; omega))) rfl ?_
    refine RL.q (by first | exact Yld.loadRow (cl := 1) Try.underlying80 rfl sz80 rfl rfl (by first | assumption | exact Own.sl (by assumption)) (by assumption) | exact Yld.loadRow (cl := 2) Try.underlying80 rfl sz80 rfl rfl (by first | assumption | exact Own.sl (by assumption)) (by assumption) | exact Yld.loadRow (cl := 103) Try.underlying80 rfl sz80 rfl rfl (by first | assumption | exact Own.sl (by assumption)) (by assumption) | exact Yld.loadRow (cl := 106) Try.underlying80 rfl sz80 rfl rfl (by first | assumption | exact Own.sl (by assumption)) (by assumption) | exact Yld.loadRow (cl := 121) Try.underlying80 rfl sz80 rfl rfl (by first | assumption | exact Own.sl (by assumption)) (by assumption)) rfl ?_
    refine RL.q (Yld.buildP lay82 (.cons rfl rfl (.cons rfl rfl (.cons rfl rfl .nil))) rfl) rfl ?_
    refine RL.e (Eff.buildSlice 139 Try.underlying40 sz82 zc82 rfl rfl (.cons rfl rfl .nil) rfl) rfl ?_
    rintro _ _ ⟨b39, rfl, rfl⟩
    refine RL.e (Eff.appendE (tc := 121) (sc := 139) (ms := [⟨g.last.1 + 1, t, cl⟩]) En.c Try.underlying40 el82 rfl rfl rfl rfl hO2 rfl (en_single (by rw [show g.last.1 + 1 + ((0 : Nat) : Int) = g.last.1 + 1 by omega]; rfl)) rfl (fun a _ => a.c_one) (by decide) (by first | (simp; done) | (simp; omega)) (by first | (simp [maxLen]; done) | (simp [maxLen]; omega))) rfl ?_
    rintro _ _ ⟨Ha, pa, ca, rfl, hOa, rfl⟩
    refine RL.q (Yld.assign rfl) rfl ?_
    refine RL.nil ?_
    refine N.block_normal ?_
    refine N.next ?_
    refine W.keep (.cons (k := 1) rfl (.cons (k := 2) rfl (.cons (k := 3) rfl (.cons (k := 6) rfl (.cons (k := 8) rfl (.cons (k := 10) rfl (.cons (k := 11) rfl .nil))))))) (.cons (k := 0) rfl (.cons (k := 1) rfl (.cons (k := 2) rfl (.cons (k := 103) rfl (.cons (k := 106) rfl (.cons (k := 121) rfl (.cons (k := 139) rfl .nil))))))) ?_
    refine W.region ?_
    refine RL.q (Yld.move rfl) rfl ?_
    refine RL.q (Yld.bin rfl rfl (by first | exact BinV.add (by omega) (by omega) | exact BinV.addW)) rfl ?_
    refine RL.q (Yld.assign rfl) rfl ?_
    refine RL.nil ?_
    exact N.famK ⟨1, Ha, pa, ca⟩ ⟨⟨Nat.le_refl _, hOa⟩, by dsimp only; omega⟩ (.as rfl (by first | rfl | (simp; done) | (congr 1; simp; done) | (congr 1; omega)) (.as rfl (by first | rfl | (simp; done) | (congr 1; simp; done) | (congr 1; omega)) .nil)) (.cons rfl (.cons rfl (.cons rfl (.cons rfl (.cons rfl .nil))))) (.cons rfl .nil) (.cons rfl (.cons rfl (.cons rfl (.cons rfl (.cons rfl .nil)))))
  ·
    obtain ⟨xi, xH, xp, xc⟩ := x
    dsimp only at hi hO2 hc25 ⊢
    obtain rfl : xi = 1 := by omega
    have hO1 : Own xH xp xc 82 15 ([⟨g.last.1 + 1, t, cl⟩].map En.c) := hO2
    refine W.exit ?_
    refine N.then_exit ?_
    refine N.then_exit ?_
    refine N.block_eq ?_
    refine N.next ?_
    refine W.keep (.cons (k := 3) rfl (.cons (k := 6) rfl (.cons (k := 10) rfl .nil))) (.cons (k := 0) rfl (.cons (k := 1) rfl (.cons (k := 2) rfl (.cons (k := 103) rfl (.cons (k := 106) rfl (.cons (k := 121) rfl .nil)))))) ?_
    refine W.seq ?_
    refine W.region ?_
    refine RL.e (Eff.buildSlice 141 Try.underlying40 sz82 zc82 rfl rfl .nil rfl) rfl ?_
    rintro _ _ ⟨b41, rfl, rfl⟩
    refine RL.q (Yld.fieldAddr fo42_2 rfl) rfl ?_
    refine RL.q (Yld.load1 (c := 103) Try.underlying40 rfl rfl rfl (by first | exact single_self _ _ | exact pset_self _ _ _ | assumption) rfl) rfl ?_
    refine RL.e (Eff.appendE (tc := 141) (sc := 1) En.c Try.underlying40 el82 rfl rfl rfl rfl (en_none rfl) rfl hS rfl (fun a _ => a.c_one) (by decide) (by first | (simp; done) | (simp; omega)) (by first | (simp [maxLen]; done) | (simp [maxLen]; omega))) rfl ?_
    rintro _ _ ⟨Hb, pb, cb, rfl, hOb, rfl⟩
    refine RL.q (Yld.move rfl) rfl ?_
    refine RL.e (Eff.appendE (tc := 141) (sc := 121) En.c Try.underlying40 el82 rfl rfl rfl rfl hOb rfl hO1.sl rfl (fun a _ => a.c_one) (by decide) (by first | (simp; done) | (simp; omega)) (by first | (simp [maxLen]; done) | (simp [maxLen]; omega))) rfl ?_
    rintro _ _ ⟨Hd, pd, cd, rfl, hOd, rfl⟩
    refine RL.q (Yld.fieldAddr fo42_2 rfl) rfl ?_
    refine RL.e0 (Eff.storeS (c := 103) _ sz40 rfl rfl rfl rfl rfl rfl rfl (by (try simp only [putAt, List.take, List.drop, List.nil_append, List.cons_append, List.append_nil, List.length_cons, List.length_nil, Nat.add_zero, Nat.zero_add, Nat.reduceAdd]); rfl)) ?_
    rintro _ _ rfl
    refine RL.nil ?_
    refine N.next ?_
    refine W.keep (.cons (k := 3) rfl (.cons (k := 6) rfl (.cons (k := 10) rfl .nil))) (.cons (k := 0) rfl (.cons (k := 1) rfl (.cons (k := 2) rfl (.cons (k := 103) rfl (.cons (k := 106) rfl (.cons (k := 121) rfl (.cons (k := 141) rfl .nil))))))) ?_
    refine W.seq ?_
    refine W.region ?_
    refine RL.q (Yld.loadW (c := 103) Try.underlying42 rfl sz42 rfl rfl (by first | exact single_self _ _ | exact pset_self _ _ _ | assumption) rfl) rfl ?_
    refine RL.q (Yld.move rfl) rfl ?_
    refine RL.e0 (Eff.storeS (c := 106) _ sz42 rfl rfl rfl rfl rfl rfl rfl (by (try simp only [putAt, List.take, List.drop, List.nil_append, List.cons_append, List.append_nil, List.length_cons, List.length_nil, Nat.add_zero, Nat.zero_add, Nat.reduceAdd]); rfl)) ?_
    rintro _ _ rfl
    refine RL.q (Yld.assign rfl) rfl ?_
    refine RL.nil ?_
    refine N.next ?_
    refine W.keep (.cons (k := 6) rfl (.cons (k := 7) rfl .nil)) (.cons (k := 0) rfl (.cons (k := 1) rfl (.cons (k := 2) rfl (.cons (k := 103) rfl (.cons (k := 106) rfl (.cons (k := 121) rfl (.cons (k := 141) rfl .nil))))))) ?_
    refine W.ret ?_
    exact N.retBy [1, 2, 141, 121] (.cons (by first | exact .cell (c := 106) rfl rfl (fun w hs => run_loadVarA Try.underlying42 rfl sz42 rfl (fun j u hj => by rw [Nat.zero_add, PH.sub.cell hs (by first | exact single_self _ _ | exact pset_self _ _ _ | assumption)]; exact hj))) (.cons (.tmp rfl) .nil)) rfl rfl rfl rfl ⟨Hd, pd, cd, xH, ⟨_, _, rfl⟩, hOd, rfl⟩

end Go.Proofs.Ytdkefpnebmmhlaa
