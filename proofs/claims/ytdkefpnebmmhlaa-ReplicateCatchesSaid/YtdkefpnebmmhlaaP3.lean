/- Contracts of package replog. Written by program (walk2.py). -/
import Derived.Test.YtdkefpnebmmhlaaP2
import Derived.Test.YtdkefpnebmmhlaaRPureL
import Derived.Test.YtdkefpnebmmhlaaSlSame
namespace Go.Proofs.Ytdkefpnebmmhlaa
open SL Cfg Rep
set_option linter.unusedVariables false
set_option linter.unusedSimpArgs false
theorem sz82 : sz Try.prog 82 15 := (by kernel_rfl : (Try.prog.info? 82).map (·.size) = some 15)
theorem zc82 : zc Try.prog 82 [.int .i64 0, .int .i64 0, .int .i64 0, .int .i64 0, .int .i64 0, .string .empty, .int .i64 0, .int .i64 0, .int .i64 0, .int .i64 0, .slice none 0 0, .slice none 0 0, .slice none 0 0, .slice none 0 0, .slice none 0 0] := (by kernel_rfl : ((Try.prog.info? 82).bind (·.zero)).map (fun v => v.cells.toList) = some [.int .i64 0, .int .i64 0, .int .i64 0, .int .i64 0, .int .i64 0, .string .empty, .int .i64 0, .int .i64 0, .int .i64 0, .int .i64 0, .slice none 0 0, .slice none 0 0, .slice none 0 0, .slice none 0 0, .slice none 0 0])
theorem el82 : el Try.prog 82 15 208 := .mk (by kernel_rfl)
theorem ent88 : Ent Try.prog 88 := ⟨_, _, Try.func88, by kernel_rfl, rfl⟩
theorem fo82_2 : fieldOff Try.prog 82 2 = some 2 := by kernel_rfl
theorem fo80_6 : fieldOff Try.prog 80 6 = some 6 := by kernel_rfl
theorem fo78_2 : fieldOff Try.prog 78 2 = some 2 := by kernel_rfl
theorem fo78_3 : fieldOff Try.prog 78 3 = some 3 := by kernel_rfl
theorem ent79 : Ent Try.prog 79 := ⟨_, _, Try.func79, by kernel_rfl, rfl⟩
theorem fo80_7 : fieldOff Try.prog 80 7 = some 10 := by kernel_rfl
theorem lay112 : layS Try.prog 112 = some ([.int .i64 0, .int .i64 0, .slice none 0 0], [(0, 1), (1, 1), (2, 1)]) := by kernel_rfl
theorem fo112_0 : fieldOff Try.prog 112 0 = some 0 := by kernel_rfl
theorem fo112_1 : fieldOff Try.prog 112 1 = some 1 := by kernel_rfl
theorem fo112_2 : fieldOff Try.prog 112 2 = some 2 := by kernel_rfl
theorem fo82_0 : fieldOff Try.prog 82 0 = some 0 := by kernel_rfl
theorem fo82_1 : fieldOff Try.prog 82 1 = some 1 := by kernel_rfl
theorem ent67 : Ent Try.prog 67 := ⟨_, _, Try.func67, by kernel_rfl, rfl⟩
theorem ent37 : Ent Try.prog 37 := ⟨_, _, Try.func37, by kernel_rfl, rfl⟩
theorem sz80 : sz Try.prog 80 13 := (by kernel_rfl : (Try.prog.info? 80).map (·.size) = some 13)
theorem zc80 : zc Try.prog 80 [.int .i64 0, .int .i64 0, .int .i64 0, .string .empty, .int .i64 0, .int .i64 0, .int .i64 0, .int .i64 0, .slice none 0 0, .slice none 0 0, .slice none 0 0, .slice none 0 0, .slice none 0 0] := (by kernel_rfl : ((Try.prog.info? 80).bind (·.zero)).map (fun v => v.cells.toList) = some [.int .i64 0, .int .i64 0, .int .i64 0, .string .empty, .int .i64 0, .int .i64 0, .int .i64 0, .int .i64 0, .slice none 0 0, .slice none 0 0, .slice none 0 0, .slice none 0 0, .slice none 0 0])
theorem lay82 : layS Try.prog 82 = some ([.int .i64 0, .int .i64 0, .int .i64 0, .int .i64 0, .int .i64 0, .string .empty, .int .i64 0, .int .i64 0, .int .i64 0, .int .i64 0, .slice none 0 0, .slice none 0 0, .slice none 0 0, .slice none 0 0, .slice none 0 0], [(0, 1), (1, 1), (2, 13)]) := by kernel_rfl
theorem sz40 : sz Try.prog 40 1 := (by kernel_rfl : (Try.prog.info? 40).map (·.size) = some 1)
def Rep.En.c (e : En) : List Value := [.int .i64 e.ix, .int .i64 e.tm, .int .i64 0, .int .i64 e.cl, .int .i64 0, .string .empty, .int .i64 0, .int .i64 0, .int .i64 0, .int .i64 0, .slice none 0 0, .slice none 0 0, .slice none 0 0, .slice none 0 0, .slice none 0 0]
def Rep.cmdC (c : Int) : List Value := [.int .i64 0, .int .i64 c, .int .i64 0, .string .empty, .int .i64 0, .int .i64 0, .int .i64 0, .int .i64 0, .slice none 0 0, .slice none 0 0, .slice none 0 0, .slice none 0 0, .slice none 0 0]
theorem Rep.En.c_one (e : En) : ∀ v ∈ e.c, v.oneCell' = true := by simp [En.c, Value.oneCell']
theorem Rep.en_none {b e : Nat} {cs : List Value} (hcs : cs = []) : Own (single b (.cells cs.toArray e (0, 0))) (some ⟨b, 0, none⟩) 0 e 15 (([] : List En).map En.c) := Own.none0 hcs
theorem Rep.en_single {b e : Nat} {x : En} {cs : List Value} (hcs : cs = x.c) : Sl (single b (.cells cs.toArray e (0, 0))) (some ⟨b, 0, none⟩) 1 15 ([x].map En.c) := (Own.one (l := x.c) rfl x.c_one hcs).sl
structure Rep.EI where
  i : Nat
  H : PH
  p : Option Addr
  c : Nat

set_option maxRecDepth 100000 in
set_option maxHeartbeats 400000 in
theorem cloneNil_ct  : Ct Try.prog 79 [.slice none 0 0] [] (fun v Hs => v = .slice none 0 0 ∧ Hs = []) := by
  refine Ct.body Try.func79 rfl Try.ntmps79 rfl ?_
  intro E F
  refine W.seq ?_
  refine W.region ?_
  refine RL.q (Yld.assign rfl) rfl ?_
  refine RL.nil ?_
  refine N.next ?_
  refine W.seq ?_
  refine W.seq ?_
  refine W.region ?_
  refine RL.q (Yld.move rfl) rfl ?_
  refine RL.q (Yld.bin rfl rfl (BinV.eqlSN Try.underlying22)) rfl ?_
  refine RL.nil ?_
  refine N.next ?_
  first | (refine W.as (t := 4) rfl (boolT (by first | assumption | omega | (simp; done))) ?_; refine W.condT rfl ?_) | refine W.condT rfl ?_
  refine W.seq ?_
  refine W.region ?_
  refine RL.q (Yld.assign rfl) rfl ?_
  refine RL.nil ?_
  refine N.next ?_
  refine W.ret ?_
  refine N.then_ret ?_
  exact N.retBy [] (.cons (.tmp rfl) .nil) rfl rfl rfl rfl ⟨rfl, rfl⟩

set_option maxRecDepth 100000 in
set_option maxHeartbeats 400000 in
theorem cloneE_ct (l : List En) (H1 : PH) (p : Option Addr) (c : Nat) (hS : Sl H1 p c 15 (l.map En.c)) (hb : l.length ≤ 1000) : Ct Try.prog 88 [.slice p l.length c] [H1] (fun v Hs => ∃ H' p' c', v = .slice p' l.length c' ∧ Own H' p' c' 82 15 (l.map En.c) ∧ Hs = [H1, H']) := by
  refine Ct.body Try.func88 rfl Try.ntmps88 rfl ?_
  intro E F
  have hmx := hS.len_le
  simp only [List.length_map, maxLen] at hmx
  refine W.seq ?_
  refine W.imp (Imp.empty _ 30) ?_
  refine W.region ?_
  refine RL.q (Yld.assign rfl) rfl ?_
  refine RL.nil ?_
  refine N.next ?_
  refine W.seq ?_
  refine W.seq ?_
  refine W.region ?_
  refine RL.q (Yld.move rfl) rfl ?_
  refine RL.q (Yld.bin rfl rfl (BinV.eqlSN Try.underlying40)) rfl ?_
  refine RL.nil ?_
  refine N.next ?_
  refine W.cond rfl (fun hc4 => ?_) (fun hc4 => ?_)
  ·
    obtain rfl : p = none := by cases p with | none => rfl | some a => cases hc4
    obtain ⟨hl0, _⟩ := hS
    obtain rfl : l = [] := List.map_eq_nil_iff.1 hl0
    refine W.seq ?_
    refine W.region ?_
    refine RL.q (Yld.assign rfl) rfl ?_
    refine RL.nil ?_
    refine N.next ?_
    refine W.ret ?_
    refine N.then_ret ?_
    exact N.retBy [1, 30] (.cons (.tmp rfl) .nil) rfl rfl rfl rfl ⟨emp, none, 0, rfl, Own.nil _ _, rfl⟩
  ·
    refine W.skip ?_
    refine N.next ?_
    refine W.seq ?_
    refine W.region ?_
    refine RL.e (Eff.buildSlice 105 Try.underlying40 sz82 zc82 rfl rfl .nil rfl) rfl ?_
    rintro _ _ ⟨b5, rfl, rfl⟩
    refine RL.q (Yld.move rfl) rfl ?_
    refine RL.e (Eff.appendE (tc := 105) (sc := 1) En.c Try.underlying40 el82 rfl rfl rfl rfl (en_none rfl) rfl hS rfl (fun a _ => a.c_one) (by decide) (by first | (simp; done) | (simp; omega)) (by first | (simp [maxLen]; done) | (simp [maxLen]; omega))) rfl ?_
    rintro _ _ ⟨Ha, pa, ca, rfl, hOa, rfl⟩
    refine RL.q (Yld.assign rfl) rfl ?_
    refine RL.nil ?_
    refine N.next ?_
    refine W.keep (.cons (k := 2) rfl .nil) (.cons (k := 0) rfl (.cons (k := 1) rfl (.cons (k := 30) rfl (.cons (k := 105) rfl .nil)))) ?_
    refine W.ret ?_
    exact N.retBy [1, 105] (.cons (.tmp rfl) .nil) rfl rfl rfl rfl ⟨Ha, pa, ca, rfl, hOa, rfl⟩

set_option maxRecDepth 100000 in
set_option maxHeartbeats 1600000 in
theorem copied_ct (l : List En) (H1 : PH) (p : Option Addr) (c : Nat) (hS : Sl H1 p c 15 (l.map En.c)) (hb : l.length ≤ 1000) : Ct Try.prog 67 [.slice p l.length c] [H1] (fun v Hs => ∃ H' p' c', v = .slice p' l.length c' ∧ Own H' p' c' 82 15 (l.map En.c) ∧ Hs = [H1, H']) := by
  refine Ct.body Try.func67 rfl Try.ntmps67 rfl ?_
  intro E F
  have hmx := hS.len_le
  simp only [List.length_map, maxLen] at hmx
  refine W.seq ?_
  refine W.region ?_
  refine RL.q (Yld.assign rfl) rfl ?_
  refine RL.nil ?_
  refine N.next ?_
  refine W.seq ?_
  refine W.region ?_
  refine RL.q (Yld.move rfl) rfl ?_
  refine RL.e (Eff.call ent88 [1] [1, 130] (.cons rfl .nil) (cloneE_ct l _ _ _ hS hb) rfl rfl rfl rfl (by rintro _ _ ⟨_, _, _, _, _, rfl⟩; rfl)) rfl ?_
  rintro _ _ ⟨_, ⟨Ha, pa, ca, rfl, hOa, rfl⟩, rfl⟩
  refine RL.q (Yld.assign rfl) rfl ?_
  refine RL.nil ?_
  refine N.next ?_
  refine W.keep (.cons (k := 3) rfl .nil) (.cons (k := 0) rfl (.cons (k := 1) rfl (.cons (k := 130) rfl .nil))) ?_
  refine W.seq ?_
  refine W.seq ?_
  refine W.region ?_
  refine RL.q (Yld.move rfl) rfl ?_
  refine RL.q (Yld.lenSl Try.underlying40 rfl) rfl ?_
  refine RL.q (Yld.move rfl) rfl ?_
  refine RL.nil ?_
  refine N.next ?_
  refine W.block ?_
  refine W.loopK (ι := EI) (fun x => (x.i ≤ l.length ∧ Own x.H pa ca 82 15 (l.map En.c))) (fun x => [(10, .int .i64 (x.i : Nat))]) (fun x => [(130, x.H)]) (fun x => l.length - x.i) (.cons (k := 3) rfl (.cons (k := 9) rfl .nil)) (.cons (k := 0) rfl (.cons (k := 1) rfl .nil)) ⟨0, Ha, none, 0⟩ ?_ ?_ ?_ ?_
  · exact ⟨Nat.zero_le _, hOa⟩
  · exact (.as rfl (by first | rfl | (simp; done) | (congr 1; simp; done) | (congr 1; omega)) .nil)
  · exact (.cons rfl .nil)
  rintro x ⟨hi, hO⟩
  refine W.keep (.cons (k := 10) rfl (.cons (k := 3) rfl (.cons (k := 9) rfl .nil))) (.cons (k := 130) rfl (.cons (k := 0) rfl (.cons (k := 1) rfl .nil))) ?_
  refine W.seq ?_
  refine W.region ?_
  refine RL.q (Yld.bin rfl rfl BinV.lss) rfl ?_
  refine RL.nil ?_
  refine N.next ?_
  refine W.seq ?_
  first | refine W.condD rfl (fun hc11 => ?_) (fun hc11 => ?_) | (refine W.cond rfl (fun hc11 => ?_) (fun hc11 => ?_) <;> try simp only [Bool.or_eq_true, Bool.and_eq_true, Bool.not_eq_true', Bool.not_eq_false', decide_eq_true_eq, Bool.or_eq_false_iff, Bool.and_eq_false_iff, decide_eq_false_iff_not, beq_iff_eq, beq_eq_false_iff_ne, ne_eq, Decidable.not_not] at hc11)
  ·
    obtain ⟨e, he⟩ : ∃ e, l[x.i]? = some e := ⟨_, List.getElem?_eq_getElem (show x.i < l.length by omega)⟩
    have hle : (l.map En.c)[x.i]? = some [.int .i64 e.ix, .int .i64 e.tm, .int .i64 0, .int .i64 e.cl, .int .i64 0, .string .empty, .int .i64 0, .int .i64 0, .int .i64 0, .int .i64 0, .slice none 0 0, .slice none 0 0, .slice none 0 0, .slice none 0 0, .slice none 0 0] := by simp [he, En.c]
    refine W.skip ?_
    refine N.next ?_
    refine W.seq ?_
    refine W.block ?_
    refine W.seq ?_
    refine W.region ?_
    refine RL.q (Yld.move rfl) rfl ?_
    refine RL.q (Yld.assign rfl) rfl ?_
    refine RL.nil ?_
    refine N.next ?_
    refine W.seq ?_
    refine W.region ?_
    refine RL.q (Yld.move rfl) rfl ?_
    refine RL.q (Yld.move rfl) rfl ?_
    refine RL.q (Yld.indexRow Try.underlying40 sz82 rfl rfl (by first | assumption | exact Own.sl (by assumption)) (by first | rfl | omega | (simp; done) | (simp; omega)) (by omega) (by first | omega | (simp; done) | (simp; omega))) rfl ?_
    refine RL.q (Yld.fieldAddr fo82_2 rfl) rfl ?_
    refine RL.q (Yld.assign rfl) rfl ?_
    refine RL.nil ?_
    refine N.next ?_
    refine W.keep (.cons (k := 3) rfl (.cons (k := 5) rfl (.cons (k := 9) rfl (.cons (k := 10) rfl .nil)))) (.cons (k := 0) rfl (.cons (k := 1) rfl (.cons (k := 130) rfl .nil))) ?_
    refine W.seq ?_
    refine W.draw (.q 0 (.q 1 (.q 2 (.q 3 (.q 4 (.q 5 (.q 6 (.q 8 (.q 9 (.q 10 (.q 11 (.q 12 (.one 7 (.one 13 (.q 14 (.q 15 (.q 16 (.one 17 (.q 18 (.q 19 (.q 20 (.one 21 .done)))))))))))))))))))))) (.cons (k := 0) rfl (.cons (k := 1) rfl (.cons (k := 130) rfl .nil))) mix (by kernel_rfl) (by kernel_rfl) ?_
    refine DL.q rfl (Yld.move rfl) rfl ?_
    refine DL.q rfl (Yld.move rfl) rfl ?_
    refine DL.q rfl (Yld.move rfl) rfl ?_
    refine DL.q rfl (Yld.nilP rfl) rfl ?_
    refine DL.q rfl (Yld.fieldAddr fo80_6 rfl) rfl ?_
    refine DL.q rfl (Yld.fieldAddr fo78_2 rfl) rfl ?_
    refine DL.q rfl (by first | exact Yld.loadRowF (cl := 1) (j := 10) Try.underlying22 rfl rfl rfl (by first | assumption | exact Own.sl (by assumption)) (by assumption) rfl | exact Yld.loadRowF (cl := 130) (j := 10) Try.underlying22 rfl rfl rfl (by first | assumption | exact Own.sl (by assumption)) (by assumption) rfl) rfl ?_
    refine DL.q rfl (Yld.move rfl) rfl ?_
    refine DL.q rfl (Yld.nilP rfl) rfl ?_
    refine DL.q rfl (Yld.fieldAddr fo80_6 rfl) rfl ?_
    refine DL.q rfl (Yld.fieldAddr fo78_3 rfl) rfl ?_
    refine DL.q rfl (by first | exact Yld.loadRowF (cl := 1) (j := 11) Try.underlying22 rfl rfl rfl (by first | assumption | exact Own.sl (by assumption)) (by assumption) rfl | exact Yld.loadRowF (cl := 130) (j := 11) Try.underlying22 rfl rfl rfl (by first | assumption | exact Own.sl (by assumption)) (by assumption) rfl) rfl ?_
    refine DL.one rfl (Eff.call ent79 [] [] (.cons rfl .nil) cloneNil_ct rfl rfl rfl rfl (by rintro _ _ ⟨_, rfl⟩; rfl)) rfl (by rintro _ _ ⟨_, ⟨rfl, rfl⟩, rfl⟩; repeat (first | exact .nil | refine .cons rfl ?_)) ?_
    rintro _ _ ⟨_, ⟨rfl, rfl⟩, rfl⟩
    refine DL.one rfl (Eff.call ent79 [] [] (.cons rfl .nil) cloneNil_ct rfl rfl rfl rfl (by rintro _ _ ⟨_, rfl⟩; rfl)) rfl (by rintro _ _ ⟨_, ⟨rfl, rfl⟩, rfl⟩; repeat (first | exact .nil | refine .cons rfl ?_)) ?_
    rintro _ _ ⟨_, ⟨rfl, rfl⟩, rfl⟩
    refine DL.q rfl (Yld.nilP rfl) rfl ?_
    refine DL.q rfl (Yld.fieldAddr fo80_6 rfl) rfl ?_
    refine DL.q rfl (Yld.fieldAddr fo78_2 rfl) rfl ?_
    refine DL.one0 rfl (Eff.storeRowSame (tc := 130) (j := 10) sz22 rfl rfl rfl hO hle rfl rfl rfl rfl rfl) (by rintro _ _ rfl; repeat (first | exact .nil | refine .cons rfl ?_)) ?_
    rintro _ _ rfl
    refine DL.q rfl (Yld.nilP rfl) rfl ?_
    refine DL.q rfl (Yld.fieldAddr fo80_6 rfl) rfl ?_
    refine DL.q rfl (Yld.fieldAddr fo78_3 rfl) rfl ?_
    refine DL.one0 rfl (Eff.storeRowSame (tc := 130) (j := 11) sz22 rfl rfl rfl hO hle rfl rfl rfl rfl rfl) (by rintro _ _ rfl; repeat (first | exact .nil | refine .cons rfl ?_)) ?_
    rintro _ _ rfl
    refine DL.done ?_
    refine N.next ?_
    refine W.keep (.cons (k := 3) rfl (.cons (k := 5) rfl (.cons (k := 9) rfl (.cons (k := 10) rfl .nil)))) (.cons (k := 0) rfl (.cons (k := 1) rfl (.cons (k := 130) rfl .nil))) ?_
    refine W.draw (.q 0 (.q 1 (.q 2 (.q 3 (.q 4 (.q 5 (.q 6 (.q 7 (.q 9 (.q 10 (.q 11 (.q 12 (.q 13 (.q 15 (.q 16 (.q 17 (.q 18 (.q 19 (.one 8 (.one 14 (.one 20 (.q 21 (.q 22 (.q 23 (.one 24 (.q 25 (.q 26 (.q 27 (.one 28 (.q 29 (.q 30 (.q 31 (.one 32 .done))))))))))))))))))))))))))))))))) (.cons (k := 0) rfl (.cons (k := 1) rfl (.cons (k := 130) rfl .nil))) mix (by kernel_rfl) (by kernel_rfl) ?_
    refine DL.q rfl (Yld.move rfl) rfl ?_
    refine DL.q rfl (Yld.move rfl) rfl ?_
    refine DL.q rfl (Yld.move rfl) rfl ?_
    refine DL.q rfl (Yld.move rfl) rfl ?_
    refine DL.q rfl (Yld.nilP rfl) rfl ?_
    refine DL.q rfl (Yld.fieldAddr fo80_7 rfl) rfl ?_
    refine DL.q rfl (Yld.fieldAddr fo55_0 rfl) rfl ?_
    refine DL.q rfl (by first | exact Yld.loadRowF (cl := 1) (j := 12) Try.underlying22 rfl rfl rfl (by first | assumption | exact Own.sl (by assumption)) (by assumption) rfl | exact Yld.loadRowF (cl := 130) (j := 12) Try.underlying22 rfl rfl rfl (by first | assumption | exact Own.sl (by assumption)) (by assumption) rfl) rfl ?_
    refine DL.q rfl (Yld.move rfl) rfl ?_
    refine DL.q rfl (Yld.nilP rfl) rfl ?_
    refine DL.q rfl (Yld.fieldAddr fo80_7 rfl) rfl ?_
    refine DL.q rfl (Yld.fieldAddr fo55_1 rfl) rfl ?_
    refine DL.q rfl (by first | exact Yld.loadRowF (cl := 1) (j := 13) Try.underlying22 rfl rfl rfl (by first | assumption | exact Own.sl (by assumption)) (by assumption) rfl | exact Yld.loadRowF (cl := 130) (j := 13) Try.underlying22 rfl rfl rfl (by first | assumption | exact Own.sl (by assumption)) (by assumption) rfl) rfl ?_
    refine DL.q rfl (Yld.move rfl) rfl ?_
    refine DL.q rfl (Yld.nilP rfl) rfl ?_
    refine DL.q rfl (Yld.fieldAddr fo80_7 rfl) rfl ?_
    refine DL.q rfl (Yld.fieldAddr fo55_2 rfl) rfl ?_
    refine DL.q rfl (by first | exact Yld.loadRowF (cl := 1) (j := 14) Try.underlying22 rfl rfl rfl (by first | assumption | exact Own.sl (by assumption)) (by assumption) rfl | exact Yld.loadRowF (cl := 130) (j := 14) Try.underlying22 rfl rfl rfl (by first | assumption | exact Own.sl (by assumption)) (by assumption) rfl) rfl ?_
    refine DL.one rfl (Eff.call ent79 [] [] (.cons rfl .nil) cloneNil_ct rfl rfl rfl rfl (by rintro _ _ ⟨_, rfl⟩; rfl)) rfl (by rintro _ _ ⟨_, ⟨rfl, rfl⟩, rfl⟩; repeat (first | exact .nil | refine .cons rfl ?_)) ?_
    rintro _ _ ⟨_, ⟨rfl, rfl⟩, rfl⟩
    refine DL.one rfl (Eff.call ent79 [] [] (.cons rfl .nil) cloneNil_ct rfl rfl rfl rfl (by rintro _ _ ⟨_, rfl⟩; rfl)) rfl (by rintro _ _ ⟨_, ⟨rfl, rfl⟩, rfl⟩; repeat (first | exact .nil | refine .cons rfl ?_)) ?_
    rintro _ _ ⟨_, ⟨rfl, rfl⟩, rfl⟩
    refine DL.one rfl (Eff.call ent79 [] [] (.cons rfl .nil) cloneNil_ct rfl rfl rfl rfl (by rintro _ _ ⟨_, rfl⟩; rfl)) rfl (by rintro _ _ ⟨_, ⟨rfl, rfl⟩, rfl⟩; repeat (first | exact .nil | refine .cons rfl ?_)) ?_
    rintro _ _ ⟨_, ⟨rfl, rfl⟩, rfl⟩
    refine DL.q rfl (Yld.nilP rfl) rfl ?_
    refine DL.q rfl (Yld.fieldAddr fo80_7 rfl) rfl ?_
    refine DL.q rfl (Yld.fieldAddr fo55_0 rfl) rfl ?_
    refine DL.one0 rfl (Eff.storeRowSame (tc := 130) (j := 12) sz22 rfl rfl rfl hO hle rfl rfl rfl rfl rfl) (by rintro _ _ rfl; repeat (first | exact .nil | refine .cons rfl ?_)) ?_
    rintro _ _ rfl
    refine DL.q rfl (Yld.nilP rfl) rfl ?_
    refine DL.q rfl (Yld.fieldAddr fo80_7 rfl) rfl ?_
    refine DL.q rfl (Yld.fieldAddr fo55_1 rfl) rfl ?_
    refine DL.one0 rfl (Eff.storeRowSame (tc := 130) (j := 13) sz22 rfl rfl rfl hO hle rfl rfl rfl rfl rfl) (by rintro _ _ rfl; repeat (first | exact .nil | refine .cons rfl ?_)) ?_
    rintro _ _ rfl
    refine DL.q rfl (Yld.nilP rfl) rfl ?_
    refine DL.q rfl (Yld.fieldAddr fo80_7 rfl) rfl ?_
    refine DL.q rfl (Yld.fieldAddr fo55_2 rfl) rfl ?_
    refine DL.one0 rfl (Eff.storeRowSame (tc := 130) (j := 14) sz22 rfl rfl rfl hO hle rfl rfl rfl rfl rfl) (by rintro _ _ rfl; repeat (first | exact .nil | refine .cons rfl ?_)) ?_
    rintro _ _ rfl
    refine DL.done ?_
    refine N.block_normal ?_
    refine N.next ?_
    refine W.keep (.cons (k := 3) rfl (.cons (k := 9) rfl (.cons (k := 10) rfl .nil))) (.cons (k := 0) rfl (.cons (k := 1) rfl (.cons (k := 130) rfl .nil))) ?_
    refine W.region ?_
    refine RL.q (Yld.bin rfl rfl (by first | exact BinV.add (by omega) (by omega) | exact BinV.addW)) rfl ?_
    refine RL.q (Yld.move rfl) rfl ?_
    refine RL.nil ?_
    exact N.famK ⟨x.i + 1, x.H, none, 0⟩ ⟨⟨by dsimp only; omega, hO⟩, by dsimp only; omega⟩ (.as rfl (by first | rfl | (simp; done) | (congr 1; simp; done) | (congr 1; omega)) .nil) (.cons rfl (.cons rfl .nil)) (.cons rfl .nil) (.cons rfl (.cons rfl .nil))
  ·
    refine W.exit ?_
    refine N.then_exit ?_
    refine N.then_exit ?_
    refine N.block_eq ?_
    refine N.next ?_
    refine W.seq ?_
    refine W.region ?_
    refine RL.q (Yld.move rfl) rfl ?_
    refine RL.q (Yld.assign rfl) rfl ?_
    refine RL.nil ?_
    refine N.next ?_
    refine W.keep (.cons (k := 2) rfl .nil) (.cons (k := 0) rfl (.cons (k := 1) rfl (.cons (k := 130) rfl .nil))) ?_
    refine W.ret ?_
    exact N.retBy [1, 130] (.cons (.tmp rfl) .nil) rfl rfl rfl rfl ⟨x.H, pa, ca, rfl, hO, rfl⟩

set_option maxRecDepth 100000 in
set_option maxHeartbeats 400000 in
theorem lnew_ct (i t : Int) : Ct Try.prog 38 [.int .i64 i, .int .i64 t] [] (fun v Hs => ∃ lb, v = .pointer (some ⟨lb, 0, none⟩) ∧ Hs = [single lb (.cells [.int .i64 (max i 0), .int .i64 (max t 0), .slice none 0 0].toArray 112 (0, 0))]) := by
  refine Ct.body Try.func38 rfl Try.ntmps38 rfl ?_
  intro E F
  refine W.seq ?_
  refine W.region ?_
  refine RL.q (Yld.assign rfl) rfl ?_
  refine RL.nil ?_
  refine N.next ?_
  refine W.seq ?_
  refine W.region ?_
  refine RL.q (Yld.move rfl) rfl ?_
  refine RL.q (Yld.max2 rfl rfl) rfl ?_
  refine RL.q (Yld.move rfl) rfl ?_
  refine RL.q (Yld.max2 rfl rfl) rfl ?_
  refine RL.q (Yld.buildP lay112 (.cons rfl rfl (.cons rfl rfl .nil)) rfl) rfl ?_
  refine RL.e (Eff.box 110 _ rfl rfl) rfl ?_
  rintro _ _ ⟨b10, rfl, rfl⟩
  refine RL.q (Yld.assign rfl) rfl ?_
  refine RL.nil ?_
  refine N.next ?_
  refine W.keep (.cons (k := 4) rfl .nil) (.cons (k := 0) rfl (.cons (k := 110) rfl .nil)) ?_
  refine W.ret ?_
  exact N.retBy [110] (.cons (.tmp rfl) .nil) rfl rfl rfl rfl ⟨_, rfl, rfl⟩

set_option maxRecDepth 100000 in
set_option maxHeartbeats 400000 in
theorem lbase_ct (lb : Nat) (g : Lg) (hg : LOK g) (H2 : PH) (p : Option Addr) (c : Nat) (hO : Own H2 p c 82 15 (g.es.map En.c)) : Ct Try.prog 51 [.pointer (some ⟨lb, 0, none⟩)] [single lb (.cells [.int .i64 g.ix, .int .i64 g.tm, .slice p g.es.length c].toArray 112 (0, 0)), H2] (fun v Hs => v = .tuple [.int .i64 g.ix, .int .i64 g.tm].toArray ∧ Hs = [single lb (.cells [.int .i64 g.ix, .int .i64 g.tm, .slice p g.es.length c].toArray 112 (0, 0)), H2]) := by
  refine Ct.body Try.func51 rfl Try.ntmps51 rfl ?_
  intro E F
  have hS := hO.sl
  have hmx := hS.len_le
  simp only [List.length_map, maxLen] at hmx
  obtain ⟨g0, g1, g2, g3⟩ := hg
  have hg : LOK g := ⟨g0, g1, g2, g3⟩
  refine W.seq ?_
  refine W.region ?_
  refine RL.q (Yld.assign rfl) rfl ?_
  refine RL.q (Yld.assign rfl) rfl ?_
  refine RL.nil ?_
  refine N.next ?_
  refine W.seq ?_
  refine W.draw (.q 0 (.q 1 (.q 2 (.q 3 (.q 4 (.q 5 (.q 6 (.q 7 (.q 8 (.q 9 .done)))))))))) (.cons (k := 0) rfl (.cons (k := 1) rfl (.cons (k := 2) rfl .nil))) mix (by kernel_rfl) (by kernel_rfl) ?_
  refine DL.q rfl (Yld.move rfl) rfl ?_
  refine DL.q rfl (Yld.nilP rfl) rfl ?_
  refine DL.q rfl (Yld.fieldAddr fo112_0 rfl) rfl ?_
  refine DL.q rfl (Yld.load1 (c := 1) Try.underlying3 rfl rfl rfl (by first | exact single_self _ _ | exact pset_self _ _ _ | assumption) rfl) rfl ?_
  refine DL.q rfl (Yld.move rfl) rfl ?_
  refine DL.q rfl (Yld.nilP rfl) rfl ?_
  refine DL.q rfl (Yld.fieldAddr fo112_1 rfl) rfl ?_
  refine DL.q rfl (Yld.load1 (c := 1) Try.underlying3 rfl rfl rfl (by first | exact single_self _ _ | exact pset_self _ _ _ | assumption) rfl) rfl ?_
  refine DL.q rfl (Yld.assign rfl) rfl ?_
  refine DL.q rfl (Yld.assign rfl) rfl ?_
  refine DL.done ?_
  refine N.next ?_
  refine W.keep (.cons (k := 2) rfl (.cons (k := 3) rfl .nil)) (.cons (k := 0) rfl (.cons (k := 1) rfl (.cons (k := 2) rfl .nil))) ?_
  refine W.ret ?_
  exact N.retBy [1, 2] (.cons (.tmp rfl) (.cons (.tmp rfl) .nil)) rfl rfl rfl rfl ⟨rfl, rfl⟩

set_option maxRecDepth 100000 in
set_option maxHeartbeats 400000 in
theorem llast_ct (lb : Nat) (g : Lg) (hg : LOK g) (H2 : PH) (p : Option Addr) (c : Nat) (hO : Own H2 p c 82 15 (g.es.map En.c)) : Ct Try.prog 37 [.pointer (some ⟨lb, 0, none⟩)] [single lb (.cells [.int .i64 g.ix, .int .i64 g.tm, .slice p g.es.length c].toArray 112 (0, 0)), H2] (fun v Hs => v = .tuple [.int .i64 g.last.1, .int .i64 g.last.2].toArray ∧ Hs = [single lb (.cells [.int .i64 g.ix, .int .i64 g.tm, .slice p g.es.length c].toArray 112 (0, 0)), H2]) := by
  refine Ct.body Try.func37 rfl Try.ntmps37 rfl ?_
  intro E F
  have hS := hO.sl
  have hmx := hS.len_le
  simp only [List.length_map, maxLen] at hmx
  obtain ⟨g0, g1, g2, g3⟩ := hg
  have hg : LOK g := ⟨g0, g1, g2, g3⟩
  refine W.seq ?_
  refine W.region ?_
  refine RL.q (Yld.assign rfl) rfl ?_
  refine RL.q (Yld.assign rfl) rfl ?_
  refine RL.nil ?_
  refine N.next ?_
  refine W.seq ?_
  refine W.seq ?_
  refine W.region ?_
  refine RL.q (Yld.move rfl) rfl ?_
  refine RL.q (Yld.nilP rfl) rfl ?_
  refine RL.q (Yld.fieldAddr fo112_2 rfl) rfl ?_
  refine RL.q (Yld.load1 (c := 1) Try.underlying40 rfl rfl rfl (by first | exact single_self _ _ | exact pset_self _ _ _ | assumption) rfl) rfl ?_
  refine RL.q (Yld.lenSl Try.underlying40 rfl) rfl ?_
  refine RL.q (Yld.assign rfl) rfl ?_
  refine RL.nil ?_
  refine N.next ?_
  refine W.keep (.cons (k := 0) rfl (.cons (k := 4) rfl .nil)) (.cons (k := 0) rfl (.cons (k := 1) rfl (.cons (k := 2) rfl .nil))) ?_
  refine W.seq ?_
  refine W.region ?_
  refine RL.q (Yld.move rfl) rfl ?_
  refine RL.q (Yld.bin rfl rfl BinV.gtr) rfl ?_
  refine RL.nil ?_
  refine N.next ?_
  first | refine W.condD rfl (fun hc11 => ?_) (fun hc11 => ?_) | (refine W.cond rfl (fun hc11 => ?_) (fun hc11 => ?_) <;> try simp only [Bool.or_eq_true, Bool.and_eq_true, Bool.not_eq_true', Bool.not_eq_false', decide_eq_true_eq, Bool.or_eq_false_iff, Bool.and_eq_false_iff, decide_eq_false_iff_not, beq_iff_eq, beq_eq_false_iff_ne, ne_eq, Decidable.not_not] at hc11)
  ·
    have hn1 : (((g.es.length : Int) - 1).toNat) = g.es.length - 1 := by omega
    obtain ⟨e, he⟩ : ∃ e, g.es[g.es.length - 1]? = some e := ⟨_, List.getElem?_eq_getElem (by omega)⟩
    have hle : (g.es.map En.c)[((g.es.length : Int) - 1).toNat]? = some [.int .i64 e.ix, .int .i64 e.tm, .int .i64 0, .int .i64 e.cl, .int .i64 0, .string .empty, .int .i64 0, .int .i64 0, .int .i64 0, .int .i64 0, .slice none 0 0, .slice none 0 0, .slice none 0 0, .slice none 0 0, .slice none 0 0] := by rw [hn1]; simp [he, En.c]
    have hla : g.last = (e.ix, e.tm) := by unfold Lg.last; rw [he]
    refine W.seq ?_
    refine W.draw (.q 0 (.q 1 (.q 2 (.q 3 (.q 4 (.q 5 (.q 6 (.q 7 (.q 8 (.q 9 (.q 10 (.q 11 (.q 12 (.q 13 (.q 14 (.q 15 (.q 16 (.q 17 (.q 18 (.q 19 .done)))))))))))))))))))) (.cons (k := 0) rfl (.cons (k := 1) rfl (.cons (k := 2) rfl .nil))) mix (by kernel_rfl) (by kernel_rfl) ?_
    refine DL.q rfl (Yld.move rfl) rfl ?_
    refine DL.q rfl (Yld.nilP rfl) rfl ?_
    refine DL.q rfl (Yld.fieldAddr fo112_2 rfl) rfl ?_
    refine DL.q rfl (Yld.load1 (c := 1) Try.underlying40 rfl rfl rfl (by first | exact single_self _ _ | exact pset_self _ _ _ | assumption) rfl) rfl ?_
    refine DL.q rfl (Yld.move rfl) rfl ?_
    refine DL.q rfl (Yld.bin rfl rfl (by first | exact BinV.sub (by omega) (by omega) | exact BinV.subW)) rfl ?_
    refine DL.q rfl (Yld.indexRow Try.underlying40 sz82 rfl rfl (by first | assumption | exact Own.sl (by assumption)) (by first | rfl | omega | (simp; done) | (simp; omega)) (by omega) (by first | omega | (simp; done) | (simp; omega))) rfl ?_
    refine DL.q rfl (Yld.fieldAddr fo82_0 rfl) rfl ?_
    refine DL.q rfl (by first | exact (by first | exact Yld.loadRow1 (cl := 1) Try.underlying3 rfl rfl rfl (by first | assumption | exact Own.sl (by assumption)) (by assumption) | exact Yld.loadRow1 (cl := 2) Try.underlying3 rfl rfl rfl (by first | assumption | exact Own.sl (by assumption)) (by assumption)) | exact (by first | exact Yld.loadRowF (cl := 1) (j := 0) Try.underlying3 rfl rfl rfl (by first | assumption | exact Own.sl (by assumption)) (by assumption) rfl | exact Yld.loadRowF (cl := 2) (j := 0) Try.underlying3 rfl rfl rfl (by first | assumption | exact Own.sl (by assumption)) (by assumption) rfl)) rfl ?_
    refine DL.q rfl (Yld.move rfl) rfl ?_
    refine DL.q rfl (Yld.nilP rfl) rfl ?_
    refine DL.q rfl (Yld.fieldAddr fo112_2 rfl) rfl ?_
    refine DL.q rfl (Yld.load1 (c := 1) Try.underlying40 rfl rfl rfl (by first | exact single_self _ _ | exact pset_self _ _ _ | assumption) rfl) rfl ?_
    refine DL.q rfl (Yld.move rfl) rfl ?_
    refine DL.q rfl (Yld.bin rfl rfl (by first | exact BinV.sub (by omega) (by omega) | exact BinV.subW)) rfl ?_
    refine DL.q rfl (Yld.indexRow Try.underlying40 sz82 rfl rfl (by first | assumption | exact Own.sl (by assumption)) (by first | rfl | omega | (simp; done) | (simp; omega)) (by omega) (by first | omega | (simp; done) | (simp; omega))) rfl ?_
    refine DL.q rfl (Yld.fieldAddr fo82_1 rfl) rfl ?_
    refine DL.q rfl (by first | exact Yld.loadRowF (cl := 1) (j := 1) Try.underlying3 rfl rfl rfl (by first | assumption | exact Own.sl (by assumption)) (by assumption) rfl | exact Yld.loadRowF (cl := 2) (j := 1) Try.underlying3 rfl rfl rfl (by first | assumption | exact Own.sl (by assumption)) (by assumption) rfl) rfl ?_
    refine DL.q rfl (Yld.assign rfl) rfl ?_
    refine DL.q rfl (Yld.assign rfl) rfl ?_
    refine DL.done ?_
    refine N.next ?_
    refine W.keep (.cons (k := 2) rfl (.cons (k := 3) rfl .nil)) (.cons (k := 0) rfl (.cons (k := 1) rfl (.cons (k := 2) rfl .nil))) ?_
    refine W.ret ?_
    refine N.then_ret ?_
    exact N.retBy [1, 2] (.cons (.tmp rfl) (.cons (.tmp rfl) .nil)) rfl rfl rfl rfl ⟨by rw [hla]; rfl, rfl⟩
  ·
    have hn0 : g.es.length = 0 := by omega
    have hla : g.last = (g.ix, g.tm) := by unfold Lg.last; rw [List.getElem?_eq_none (by omega)]
    refine W.skip ?_
    refine N.next ?_
    refine W.seq ?_
    refine W.draw (.q 0 (.q 1 (.q 2 (.q 3 (.q 4 (.q 5 (.q 6 (.q 7 (.q 8 (.q 9 .done)))))))))) (.cons (k := 0) rfl (.cons (k := 1) rfl (.cons (k := 2) rfl .nil))) mix (by kernel_rfl) (by kernel_rfl) ?_
    refine DL.q rfl (Yld.move rfl) rfl ?_
    refine DL.q rfl (Yld.nilP rfl) rfl ?_
    refine DL.q rfl (Yld.fieldAddr fo112_0 rfl) rfl ?_
    refine DL.q rfl (Yld.load1 (c := 1) Try.underlying3 rfl rfl rfl (by first | exact single_self _ _ | exact pset_self _ _ _ | assumption) rfl) rfl ?_
    refine DL.q rfl (Yld.move rfl) rfl ?_
    refine DL.q rfl (Yld.nilP rfl) rfl ?_
    refine DL.q rfl (Yld.fieldAddr fo112_1 rfl) rfl ?_
    refine DL.q rfl (Yld.load1 (c := 1) Try.underlying3 rfl rfl rfl (by first | exact single_self _ _ | exact pset_self _ _ _ | assumption) rfl) rfl ?_
    refine DL.q rfl (Yld.assign rfl) rfl ?_
    refine DL.q rfl (Yld.assign rfl) rfl ?_
    refine DL.done ?_
    refine N.next ?_
    refine W.keep (.cons (k := 2) rfl (.cons (k := 3) rfl .nil)) (.cons (k := 0) rfl (.cons (k := 1) rfl (.cons (k := 2) rfl .nil))) ?_
    refine W.ret ?_
    exact N.retBy [1, 2] (.cons (.tmp rfl) (.cons (.tmp rfl) .nil)) rfl rfl rfl rfl ⟨by rw [hla]; rfl, rfl⟩

set_option maxRecDepth 100000 in
set_option maxHeartbeats 400000 in
theorem lterm_ct (lb : Nat) (g : Lg) (hg : LOK g) (H2 : PH) (p : Option Addr) (c : Nat) (hO : Own H2 p c 82 15 (g.es.map En.c)) (i : Int) (hi0 : -4611686018427387904 ≤ i) (hi1 : i ≤ 4611686018427387904) : Ct Try.prog 27 [.pointer (some ⟨lb, 0, none⟩), .int .i64 i] [single lb (.cells [.int .i64 g.ix, .int .i64 g.tm, .slice p g.es.length c].toArray 112 (0, 0)), H2] (fun v Hs => v = .tuple [.int .i64 (g.term i).1, .bool (g.term i).2].toArray ∧ Hs = [single lb (.cells [.int .i64 g.ix, .int .i64 g.tm, .slice p g.es.length c].toArray 112 (0, 0)), H2]) := by
  refine Ct.body Try.func27 rfl Try.ntmps27 rfl ?_
  intro E F
  have hS := hO.sl
  have hmx := hS.len_le
  simp only [List.length_map, maxLen] at hmx
  obtain ⟨g0, g1, g2, g3⟩ := hg
  have hg : LOK g := ⟨g0, g1, g2, g3⟩
  refine W.seq ?_
  refine W.region ?_
  refine RL.q (Yld.assign rfl) rfl ?_
  refine RL.q (Yld.assign rfl) rfl ?_
  refine RL.nil ?_
  refine N.next ?_
  refine W.seq ?_
  refine W.seq ?_
  refine W.region ?_
  refine RL.q (Yld.move rfl) rfl ?_
  refine RL.q (Yld.move rfl) rfl ?_
  refine RL.q (Yld.nilP rfl) rfl ?_
  refine RL.q (Yld.fieldAddr fo112_0 rfl) rfl ?_
  refine RL.q (Yld.load1 (c := 1) Try.underlying3 rfl rfl rfl (by first | exact single_self _ _ | exact pset_self _ _ _ | assumption) rfl) rfl ?_
  refine RL.q (Yld.bin rfl rfl BinV.eql) rfl ?_
  refine RL.nil ?_
  refine N.next ?_
  refine W.keep (.cons (k := 0) rfl (.cons (k := 1) rfl (.cons (k := 11) rfl .nil))) (.cons (k := 0) rfl (.cons (k := 1) rfl (.cons (k := 2) rfl .nil))) ?_
  first | refine W.condD rfl (fun hc11 => ?_) (fun hc11 => ?_) | (refine W.cond rfl (fun hc11 => ?_) (fun hc11 => ?_) <;> try simp only [Bool.or_eq_true, Bool.and_eq_true, Bool.not_eq_true', Bool.not_eq_false', decide_eq_true_eq, Bool.or_eq_false_iff, Bool.and_eq_false_iff, decide_eq_false_iff_not, beq_iff_eq, beq_eq_false_iff_ne, ne_eq, Decidable.not_not] at hc11)
  ·
    refine W.seq ?_
    refine W.region ?_
    refine RL.q (Yld.move rfl) rfl ?_
    refine RL.q (Yld.nilP rfl) rfl ?_
    refine RL.q (Yld.fieldAddr fo112_1 rfl) rfl ?_
    refine RL.q (Yld.load1 (c := 1) Try.underlying3 rfl rfl rfl (by first | exact single_self _ _ | exact pset_self _ _ _ | assumption) rfl) rfl ?_
    refine RL.q (Yld.assign rfl) rfl ?_
    refine RL.q (Yld.assign rfl) rfl ?_
    refine RL.nil ?_
    refine N.next ?_
    refine W.keep (.cons (k := 4) rfl (.cons (k := 5) rfl .nil)) (.cons (k := 0) rfl (.cons (k := 1) rfl (.cons (k := 2) rfl .nil))) ?_
    refine W.ret ?_
    refine N.then_ret ?_
    exact N.retBy [1, 2] (.cons (.tmp rfl) (.cons (.tmp rfl) .nil)) rfl rfl rfl rfl ⟨by unfold Lg.term; rw [if_pos hc11]; rfl, rfl⟩
  ·
    refine W.skip ?_
    refine N.next ?_
    refine W.seq ?_
    refine W.seq ?_
    refine W.draw (.q 0 (.q 1 (.q 2 (.q 3 (.q 4 (.q 5 (.q 6 (.q 7 (.q 8 (.q 9 (.q 10 (.q 11 (.q 12 (.q 13 (.q 14 (.q 15 (.q 16 (.q 17 (.q 18 (.q 19 .done)))))))))))))))))))) (.cons (k := 0) rfl (.cons (k := 1) rfl (.cons (k := 2) rfl .nil))) mix (by kernel_rfl) (by kernel_rfl) ?_
    refine DL.q rfl (Yld.move rfl) rfl ?_
    refine DL.q rfl (Yld.move rfl) rfl ?_
    refine DL.q rfl (Yld.nilP rfl) rfl ?_
    refine DL.q rfl (Yld.fieldAddr fo112_0 rfl) rfl ?_
    refine DL.q rfl (Yld.load1 (c := 1) Try.underlying3 rfl rfl rfl (by first | exact single_self _ _ | exact pset_self _ _ _ | assumption) rfl) rfl ?_
    refine DL.q rfl (Yld.bin rfl rfl BinV.lss) rfl ?_
    refine DL.q rfl (Yld.move rfl) rfl ?_
    refine' DL.or (t := 22) (d := 35) 13 rfl (.cons (k := 0) rfl (.cons (k := 1) rfl (.cons (k := 11) rfl (.cons (k := 16) rfl (.cons (k := 17) rfl (.cons (k := 18) rfl (.cons (k := 19) rfl (.cons (k := 20) rfl (.cons (k := 21) rfl .nil))))))))) (.cons (k := 0) rfl (.cons (k := 1) rfl (.cons (k := 2) rfl .nil))) ?_ ?_ ?_
    rotate_left 1
    ·
      intro hg22
      refine DL.gq rfl rfl rfl (Yld.move rfl) rfl ?_
      refine DL.gq rfl rfl rfl (Yld.move rfl) rfl ?_
      refine DL.gq rfl rfl rfl (Yld.nilP rfl) rfl ?_
      refine DL.gq rfl rfl rfl (Yld.fieldAddr fo112_0 rfl) rfl ?_
      refine DL.gq rfl rfl rfl (Yld.load1 (c := 1) Try.underlying3 rfl rfl rfl (by first | exact single_self _ _ | exact pset_self _ _ _ | assumption) rfl) rfl ?_
      refine DL.gq rfl rfl rfl (Yld.bin rfl rfl (by first | exact BinV.sub (by omega) (by omega) | exact BinV.subW)) rfl ?_
      refine DL.gq rfl rfl rfl (Yld.move rfl) rfl ?_
      refine DL.gq rfl rfl rfl (Yld.nilP rfl) rfl ?_
      refine DL.gq rfl rfl rfl (Yld.fieldAddr fo112_2 rfl) rfl ?_
      refine DL.gq rfl rfl rfl (Yld.load1 (c := 1) Try.underlying40 rfl rfl rfl (by first | exact single_self _ _ | exact pset_self _ _ _ | assumption) rfl) rfl ?_
      refine DL.gq rfl rfl rfl (Yld.lenSl Try.underlying40 rfl) rfl ?_
      refine DL.gq rfl rfl rfl (Yld.bin rfl rfl BinV.gtr) rfl ?_
      refine DL.q rfl (by first | exact Yld.pickT rfl rfl | exact Yld.pickF rfl rfl) rfl ?_
      exact DL.meet (.cons rfl (.cons rfl (.cons rfl (.cons rfl (.cons rfl (.cons rfl (.cons rfl (.cons rfl (.cons rfl (.cons rfl .nil)))))))))) (.cons rfl (.cons rfl (.cons rfl .nil)))
    ·
      intro hg22
      refine DL.gskip rfl rfl rfl rfl rfl ?_
      refine DL.gskip rfl rfl rfl rfl rfl ?_
      refine DL.gskip rfl rfl rfl rfl rfl ?_
      refine DL.gskip rfl rfl rfl rfl rfl ?_
      refine DL.gskip rfl rfl rfl rfl rfl ?_
      refine DL.gskip rfl rfl rfl rfl rfl ?_
      refine DL.gskip rfl rfl rfl rfl rfl ?_
      refine DL.gskip rfl rfl rfl rfl rfl ?_
      refine DL.gskip rfl rfl rfl rfl rfl ?_
      refine DL.gskip rfl rfl rfl rfl rfl ?_
      refine DL.gskip rfl rfl rfl rfl rfl ?_
      refine DL.gskip rfl rfl rfl rfl rfl ?_
      refine DL.q rfl (by first | exact Yld.pickT rfl rfl | exact Yld.pickF rfl rfl) rfl ?_
      exact DL.meet (.cons rfl (.cons rfl (.cons rfl (.cons rfl (.cons rfl (.cons rfl (.cons rfl (.cons rfl (.cons rfl (.cons rfl .nil)))))))))) (.cons rfl (.cons rfl (.cons rfl .nil)))
    refine DL.done ?_
    refine N.next ?_
    refine W.keep (.cons (k := 0) rfl (.cons (k := 1) rfl (.cons (k := 35) rfl .nil))) (.cons (k := 0) rfl (.cons (k := 1) rfl (.cons (k := 2) rfl .nil))) ?_
    first | refine W.condD rfl (fun hc35 => ?_) (fun hc35 => ?_) | (refine W.cond rfl (fun hc35 => ?_) (fun hc35 => ?_) <;> try simp only [Bool.or_eq_true, Bool.and_eq_true, Bool.not_eq_true', Bool.not_eq_false', decide_eq_true_eq, Bool.or_eq_false_iff, Bool.and_eq_false_iff, decide_eq_false_iff_not, beq_iff_eq, beq_eq_false_iff_ne, ne_eq, Decidable.not_not] at hc35)
    ·
      refine W.seq ?_
      refine W.region ?_
      refine RL.q (Yld.assign rfl) rfl ?_
      refine RL.q (Yld.assign rfl) rfl ?_
      refine RL.nil ?_
      refine N.next ?_
      refine W.ret ?_
      refine N.then_ret ?_
      exact N.retBy [1, 2] (.cons (.tmp rfl) (.cons (.tmp rfl) .nil)) rfl rfl rfl rfl ⟨by unfold Lg.term; rw [if_neg hc11, if_pos (by omega)]; rfl, rfl⟩
    ·
      have hcn : ¬ (i < g.ix ∨ (g.es.length : Int) < i - g.ix) := by omega
      have hk : (i - g.ix - 1).toNat < g.es.length := by omega
      obtain ⟨e, he⟩ : ∃ e, g.es[(i - g.ix - 1).toNat]? = some e := ⟨_, List.getElem?_eq_getElem hk⟩
      have hle : (g.es.map En.c)[(i - g.ix - 1).toNat]? = some [.int .i64 e.ix, .int .i64 e.tm, .int .i64 0, .int .i64 e.cl, .int .i64 0, .string .empty, .int .i64 0, .int .i64 0, .int .i64 0, .int .i64 0, .slice none 0 0, .slice none 0 0, .slice none 0 0, .slice none 0 0, .slice none 0 0] := by simp only [List.getElem?_map, he, Option.map_some, En.c]
      refine W.skip ?_
      refine N.next ?_
      refine W.seq ?_
      refine W.draw (.q 0 (.q 1 (.q 2 (.q 3 (.q 4 (.q 5 (.q 6 (.q 7 (.q 8 (.q 9 (.q 10 (.q 11 (.q 12 (.q 13 (.q 14 (.q 15 .done)))))))))))))))) (.cons (k := 0) rfl (.cons (k := 1) rfl (.cons (k := 2) rfl .nil))) mix (by kernel_rfl) (by kernel_rfl) ?_
      refine DL.q rfl (Yld.move rfl) rfl ?_
      refine DL.q rfl (Yld.nilP rfl) rfl ?_
      refine DL.q rfl (Yld.fieldAddr fo112_2 rfl) rfl ?_
      refine DL.q rfl (Yld.load1 (c := 1) Try.underlying40 rfl rfl rfl (by first | exact single_self _ _ | exact pset_self _ _ _ | assumption) rfl) rfl ?_
      refine DL.q rfl (Yld.move rfl) rfl ?_
      refine DL.q rfl (Yld.move rfl) rfl ?_
      refine DL.q rfl (Yld.nilP rfl) rfl ?_
      refine DL.q rfl (Yld.fieldAddr fo112_0 rfl) rfl ?_
      refine DL.q rfl (Yld.load1 (c := 1) Try.underlying3 rfl rfl rfl (by first | exact single_self _ _ | exact pset_self _ _ _ | assumption) rfl) rfl ?_
      refine DL.q rfl (Yld.bin rfl rfl (by first | exact BinV.sub (by omega) (by omega) | exact BinV.subW)) rfl ?_
      refine DL.q rfl (Yld.bin rfl rfl (by first | exact BinV.sub (by omega) (by omega) | exact BinV.subW)) rfl ?_
      refine DL.q rfl (Yld.indexRow Try.underlying40 sz82 rfl rfl (by first | assumption | exact Own.sl (by assumption)) (by first | rfl | omega | (simp; done) | (simp; omega)) (by omega) (by first | omega | (simp; done) | (simp; omega))) rfl ?_
      refine DL.q rfl (Yld.fieldAddr fo82_1 rfl) rfl ?_
      refine DL.q rfl (by first | exact Yld.loadRowF (cl := 1) (j := 1) Try.underlying3 rfl rfl rfl (by first | assumption | exact Own.sl (by assumption)) (by assumption) rfl | exact Yld.loadRowF (cl := 2) (j := 1) Try.underlying3 rfl rfl rfl (by first | assumption | exact Own.sl (by assumption)) (by assumption) rfl) rfl ?_
      refine DL.q rfl (Yld.assign rfl) rfl ?_
      refine DL.q rfl (Yld.assign rfl) rfl ?_
      refine DL.done ?_
      refine N.next ?_
      refine W.keep (.cons (k := 4) rfl (.cons (k := 5) rfl .nil)) (.cons (k := 0) rfl (.cons (k := 1) rfl (.cons (k := 2) rfl .nil))) ?_
      refine W.ret ?_
      exact N.retBy [1, 2] (.cons (.tmp rfl) (.cons (.tmp rfl) .nil)) rfl rfl rfl rfl ⟨by unfold Lg.term; rw [if_neg hc11, if_neg hcn, he]; rfl, rfl⟩

theorem copied2_ct (l : List En) (H1 : PH) (p : Option Addr) (c n : Nat) (hn : n = l.length) (hS : Sl H1 p c 15 (l.map En.c)) (hb : l.length ≤ 1000) : Ct Try.prog 67 [.slice p n c] [H1] (fun v Hs => ∃ H' p' c', v = .slice p' l.length c' ∧ Own H' p' c' 82 15 (l.map En.c) ∧ Hs = [H1, H']) := by
  subst hn; exact copied_ct l H1 p c hS hb

set_option maxRecDepth 100000 in
set_option maxHeartbeats 1600000 in
theorem lfrom_ct (lb : Nat) (g : Lg) (hg : LOK g) (H2 : PH) (p : Option Addr) (c : Nat) (hO : Own H2 p c 82 15 (g.es.map En.c)) (i : Int) (hi0 : -4611686018427387904 ≤ i) (hi1 : i ≤ 4611686018427387904) (m : Int) : Ct Try.prog 39 [.pointer (some ⟨lb, 0, none⟩), .int .i64 i, .int .i64 m] [single lb (.cells [.int .i64 g.ix, .int .i64 g.tm, .slice p g.es.length c].toArray 112 (0, 0)), H2] (fun v Hs => ∃ H' p' c', v = .slice p' (g.fr i m).length c' ∧ Own H' p' c' 82 15 ((g.fr i m).map En.c) ∧ Hs = [single lb (.cells [.int .i64 g.ix, .int .i64 g.tm, .slice p g.es.length c].toArray 112 (0, 0)), H2, H']) := by
  refine Ct.body Try.func39 rfl Try.ntmps39 rfl ?_
  intro E F
  have hS := hO.sl
  have hmx := hS.len_le
  simp only [List.length_map, maxLen] at hmx
  obtain ⟨g0, g1, g2, g3⟩ := hg
  have hg : LOK g := ⟨g0, g1, g2, g3⟩
  refine W.seq ?_
  refine W.imp (Imp.empty _ 131) ?_
  refine W.region ?_
  refine RL.q (Yld.assign rfl) rfl ?_
  refine RL.nil ?_
  refine N.next ?_
  refine W.seq ?_
  refine W.draw (.q 0 (.q 1 (.q 2 (.q 3 (.q 4 (.q 5 (.q 6 (.q 7 (.q 8 (.q 9 (.q 10 (.q 11 (.q 12 (.q 13 .done)))))))))))))) (.cons (k := 0) rfl (.cons (k := 1) rfl (.cons (k := 2) rfl (.cons (k := 131) rfl .nil)))) mix (by kernel_rfl) (by kernel_rfl) ?_
  refine DL.q rfl (Yld.move rfl) rfl ?_
  refine DL.q rfl (Yld.move rfl) rfl ?_
  refine DL.q rfl (Yld.nilP rfl) rfl ?_
  refine DL.q rfl (Yld.fieldAddr fo112_0 rfl) rfl ?_
  refine DL.q rfl (Yld.load1 (c := 1) Try.underlying3 rfl rfl rfl (by first | exact single_self _ _ | exact pset_self _ _ _ | assumption) rfl) rfl ?_
  refine DL.q rfl (Yld.bin rfl rfl (by first | exact BinV.add (by omega) (by omega) | exact BinV.addW)) rfl ?_
  refine DL.q rfl (Yld.max2 rfl rfl) rfl ?_
  refine DL.q rfl (Yld.move rfl) rfl ?_
  refine DL.q rfl (Yld.nilP rfl) rfl ?_
  refine DL.q rfl (Yld.fieldAddr fo112_0 rfl) rfl ?_
  refine DL.q rfl (Yld.load1 (c := 1) Try.underlying3 rfl rfl rfl (by first | exact single_self _ _ | exact pset_self _ _ _ | assumption) rfl) rfl ?_
  refine DL.q rfl (Yld.bin rfl rfl (by first | exact BinV.sub (by omega) (by omega) | exact BinV.subW)) rfl ?_
  refine DL.q rfl (Yld.bin rfl rfl (by first | exact BinV.sub (by omega) (by omega) | exact BinV.subW)) rfl ?_
  refine DL.q rfl (Yld.assign rfl) rfl ?_
  refine DL.done ?_
  refine N.next ?_
  refine W.keep (.cons (k := 0) rfl (.cons (k := 2) rfl (.cons (k := 7) rfl .nil))) (.cons (k := 0) rfl (.cons (k := 1) rfl (.cons (k := 2) rfl (.cons (k := 131) rfl .nil)))) ?_
  refine W.seq ?_
  refine W.seq ?_
  refine W.region ?_
  refine RL.q (Yld.move rfl) rfl ?_
  refine RL.q (Yld.move rfl) rfl ?_
  refine RL.q (Yld.nilP rfl) rfl ?_
  refine RL.q (Yld.fieldAddr fo112_2 rfl) rfl ?_
  refine RL.q (Yld.load1 (c := 1) Try.underlying40 rfl rfl rfl (by first | exact single_self _ _ | exact pset_self _ _ _ | assumption) rfl) rfl ?_
  refine RL.q (Yld.lenSl Try.underlying40 rfl) rfl ?_
  refine RL.q (Yld.bin rfl rfl BinV.geq) rfl ?_
  refine RL.q (Yld.move rfl) rfl ?_
  refine' RL.or (t := 28) (d := 31) 3 rfl (.cons (k := 0) rfl (.cons (k := 2) rfl (.cons (k := 7) rfl (.cons (k := 21) rfl (.cons (k := 22) rfl (.cons (k := 23) rfl (.cons (k := 24) rfl (.cons (k := 25) rfl (.cons (k := 26) rfl (.cons (k := 27) rfl .nil)))))))))) (.cons (k := 0) rfl (.cons (k := 1) rfl (.cons (k := 2) rfl (.cons (k := 131) rfl .nil)))) ?_ ?_ ?_
  rotate_left 1
  ·
    intro hg28
    refine RL.gq rfl rfl (Yld.move rfl) rfl ?_
    refine RL.gq rfl rfl (Yld.bin rfl rfl BinV.leq) rfl ?_
    refine RL.q (by first | exact Yld.pickT rfl rfl | exact Yld.pickF rfl rfl) rfl ?_
    exact RL.nil (N.meet (.cons rfl (.cons rfl (.cons rfl (.cons rfl (.cons rfl (.cons rfl (.cons rfl (.cons rfl (.cons rfl (.cons rfl (.cons rfl .nil))))))))))) (.cons rfl (.cons rfl (.cons rfl (.cons rfl .nil)))))
  ·
    intro hg28
    refine RL.gskip rfl rfl rfl rfl ?_
    refine RL.gskip rfl rfl rfl rfl ?_
    refine RL.q (by first | exact Yld.pickT rfl rfl | exact Yld.pickF rfl rfl) rfl ?_
    exact RL.nil (N.meet (.cons rfl (.cons rfl (.cons rfl (.cons rfl (.cons rfl (.cons rfl (.cons rfl (.cons rfl (.cons rfl (.cons rfl (.cons rfl .nil))))))))))) (.cons rfl (.cons rfl (.cons rfl (.cons rfl .nil)))))
  refine RL.nil ?_
  refine N.next ?_
  refine W.keep (.cons (k := 0) rfl (.cons (k := 2) rfl (.cons (k := 7) rfl (.cons (k := 31) rfl .nil)))) (.cons (k := 0) rfl (.cons (k := 1) rfl (.cons (k := 2) rfl (.cons (k := 131) rfl .nil)))) ?_
  first | refine W.condD rfl (fun hc31 => ?_) (fun hc31 => ?_) | (refine W.cond rfl (fun hc31 => ?_) (fun hc31 => ?_) <;> try simp only [Bool.or_eq_true, Bool.and_eq_true, Bool.not_eq_true', Bool.not_eq_false', decide_eq_true_eq, Bool.or_eq_false_iff, Bool.and_eq_false_iff, decide_eq_false_iff_not, beq_iff_eq, beq_eq_false_iff_ne, ne_eq, Decidable.not_not] at hc31)
  ·
    have hfr : g.fr i m = [] := by unfold Lg.fr Lg.at; rw [if_pos (by omega)]
    refine W.seq ?_
    refine W.region ?_
    refine RL.q (Yld.assign rfl) rfl ?_
    refine RL.nil ?_
    refine N.next ?_
    refine W.keep (.cons (k := 6) rfl .nil) (.cons (k := 0) rfl (.cons (k := 1) rfl (.cons (k := 2) rfl (.cons (k := 131) rfl .nil)))) ?_
    refine W.ret ?_
    refine N.then_ret ?_
    exact N.retBy [1, 2, 131] (.cons (.tmp rfl) .nil) rfl rfl rfl rfl ⟨emp, none, 0, by rw [hfr]; rfl, by rw [hfr]; exact Own.nil _ _, rfl⟩
  ·
    have hat : (g.at i : Int) = (max i (g.ix + 1) - g.ix - 1) := by unfold Lg.at; omega
    have hfr : g.fr i m = (g.es.take (min (g.es.length : Int) (g.at i + min m g.es.length)).toNat).drop (g.at i) := by unfold Lg.fr; rw [if_neg (by omega)]
    have hfl := Lg.fr_len (g := g) (i := i) (m := m)
    have hS3 : Sl H2 (subP p c (max i (g.ix + 1) - g.ix - 1).toNat 15) (c - (max i (g.ix + 1) - g.ix - 1).toNat) 15 ((g.fr i m).map En.c) := by
      rw [hfr, List.map_drop, List.map_take, show (max i (g.ix + 1) - g.ix - 1).toNat = g.at i by omega]
      exact (hS.take _).drop (by simp; omega)
    have hn3 : (min (g.es.length : Int) ((max i (g.ix + 1) - g.ix - 1) + min m g.es.length)).toNat - (max i (g.ix + 1) - g.ix - 1).toNat = (g.fr i m).length := by
      rw [hfr, List.length_drop, List.length_take]; omega
    refine W.skip ?_
    refine N.next ?_
    refine W.seq ?_
    refine W.draw (.q 0 (.q 1 (.q 2 (.q 3 (.q 4 (.q 5 (.q 6 (.q 7 (.q 8 (.q 9 (.q 10 (.q 11 (.q 12 (.q 13 (.q 14 (.q 15 (.q 16 (.q 17 (.q 18 (.q 19 (.q 20 (.one 21 (.q 22 .done))))))))))))))))))))))) (.cons (k := 0) rfl (.cons (k := 1) rfl (.cons (k := 131) rfl .nil))) mix (by kernel_rfl) (by kernel_rfl) ?_
    refine DL.q rfl (Yld.move rfl) rfl ?_
    refine DL.q rfl (Yld.nilP rfl) rfl ?_
    refine DL.q rfl (Yld.fieldAddr fo112_2 rfl) rfl ?_
    refine DL.q rfl (Yld.load1 (c := 1) Try.underlying40 rfl rfl rfl (by first | exact single_self _ _ | exact pset_self _ _ _ | assumption) rfl) rfl ?_
    refine DL.q rfl (Yld.move rfl) rfl ?_
    refine DL.q rfl (Yld.move rfl) rfl ?_
    refine DL.q rfl (Yld.nilP rfl) rfl ?_
    refine DL.q rfl (Yld.fieldAddr fo112_2 rfl) rfl ?_
    refine DL.q rfl (Yld.load1 (c := 1) Try.underlying40 rfl rfl rfl (by first | exact single_self _ _ | exact pset_self _ _ _ | assumption) rfl) rfl ?_
    refine DL.q rfl (Yld.lenSl Try.underlying40 rfl) rfl ?_
    refine DL.q rfl (Yld.move rfl) rfl ?_
    refine DL.q rfl (Yld.move rfl) rfl ?_
    refine DL.q rfl (Yld.move rfl) rfl ?_
    refine DL.q rfl (Yld.nilP rfl) rfl ?_
    refine DL.q rfl (Yld.fieldAddr fo112_2 rfl) rfl ?_
    refine DL.q rfl (Yld.load1 (c := 1) Try.underlying40 rfl rfl rfl (by first | exact single_self _ _ | exact pset_self _ _ _ | assumption) rfl) rfl ?_
    refine DL.q rfl (Yld.lenSl Try.underlying40 rfl) rfl ?_
    refine DL.q rfl (Yld.min2 rfl rfl) rfl ?_
    refine DL.q rfl (Yld.bin rfl rfl (by first | exact BinV.add (by omega) (by omega) | exact BinV.addW)) rfl ?_
    refine DL.q rfl (Yld.min2 rfl rfl) rfl ?_
    refine DL.q rfl (Yld.sliceLH Try.underlying40 sz82 rfl rfl rfl (by omega) (by omega) (by first | omega | (simp; done) | (simp; omega))) rfl ?_
    refine DL.one rfl (Eff.call ent67 [2] [2, 130] (.cons rfl .nil) (copied2_ct (g.fr i m) _ _ _ _ hn3 hS3 (by omega)) rfl rfl rfl rfl (by rintro _ _ ⟨_, _, _, _, _, rfl⟩; rfl)) rfl (by rintro _ _ ⟨_, ⟨Hc, pc, cc, rfl, hOc, rfl⟩, rfl⟩; repeat (first | exact .nil | refine .cons rfl ?_)) ?_
    rintro _ _ ⟨_, ⟨Hc, pc, cc, rfl, hOc, rfl⟩, rfl⟩
    refine DL.q rfl (Yld.assign rfl) rfl ?_
    refine DL.done ?_
    refine N.next ?_
    refine W.keep (.cons (k := 6) rfl .nil) (.cons (k := 0) rfl (.cons (k := 1) rfl (.cons (k := 2) rfl (.cons (k := 130) rfl (.cons (k := 131) rfl .nil))))) ?_
    refine W.ret ?_
    exact N.retBy [1, 2, 130] (.cons (.tmp rfl) .nil) rfl rfl rfl rfl ⟨Hc, pc, cc, rfl, hOc, rfl⟩

set_option maxRecDepth 100000 in
set_option maxHeartbeats 1600000 in
theorem lappend_ct (lb : Nat) (g : Lg) (hg : LOK g) (H2 : PH) (p : Option Addr) (c : Nat) (hO : Own H2 p c 82 15 (g.es.map En.c)) (hl : g.es.length < 1000) (t cl : Int) (ht : g.last.2 ≤ t) (H3 : PH) (p3 : Option Addr) (c3 : Nat) (hC : Sl H3 p3 c3 13 [cmdC cl]) : Ct Try.prog 40 [.pointer (some ⟨lb, 0, none⟩), .int .i64 t, .slice p3 1 c3] [single lb (.cells [.int .i64 g.ix, .int .i64 g.tm, .slice p g.es.length c].toArray 112 (0, 0)), H2, H3] (fun v Hs => ∃ H' p' c' Hr, (∃ pr cr, v = .slice pr 1 cr) ∧ Own H' p' c' 82 15 ((g.put t cl).es.map En.c) ∧ Hs = [single lb (.cells [.int .i64 g.ix, .int .i64 g.tm, .slice p' (g.put t cl).es.length c'].toArray 112 (0, 0)), H', H3, Hr]) := by
  refine Ct.body Try.func40 rfl Try.ntmps40 rfl ?_
  intro E F
  have hS := hO.sl
  have hmx := hS.len_le
  simp only [List.length_map, maxLen] at hmx
  obtain ⟨g0, g1, g2, g3⟩ := hg
  have hg : LOK g := ⟨g0, g1, g2, g3⟩
  have hli := Lg.last_ix hg
  refine W.seq ?_
  refine W.region ?_
  refine RL.q (Yld.assign rfl) rfl ?_
  refine RL.nil ?_
  refine N.next ?_
  refine W.seq ?_
  refine W.region ?_
  refine RL.q (Yld.move rfl) rfl ?_
  refine RL.e (Eff.call ent37 [1, 2] [1, 2] (.cons rfl .nil) (llast_ct lb g hg _ _ _ hO) rfl rfl rfl rfl (by rintro _ _ ⟨_, rfl⟩; rfl)) rfl ?_
  rintro _ _ ⟨_, ⟨rfl, rfl⟩, rfl⟩
  refine RL.q (Yld.move rfl) rfl ?_
  refine RL.q (Yld.extract rfl rfl) rfl ?_
  refine RL.q (Yld.extract rfl rfl) rfl ?_
  refine RL.q (Yld.assign rfl) rfl ?_
  refine RL.q (Yld.assign rfl) rfl ?_
  refine RL.nil ?_
  refine N.next ?_
  refine W.keep (.cons (k := 0) rfl (.cons (k := 1) rfl (.cons (k := 2) rfl (.cons (k := 7) rfl (.cons (k := 8) rfl .nil))))) (.cons (k := 0) rfl (.cons (k := 1) rfl (.cons (k := 2) rfl (.cons (k := 3) rfl .nil)))) ?_
  refine W.seq ?_
  refine W.seq ?_
  refine W.region ?_
  refine RL.q (Yld.move rfl) rfl ?_
  refine RL.q (Yld.move rfl) rfl ?_
  refine RL.q (Yld.bin rfl rfl BinV.lss) rfl ?_
  refine RL.nil ?_
  refine N.next ?_
  first | (refine W.as (t := 19) rfl (boolF (by first | assumption | omega | (simp; done))) ?_; refine W.condF rfl ?_) | refine W.condF rfl ?_
  refine W.skip ?_
  refine N.next ?_
  refine W.keep (.cons (k := 0) rfl (.cons (k := 1) rfl (.cons (k := 2) rfl (.cons (k := 7) rfl .nil)))) (.cons (k := 0) rfl (.cons (k := 1) rfl (.cons (k := 2) rfl (.cons (k := 3) rfl .nil)))) ?_
  refine W.seq ?_
  refine W.imp (Imp.empty _ 30) ?_
  refine W.region ?_
  refine RL.q (Yld.assign rfl) rfl ?_
  refine RL.nil ?_
  refine N.next ?_
  refine W.seq ?_
  refine W.seq ?_
  refine W.region ?_
  refine RL.q (Yld.move rfl) rfl ?_
  refine RL.q (Yld.lenSl Try.underlying101 rfl) rfl ?_
  refine RL.q (Yld.move rfl) rfl ?_
  refine RL.nil ?_
  refine N.next ?_
  refine W.block ?_
  refine W.loopK (ι := EI) (fun x => (x.i ≤ 1 ∧ Own x.H x.p x.c 82 15 (([⟨g.last.1 + 1, t, cl⟩].take x.i).map En.c))) (fun x => [(9, .slice x.p ([(⟨g.last.1 + 1, t, cl⟩ : En)].take x.i).length x.c), (22, .int .i64 (x.i : Nat))]) (fun x => [(30, x.H)]) (fun x => 1 - x.i) (.cons (k := 0) rfl (.cons (k := 1) rfl (.cons (k := 7) rfl (.cons (k := 20) rfl (.cons (k := 21) rfl .nil))))) (.cons (k := 0) rfl (.cons (k := 1) rfl (.cons (k := 2) rfl (.cons (k := 3) rfl .nil)))) ⟨0, emp, none, 0⟩ ?_ ?_ ?_ ?_
  · exact ⟨Nat.zero_le _, Own.nil _ _⟩
  · exact (.as rfl (by first | rfl | (simp; done) | (congr 1; simp; done) | (congr 1; omega)) (.as rfl (by first | rfl | (simp; done) | (congr 1; simp; done) | (congr 1; omega)) .nil))
  · exact (.cons rfl .nil)
  rintro x ⟨hi, hO2⟩
  refine W.keep (.cons (k := 9) rfl (.cons (k := 22) rfl (.cons (k := 0) rfl (.cons (k := 1) rfl (.cons (k := 7) rfl (.cons (k := 20) rfl (.cons (k := 21) rfl .nil))))))) (.cons (k := 30) rfl (.cons (k := 0) rfl (.cons (k := 1) rfl (.cons (k := 2) rfl (.cons (k := 3) rfl .nil))))) ?_
  refine W.seq ?_
  refine W.region ?_
  refine RL.q (Yld.bin rfl rfl BinV.lss) rfl ?_
  refine RL.nil ?_
  refine N.next ?_
  refine W.seq ?_
  first | refine W.condD rfl (fun hc23 => ?_) (fun hc23 => ?_) | (refine W.cond rfl (fun hc23 => ?_) (fun hc23 => ?_) <;> try simp only [Bool.or_eq_true, Bool.and_eq_true, Bool.not_eq_true', Bool.not_eq_false', decide_eq_true_eq, Bool.or_eq_false_iff, Bool.and_eq_false_iff, decide_eq_false_iff_not, beq_iff_eq, beq_eq_false_iff_ne, ne_eq, Decidable.not_not] at hc23)
  ·
    obtain ⟨xi, xH, xp, xc⟩ := x
    dsimp only at hi hO2 hc23 ⊢
    obtain rfl : xi = 0 := by omega
    have hlc : [cmdC cl][0]? = some [.int .i64 0, .int .i64 cl, .int .i64 0, .string .empty, .int .i64 0, .int .i64 0, .int .i64 0, .int .i64 0, .slice none 0 0, .slice none 0 0, .slice none 0 0, .slice none 0 0, .slice none 0 0] := rfl
    refine W.skip ?_
    refine N.next ?_
    refine W.seq ?_
    refine W.block ?_
    refine W.seq ?_
    refine W.region ?_
    refine RL.q (Yld.move rfl) rfl ?_
    refine RL.q (Yld.indexRow Try.underlying101 sz80 rfl rfl (by first | assumption | exact Own.sl (by assumption)) (by first | rfl | omega | (simp; done) | (simp; omega)) (by omega) (by first | omega | (simp; done) | (simp; omega))) rfl ?_
    refine RL.q (by first | exact Yld.loadRow (cl := 1) Try.underlying80 rfl sz80 rfl rfl (by first | assumption | exact Own.sl (by assumption)) (by assumption) | exact Yld.loadRow (cl := 2) Try.underlying80 rfl sz80 rfl rfl (by first | assumption | exact Own.sl (by assumption)) (by assumption) | exact Yld.loadRow (cl := 3) Try.underlying80 rfl sz80 rfl rfl (by first | assumption | exact Own.sl (by assumption)) (by assumption) | exact Yld.loadRow (cl := 30) Try.underlying80 rfl sz80 rfl rfl (by first | assumption | exact Own.sl (by assumption)) (by assumption)) rfl ?_
    refine RL.e (Eff.alloc 111 zc80) rfl ?_
    rintro _ _ ⟨b11, rfl, rfl⟩
    refine RL.q (Yld.assign rfl) rfl ?_
    refine RL.e0 (Eff.storeS (c := 111) _ sz80 rfl rfl rfl rfl rfl rfl rfl (by (try simp only [putAt, List.take, List.drop, List.nil_append, List.cons_append, List.append_nil, List.length_cons, List.length_nil, Nat.add_zero, Nat.zero_add, Nat.reduceAdd]); rfl)) ?_
    rintro _ _ rfl
    refine RL.nil ?_
    refine N.next ?_
    refine W.keep (.cons (k := 0) rfl (.cons (k := 1) rfl (.cons (k := 7) rfl (.cons (k := 9) rfl (.cons (k := 10) rfl (.cons (k := 11) rfl (.cons (k := 20) rfl (.cons (k := 21) rfl (.cons (k := 22) rfl .nil))))))))) (.cons (k := 0) rfl (.cons (k := 1) rfl (.cons (k := 2) rfl (.cons (k := 3) rfl (.cons (k := 30) rfl (.cons (k := 111) rfl .nil)))))) ?_
    refine W.region ?_
    refine RL.q (Yld.move rfl) rfl ?_
    refine RL.q (Yld.move rfl) rfl ?_
    refine RL.q (Yld.bin rfl rfl (by first | exact BinV.add (by omega) (by omega) | exact BinV.addW)) rfl ?_
    refine RL.q (Yld.move rfl) rfl ?_
    refine RL.q (Yld.bin rfl rfl (by first | exact BinV.add (by omega) (by omega) | exact BinV.addW)) rfl ?_
    refine RL.q (Yld.move rfl) rfl ?_
    refine RL.q (Yld.loadW (c := 111) Try.underlying80 rfl sz80 rfl rfl (by first | exact single_self _ _ | exact pset_self _ _ _ | assumption) rfl) rfl ?_
    refine RL.q (Yld.buildP lay82 (.cons rfl rfl (.cons rfl rfl (.cons rfl rfl .nil))) rfl) rfl ?_
    refine RL.e (Eff.buildSlice 135 Try.underlying40 sz82 zc82 rfl rfl (.cons rfl rfl .nil) rfl) rfl ?_
    rintro _ _ ⟨b35, rfl, rfl⟩
    refine RL.e (Eff.appendE (tc := 30) (sc := 135) (ms := [⟨g.last.1 + 1, t, cl⟩]) En.c Try.underlying40 el82 rfl rfl rfl rfl hO2 rfl (en_single (by rw [show g.last.1 + 1 + ((0 : Nat) : Int) = g.last.1 + 1 by omega]; rfl)) rfl (fun a _ => a.c_one) (by decide) (by first | (simp; done) | (simp; omega)) (by first | (simp [maxLen]; done) | (simp [maxLen]; omega))) rfl ?_
    rintro _ _ ⟨Ha, pa, ca, rfl, hOa, rfl⟩
    refine RL.q (Yld.assign rfl) rfl ?_
    refine RL.nil ?_
    refine N.block_normal ?_
    refine N.next ?_
    refine W.keep (.cons (k := 0) rfl (.cons (k := 1) rfl (.cons (k := 7) rfl (.cons (k := 9) rfl (.cons (k := 20) rfl (.cons (k := 21) rfl (.cons (k := 22) rfl .nil))))))) (.cons (k := 0) rfl (.cons (k := 1) rfl (.cons (k := 2) rfl (.cons (k := 3) rfl (.cons (k := 30) rfl (.cons (k := 111) rfl (.cons (k := 135) rfl .nil))))))) ?_
    refine W.region ?_
    refine RL.q (Yld.bin rfl rfl (by first | exact BinV.add (by omega) (by omega) | exact BinV.addW)) rfl ?_
    refine RL.q (Yld.move rfl) rfl ?_
    refine RL.nil ?_
    exact N.famK ⟨1, Ha, pa, ca⟩ ⟨⟨Nat.le_refl _, hOa⟩, by dsimp only; omega⟩ (.as rfl (by first | rfl | (simp; done) | (congr 1; simp; done) | (congr 1; omega)) (.as rfl (by first | rfl | (simp; done) | (congr 1; simp; done) | (congr 1; omega)) .nil)) (.cons rfl (.cons rfl (.cons rfl (.cons rfl (.cons rfl .nil))))) (.cons rfl .nil) (.cons rfl (.cons rfl (.cons rfl (.cons rfl .nil))))
  ·
    obtain ⟨xi, xH, xp, xc⟩ := x
    dsimp only at hi hO2 hc23 ⊢
    obtain rfl : xi = 1 := by omega
    have hO1 : Own xH xp xc 82 15 ([⟨g.last.1 + 1, t, cl⟩].map En.c) := hO2
    refine W.exit ?_
    refine N.then_exit ?_
    refine N.then_exit ?_
    refine N.block_eq ?_
    refine N.next ?_
    refine W.keep (.cons (k := 0) rfl (.cons (k := 9) rfl .nil)) (.cons (k := 0) rfl (.cons (k := 1) rfl (.cons (k := 2) rfl (.cons (k := 3) rfl (.cons (k := 30) rfl .nil))))) ?_
    refine W.seq ?_
    refine W.draw (.q 0 (.q 1 (.q 2 (.q 3 (.q 5 (.two 4 (.one 6 (.one 7 (.q 8 (.q 9 (.one 10 .done))))) 6 (.one 4 (.one 7 (.q 8 (.q 9 (.one 10 .done))))))))))) (.cons (k := 0) rfl (.cons (k := 3) rfl .nil)) mix (by kernel_rfl) (by kernel_rfl) ?_
    refine DL.q rfl (Yld.move rfl) rfl ?_
    refine DL.q rfl (Yld.move rfl) rfl ?_
    refine DL.q rfl (Yld.nilP rfl) rfl ?_
    refine DL.q rfl (Yld.fieldAddr fo112_2 rfl) rfl ?_
    refine DL.q rfl (Yld.move rfl) rfl ?_
    refine DL.two ?_ ?_
    ·
      refine DL.one rfl (Yld.eff (Yld.load1 (c := 1) Try.underlying40 rfl rfl rfl (by first | exact single_self _ _ | exact pset_self _ _ _ | assumption) rfl)) rfl (by rintro _ _ ⟨rfl, rfl⟩; repeat (first | exact .nil | refine .cons rfl ?_)) ?_
      rintro _ _ ⟨rfl, rfl⟩
      refine DL.one rfl (Eff.call ent67 [30] [30, 131] (.cons rfl .nil) (copied_ct [⟨g.last.1 + 1, t, cl⟩] _ _ _ hO1.sl (by simp)) rfl rfl rfl rfl (by rintro _ _ ⟨_, _, _, _, _, rfl⟩; rfl)) rfl (by rintro _ _ ⟨_, ⟨Hc, pc, cc, rfl, hOc, rfl⟩, rfl⟩; repeat (first | exact .nil | refine .cons rfl ?_)) ?_
      rintro _ _ ⟨_, ⟨Hc, pc, cc, rfl, hOc, rfl⟩, rfl⟩
      refine DL.one rfl (Eff.appendE (tc := 2) (sc := 131) En.c Try.underlying40 el82 rfl rfl rfl rfl hO rfl hOc.sl rfl (fun a _ => a.c_one) (by decide) (by first | (simp; done) | (simp; omega)) (by first | (simp [maxLen]; done) | (simp [maxLen]; omega))) rfl (by rintro _ _ ⟨Hb, pb, cb, rfl, hOb, rfl⟩; repeat (first | exact .nil | refine .cons rfl ?_)) ?_
      rintro _ _ ⟨Hb, pb, cb, rfl, hOb, rfl⟩
      refine DL.q rfl (Yld.nilP rfl) rfl ?_
      refine DL.q rfl (Yld.fieldAddr fo112_2 rfl) rfl ?_
      refine DL.one0 rfl (Eff.storeS (c := 1) _ sz40 rfl rfl rfl rfl rfl rfl rfl (by (try simp only [putAt, List.take, List.drop, List.nil_append, List.cons_append, List.append_nil, List.length_cons, List.length_nil, Nat.add_zero, Nat.zero_add, Nat.reduceAdd]); rfl)) (by rintro _ _ rfl; repeat (first | exact .nil | refine .cons rfl ?_)) ?_
      rintro _ _ rfl
      refine DL.done ?_
      refine N.next ?_
      refine W.keep (.cons (k := 9) rfl .nil) (.cons (k := 0) rfl (.cons (k := 1) rfl (.cons (k := 2) rfl (.cons (k := 3) rfl (.cons (k := 30) rfl (.cons (k := 131) rfl .nil)))))) ?_
      refine W.seq ?_
      refine W.region ?_
      refine RL.q (Yld.move rfl) rfl ?_
      refine RL.e (Eff.call ent67 [30] [30, 132] (.cons rfl .nil) (copied_ct [⟨g.last.1 + 1, t, cl⟩] _ _ _ hO1.sl (by simp)) rfl rfl rfl rfl (by rintro _ _ ⟨_, _, _, _, _, rfl⟩; rfl)) rfl ?_
      rintro _ _ ⟨_, ⟨Hc2, pc2, cc2, rfl, hOc2, rfl⟩, rfl⟩
      refine RL.q (Yld.assign rfl) rfl ?_
      refine RL.nil ?_
      refine N.next ?_
      refine W.ret ?_
      exact N.retBy [1, 2, 3, 132] (.cons (.tmp rfl) .nil) rfl rfl rfl rfl ⟨Hb, pb, cb, Hc2, ⟨_, _, rfl⟩, hOb, rfl⟩
    ·
      refine DL.one rfl (Eff.call ent67 [30] [30, 131] (.cons rfl .nil) (copied_ct [⟨g.last.1 + 1, t, cl⟩] _ _ _ hO1.sl (by simp)) rfl rfl rfl rfl (by rintro _ _ ⟨_, _, _, _, _, rfl⟩; rfl)) rfl (by rintro _ _ ⟨_, ⟨Hc, pc, cc, rfl, hOc, rfl⟩, rfl⟩; repeat (first | exact .nil | refine .cons rfl ?_)) ?_
      rintro _ _ ⟨_, ⟨Hc, pc, cc, rfl, hOc, rfl⟩, rfl⟩
      refine DL.one rfl (Yld.eff (Yld.load1 (c := 1) Try.underlying40 rfl rfl rfl (by first | exact single_self _ _ | exact pset_self _ _ _ | assumption) rfl)) rfl (by rintro _ _ ⟨rfl, rfl⟩; repeat (first | exact .nil | refine .cons rfl ?_)) ?_
      rintro _ _ ⟨rfl, rfl⟩
      refine DL.one rfl (Eff.appendE (tc := 2) (sc := 131) En.c Try.underlying40 el82 rfl rfl rfl rfl hO rfl hOc.sl rfl (fun a _ => a.c_one) (by decide) (by first | (simp; done) | (simp; omega)) (by first | (simp [maxLen]; done) | (simp [maxLen]; omega))) rfl (by rintro _ _ ⟨Hb, pb, cb, rfl, hOb, rfl⟩; repeat (first | exact .nil | refine .cons rfl ?_)) ?_
      rintro _ _ ⟨Hb, pb, cb, rfl, hOb, rfl⟩
      refine DL.q rfl (Yld.nilP rfl) rfl ?_
      refine DL.q rfl (Yld.fieldAddr fo112_2 rfl) rfl ?_
      refine DL.one0 rfl (Eff.storeS (c := 1) _ sz40 rfl rfl rfl rfl rfl rfl rfl (by (try simp only [putAt, List.take, List.drop, List.nil_append, List.cons_append, List.append_nil, List.length_cons, List.length_nil, Nat.add_zero, Nat.zero_add, Nat.reduceAdd]); rfl)) (by rintro _ _ rfl; repeat (first | exact .nil | refine .cons rfl ?_)) ?_
      rintro _ _ rfl
      refine DL.done ?_
      refine N.next ?_
      refine W.keep (.cons (k := 9) rfl .nil) (.cons (k := 0) rfl (.cons (k := 1) rfl (.cons (k := 2) rfl (.cons (k := 3) rfl (.cons (k := 30) rfl (.cons (k := 131) rfl .nil)))))) ?_
      refine W.seq ?_
      refine W.region ?_
      refine RL.q (Yld.move rfl) rfl ?_
      refine RL.e (Eff.call ent67 [30] [30, 132] (.cons rfl .nil) (copied_ct [⟨g.last.1 + 1, t, cl⟩] _ _ _ hO1.sl (by simp)) rfl rfl rfl rfl (by rintro _ _ ⟨_, _, _, _, _, rfl⟩; rfl)) rfl ?_
      rintro _ _ ⟨_, ⟨Hc2, pc2, cc2, rfl, hOc2, rfl⟩, rfl⟩
      refine RL.q (Yld.assign rfl) rfl ?_
      refine RL.nil ?_
      refine N.next ?_
      refine W.ret ?_
      exact N.retBy [1, 2, 3, 132] (.cons (.tmp rfl) .nil) rfl rfl rfl rfl ⟨Hb, pb, cb, Hc2, ⟨_, _, rfl⟩, hOb, rfl⟩

end Go.Proofs.Ytdkefpnebmmhlaa
