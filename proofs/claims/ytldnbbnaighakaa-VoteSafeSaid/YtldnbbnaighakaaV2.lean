/- Contracts of the reference of package vote; votes. Written by program (walk2.py). -/
import Derived.Test.YtldnbbnaighakaaV1
namespace Go.Proofs.Ytldnbbnaighakaa
open SL Cfg Vote
set_option linter.unusedVariables false
set_option linter.unusedSimpArgs false
theorem zc48 : zc Try.prog 48 [.int .i64 0, .int .i64 0, .int .i64 0, .bool false, .slice none 0 0] := (by kernel_rfl : ((Try.prog.info? 48).bind (·.zero)).map (fun v => v.cells.toList) = some [.int .i64 0, .int .i64 0, .int .i64 0, .bool false, .slice none 0 0])
theorem lay48 : layS Try.prog 48 = some ([.int .i64 0, .int .i64 0, .int .i64 0, .bool false, .slice none 0 0], [(0, 1), (1, 1), (2, 1), (3, 1), (4, 1)]) := by kernel_rfl
theorem sz48 : sz Try.prog 48 5 := (by kernel_rfl : (Try.prog.info? 48).map (·.size) = some 5)
theorem fo48_1 : fieldOff Try.prog 48 1 = some 1 := by kernel_rfl
theorem fo48_0 : fieldOff Try.prog 48 0 = some 0 := by kernel_rfl
theorem fo48_2 : fieldOff Try.prog 48 2 = some 2 := by kernel_rfl
theorem fo48_3 : fieldOff Try.prog 48 3 = some 3 := by kernel_rfl
theorem fo48_4 : fieldOff Try.prog 48 4 = some 4 := by kernel_rfl
theorem sz24 : sz Try.prog 24 3 := (by kernel_rfl : (Try.prog.info? 24).map (·.size) = some 3)
theorem ent56 : Ent Try.prog 56 := ⟨_, _, Try.func56, by kernel_rfl, rfl⟩
theorem ent45 : Ent Try.prog 45 := ⟨_, _, Try.func45, by kernel_rfl, rfl⟩
section
open Go.Shelf Go.RowKit Go.Lib Go.Sort
theorem Try.votesCmp (x y : Int) (W : World) : Calls Try.prog 46 #[.int .i64 x, .int .i64 y] W fun e w' => e = .returned (.int .i64 (Lib.compareInt x y)) ∧ w' = W := by
  go_enter Try.func46, Try.ntmps46
  go_wp2
  all_goals (try go_ret)
  · exact ⟨by simp only [compareInt]; rw [if_pos (by assumption)]; try rfl, rfl⟩
  · exact ⟨by simp only [compareInt]; rw [if_neg (by omega), if_pos (by omega)]; try rfl, rfl⟩
  · exact ⟨by simp only [compareInt]; rw [if_neg (by omega), if_neg (by omega)]; try rfl, rfl⟩
theorem ltCmp (x y : Int) : ltOf Lib.compareInt x y = decide (x < y) := by
  unfold ltOf Lib.compareInt
  by_cases h1 : x < y
  · simp [h1]
  · by_cases h2 : y < x <;> simp [h1, h2]
theorem swoCmp : SWO (ltOf Lib.compareInt) where
  irrefl x := by rw [ltCmp]; simp
  trans x y z h1 h2 := by rw [ltCmp] at *; simp at *; omega
  ntrans x y z h1 h2 := by rw [ltCmp] at *; simp at *; omega
theorem Try.cmpLays (blk off size : Nat) (w : World) : CmpLays1 Try.prog 46 #[] (Value.int .i64) Lib.compareInt blk off size w := fun m os dk hs x y =>
  (Try.votesCmp x y _).mono fun _ _ ⟨he, hw⟩ => ⟨he, 0, #[], by rw [hw, grow_empty]; rfl⟩
theorem sortF_ct (l : List Int) (H1 : PH) (p : Option Addr) (c : Nat) (hO : Own H1 p c 3 1 (iz l)) (hb : l.length ≤ 1000000) : Ct Try.prog 45 [.slice p l.length c, .func (.func 46) [].toArray [].toArray] [H1] (fun v Hs => v = .tuple #[] ∧ ∃ H', Own H' p c 3 1 (iz (srt l)) ∧ Hs = [H']) :=
  sortF_ct_of (.func (.func 46) #[] #[]) (Value.int .i64) (fun l => l.mergeSort fun x y => decide (x ≤ y)) (fun l => List.length_mergeSort _) (fun _ => rfl) (fun blk off cap zs w hH hb hs => by
    have eg : ∀ args w, (callFunc 46 args).run Try.prog w = .ok (.enter 46 args) w := enters_of Try.func46 (by kernel_rfl) rfl
    refine (Try.slices_SortFunc_total (Value.int .i64) (fun _ => rfl) Lib.compareInt swoCmp 46 #[] blk off cap zs.toArray w eg (Try.cmpLays blk off _ w) hH hb (by simpa using hs) (fun x y h1 h2 => by rw [ltCmp] at h1 h2; simp at h1 h2; omega)).mono ?_
    rintro e w' ⟨he, n, os, hw⟩
    refine ⟨he, n, os, ?_⟩
    rw [hw]
    unfold sortWorld
    congr 3
    have : (fun x y : Int => !(ltOf Lib.compareInt) y x) = fun x y => decide (x ≤ y) := by
      funext x y; rw [ltCmp, Bool.eq_iff_iff]; simp
    rw [this]) (fun p cap w => Try.slices_SortFunc_none (α := Int) p cap _ w) hO (by omega)
end

set_option maxRecDepth 100000 in
set_option maxHeartbeats 400000 in
theorem rvnew_ct (me t vd : Int) : Ct Try.prog 24 [.int .i64 me, .int .i64 t, .int .i64 vd] [] (fun r Hs => r = .agg [.int .i64 ((nw me t vd)).me, .int .i64 ((nw me t vd)).tm, .int .i64 ((nw me t vd)).vd, .bool ((nw me t vd)).vs.isSome, .slice none (((nw me t vd)).vs.getD []).length 0].toArray ∧ Hs = []) := by
  refine Ct.body Try.func24 rfl Try.ntmps24 rfl ?_
  intro E F
  refine W.seq ?_
  refine W.region ?_
  refine RL.e (Eff.alloc 106 zc48) rfl ?_
  rintro _ _ ⟨b6, rfl, rfl⟩
  refine RL.nil ?_
  refine N.next ?_
  refine W.seq ?_
  refine W.region ?_
  refine RL.q (Yld.move rfl) rfl ?_
  refine RL.q (Yld.move rfl) rfl ?_
  refine RL.q (Yld.max2 rfl rfl) rfl ?_
  refine RL.q (Yld.move rfl) rfl ?_
  refine RL.q (Yld.max2 rfl rfl) rfl ?_
  refine RL.q (Yld.buildP lay48 (.cons rfl rfl (.cons rfl rfl (.cons rfl rfl .nil))) rfl) rfl ?_
  refine RL.e0 (Eff.storeS (c := 106) _ sz48 rfl rfl rfl rfl rfl rfl rfl (by (try simp only [putAt, List.take, List.drop, List.nil_append, List.cons_append, List.append_nil, List.length_cons, List.length_nil, Nat.add_zero, Nat.zero_add, Nat.reduceAdd]); rfl)) ?_
  rintro _ _ rfl
  refine RL.nil ?_
  refine N.next ?_
  refine W.keep (.cons (k := 6) rfl .nil) (.cons (k := 0) rfl (.cons (k := 106) rfl .nil)) ?_
  refine W.ret ?_
  exact N.retBy [] (.cons (by first | exact .cell (c := 106) rfl rfl (fun w hs => run_loadVarA Try.underlying48 rfl sz48 rfl (fun j u hj => by rw [Nat.zero_add, PH.sub.cell hs (by first | exact single_self _ _ | exact pset_self _ _ _ | assumption)]; exact hj))) .nil) rfl rfl rfl rfl ⟨by rw [Int.max_comm 0 t, Int.max_comm 0 vd]; rfl, rfl⟩

set_option maxRecDepth 100000 in
set_option maxHeartbeats 400000 in
theorem rvobs_ct (v : Vt) (H1 : PH) (p : Option Addr) (c : Nat) (hS : Sl H1 p c 1 (iz ((v).vs.getD []))) (t : Int) : Ct Try.prog 40 [.agg [.int .i64 (v).me, .int .i64 (v).tm, .int .i64 (v).vd, .bool (v).vs.isSome, .slice p ((v).vs.getD []).length c].toArray, .int .i64 t] [H1] (fun r Hs => ∃ p' c', r = .tuple [.agg [.int .i64 ((obs v t)).me, .int .i64 ((obs v t)).tm, .int .i64 ((obs v t)).vd, .bool ((obs v t)).vs.isSome, .slice p' (((obs v t)).vs.getD []).length c'].toArray, .bool (!decide (t ≤ v.tm))].toArray ∧ Sl H1 p' c' 1 (iz (((obs v t)).vs.getD [])) ∧ Hs = [H1]) := by
  refine Ct.body Try.func40 rfl Try.ntmps40 rfl ?_
  intro E F
  have hmx := hS.len_le
  simp only [iz_len, maxLen] at hmx
  refine W.seq ?_
  refine W.region ?_
  refine RL.e (Eff.box 102 _ rfl rfl) rfl ?_
  rintro _ _ ⟨b2, rfl, rfl⟩
  refine RL.e (Eff.alloc 104 zc48) rfl ?_
  rintro _ _ ⟨b4, rfl, rfl⟩
  refine RL.q (Yld.assign rfl) rfl ?_
  refine RL.nil ?_
  refine N.next ?_
  refine W.seq ?_
  refine W.seq ?_
  refine W.region ?_
  refine RL.q (Yld.move rfl) rfl ?_
  refine RL.q (Yld.fieldAddr fo48_1 rfl) rfl ?_
  refine RL.q (Yld.load1 (c := 102) Try.underlying3 rfl rfl rfl (by first | exact single_self _ _ | exact pset_self _ _ _ | assumption) rfl) rfl ?_
  refine RL.q (Yld.bin rfl rfl BinV.leq) rfl ?_
  refine RL.nil ?_
  refine N.next ?_
  refine W.keep (.cons (k := 1) rfl (.cons (k := 2) rfl (.cons (k := 4) rfl (.cons (k := 9) rfl .nil)))) (.cons (k := 0) rfl (.cons (k := 1) rfl (.cons (k := 102) rfl (.cons (k := 104) rfl .nil)))) ?_
  first | refine W.condD rfl (fun hc9 => ?_) (fun hc9 => ?_) | (refine W.cond rfl (fun hc9 => ?_) (fun hc9 => ?_) <;> try simp only [Bool.or_eq_true, Bool.and_eq_true, Bool.not_eq_true', Bool.not_eq_false', decide_eq_true_eq, Bool.or_eq_false_iff, Bool.and_eq_false_iff, decide_eq_false_iff_not, beq_iff_eq, beq_eq_false_iff_ne, ne_eq, Decidable.not_not] at hc9)
  ·
    refine W.seq ?_
    refine W.region ?_
    refine RL.q (Yld.loadW (c := 102) Try.underlying48 rfl sz48 rfl rfl (by first | exact single_self _ _ | exact pset_self _ _ _ | assumption) rfl) rfl ?_
    refine RL.e0 (Eff.storeS (c := 104) _ sz48 rfl rfl rfl rfl rfl rfl rfl (by (try simp only [putAt, List.take, List.drop, List.nil_append, List.cons_append, List.append_nil, List.length_cons, List.length_nil, Nat.add_zero, Nat.zero_add, Nat.reduceAdd]); rfl)) ?_
    rintro _ _ rfl
    refine RL.q (Yld.assign rfl) rfl ?_
    refine RL.nil ?_
    refine N.next ?_
    refine W.keep (.cons (k := 4) rfl (.cons (k := 5) rfl .nil)) (.cons (k := 0) rfl (.cons (k := 1) rfl (.cons (k := 102) rfl (.cons (k := 104) rfl .nil)))) ?_
    refine W.ret ?_
    refine N.then_ret ?_
    exact N.retBy [1] (.cons (by first | exact .cell (c := 104) rfl rfl (fun w hs => run_loadVarA Try.underlying48 rfl sz48 rfl (fun j u hj => by rw [Nat.zero_add, PH.sub.cell hs (by first | exact single_self _ _ | exact pset_self _ _ _ | assumption)]; exact hj))) (.cons (.tmp rfl) .nil)) rfl rfl rfl rfl ⟨p, c, by rw [decide_eq_true hc9]; unfold obs; rw [if_pos hc9]; rfl, by unfold obs; rw [if_pos hc9]; exact hS, rfl⟩
  ·
    refine W.skip ?_
    refine N.next ?_
    refine W.seq ?_
    refine W.region ?_
    refine RL.q (Yld.fieldAddr fo48_0 rfl) rfl ?_
    refine RL.q (Yld.load1 (c := 102) Try.underlying3 rfl rfl rfl (by first | exact single_self _ _ | exact pset_self _ _ _ | assumption) rfl) rfl ?_
    refine RL.q (Yld.move rfl) rfl ?_
    refine RL.q (Yld.buildP lay48 (.cons rfl rfl (.cons rfl rfl .nil)) rfl) rfl ?_
    refine RL.e0 (Eff.storeS (c := 104) _ sz48 rfl rfl rfl rfl rfl rfl rfl (by (try simp only [putAt, List.take, List.drop, List.nil_append, List.cons_append, List.append_nil, List.length_cons, List.length_nil, Nat.add_zero, Nat.zero_add, Nat.reduceAdd]); rfl)) ?_
    rintro _ _ rfl
    refine RL.q (Yld.assign rfl) rfl ?_
    refine RL.nil ?_
    refine N.next ?_
    refine W.keep (.cons (k := 4) rfl (.cons (k := 5) rfl .nil)) (.cons (k := 0) rfl (.cons (k := 1) rfl (.cons (k := 102) rfl (.cons (k := 104) rfl .nil)))) ?_
    refine W.ret ?_
    exact N.retBy [1] (.cons (by first | exact .cell (c := 104) rfl rfl (fun w hs => run_loadVarA Try.underlying48 rfl sz48 rfl (fun j u hj => by rw [Nat.zero_add, PH.sub.cell hs (by first | exact single_self _ _ | exact pset_self _ _ _ | assumption)]; exact hj))) (.cons (.tmp rfl) .nil)) rfl rfl rfl rfl ⟨none, 0, by rw [decide_eq_false hc9]; unfold obs; rw [if_neg hc9]; rfl, by unfold obs; rw [if_neg hc9]; exact ⟨rfl, rfl⟩, rfl⟩

set_option maxRecDepth 100000 in
set_option maxHeartbeats 400000 in
theorem rvgrant_ct (v : Vt) (H1 : PH) (p : Option Addr) (c : Nat) (hS : Sl H1 p c 1 (iz ((v).vs.getD []))) (d t : Int) (n : Bool) : Ct Try.prog 41 [.agg [.int .i64 (v).me, .int .i64 (v).tm, .int .i64 (v).vd, .bool (v).vs.isSome, .slice p ((v).vs.getD []).length c].toArray, .int .i64 d, .int .i64 t, .bool n] [H1] (fun r Hs => r = .tuple [.agg [.int .i64 ((gr v d t n)).me, .int .i64 ((gr v d t n)).tm, .int .i64 ((gr v d t n)).vd, .bool ((gr v d t n)).vs.isSome, .slice p (((gr v d t n)).vs.getD []).length c].toArray, .bool (!gno v d t n)].toArray ∧ Hs = [H1]) := by
  refine Ct.body Try.func41 rfl Try.ntmps41 rfl ?_
  intro E F
  have hmx := hS.len_le
  simp only [iz_len, maxLen] at hmx
  refine W.seq ?_
  refine W.region ?_
  refine RL.e (Eff.box 104 _ rfl rfl) rfl ?_
  rintro _ _ ⟨b4, rfl, rfl⟩
  refine RL.e (Eff.alloc 108 zc48) rfl ?_
  rintro _ _ ⟨b8, rfl, rfl⟩
  refine RL.q (Yld.assign rfl) rfl ?_
  refine RL.nil ?_
  refine N.next ?_
  refine W.seq ?_
  refine W.seq ?_
  refine W.region ?_
  refine RL.q (Yld.move rfl) rfl ?_
  refine RL.q (Yld.fieldAddr fo48_1 rfl) rfl ?_
  refine RL.q (Yld.load1 (c := 104) Try.underlying3 rfl rfl rfl (by first | exact single_self _ _ | exact pset_self _ _ _ | assumption) rfl) rfl ?_
  refine RL.q (Yld.bin rfl rfl BinV.neq) rfl ?_
  refine RL.q (Yld.move rfl) rfl ?_
  refine' RL.or (t := 14) (d := 17) 3 rfl (.cons (k := 0) rfl (.cons (k := 1) rfl (.cons (k := 2) rfl (.cons (k := 3) rfl (.cons (k := 4) rfl (.cons (k := 8) rfl (.cons (k := 9) rfl (.cons (k := 10) rfl (.cons (k := 11) rfl (.cons (k := 12) rfl (.cons (k := 13) rfl .nil))))))))))) (.cons (k := 0) rfl (.cons (k := 1) rfl (.cons (k := 104) rfl (.cons (k := 108) rfl .nil)))) ?_ ?_ ?_
  rotate_left 1
  ·
    intro hg14
    refine RL.gq rfl rfl (Yld.move rfl) rfl ?_
    refine RL.gq rfl rfl (by first | exact Yld.notD rfl | exact Yld.not rfl) rfl ?_
    refine RL.q (by first | exact Yld.pickT rfl rfl | exact Yld.pickF rfl rfl) rfl ?_
    exact RL.nil (N.meet (.cons rfl (.cons rfl (.cons rfl (.cons rfl (.cons rfl (.cons rfl (.cons rfl (.cons rfl (.cons rfl (.cons rfl (.cons rfl (.cons rfl .nil)))))))))))) (.cons rfl (.cons rfl (.cons rfl (.cons rfl .nil)))))
  ·
    intro hg14
    refine RL.gskip rfl rfl rfl rfl ?_
    refine RL.gskip rfl rfl rfl rfl ?_
    refine RL.q (by first | exact Yld.pickT rfl rfl | exact Yld.pickF rfl rfl) rfl ?_
    exact RL.nil (N.meet (.cons rfl (.cons rfl (.cons rfl (.cons rfl (.cons rfl (.cons rfl (.cons rfl (.cons rfl (.cons rfl (.cons rfl (.cons rfl (.cons rfl .nil)))))))))))) (.cons rfl (.cons rfl (.cons rfl (.cons rfl .nil)))))
  refine RL.q (Yld.move rfl) rfl ?_
  refine' RL.or (t := 18) (d := 21) 3 rfl (.cons (k := 0) rfl (.cons (k := 1) rfl (.cons (k := 2) rfl (.cons (k := 3) rfl (.cons (k := 4) rfl (.cons (k := 8) rfl (.cons (k := 9) rfl (.cons (k := 10) rfl (.cons (k := 11) rfl (.cons (k := 12) rfl (.cons (k := 13) rfl (.cons (k := 17) rfl .nil)))))))))))) (.cons (k := 0) rfl (.cons (k := 1) rfl (.cons (k := 104) rfl (.cons (k := 108) rfl .nil)))) ?_ ?_ ?_
  rotate_left 1
  ·
    intro hg18
    refine RL.gq rfl rfl (Yld.move rfl) rfl ?_
    refine RL.gq rfl rfl (Yld.bin rfl rfl BinV.lss) rfl ?_
    refine RL.q (by first | exact Yld.pickT rfl rfl | exact Yld.pickF rfl rfl) rfl ?_
    exact RL.nil (N.meet (.cons rfl (.cons rfl (.cons rfl (.cons rfl (.cons rfl (.cons rfl (.cons rfl (.cons rfl (.cons rfl (.cons rfl (.cons rfl (.cons rfl (.cons rfl .nil))))))))))))) (.cons rfl (.cons rfl (.cons rfl (.cons rfl .nil)))))
  ·
    intro hg18
    refine RL.gskip rfl rfl rfl rfl ?_
    refine RL.gskip rfl rfl rfl rfl ?_
    refine RL.q (by first | exact Yld.pickT rfl rfl | exact Yld.pickF rfl rfl) rfl ?_
    exact RL.nil (N.meet (.cons rfl (.cons rfl (.cons rfl (.cons rfl (.cons rfl (.cons rfl (.cons rfl (.cons rfl (.cons rfl (.cons rfl (.cons rfl (.cons rfl (.cons rfl .nil))))))))))))) (.cons rfl (.cons rfl (.cons rfl (.cons rfl .nil)))))
  refine RL.q (Yld.move rfl) rfl ?_
  refine' RL.or (t := 22) (d := 32) 10 rfl (.cons (k := 0) rfl (.cons (k := 1) rfl (.cons (k := 2) rfl (.cons (k := 3) rfl (.cons (k := 4) rfl (.cons (k := 8) rfl (.cons (k := 9) rfl (.cons (k := 10) rfl (.cons (k := 11) rfl (.cons (k := 12) rfl (.cons (k := 13) rfl (.cons (k := 17) rfl (.cons (k := 21) rfl .nil))))))))))))) (.cons (k := 0) rfl (.cons (k := 1) rfl (.cons (k := 104) rfl (.cons (k := 108) rfl .nil)))) ?_ ?_ ?_
  rotate_left 1
  ·
    intro hg22
    refine RL.gq rfl rfl (Yld.fieldAddr fo48_2 rfl) rfl ?_
    refine RL.gq rfl rfl (Yld.load1 (c := 104) Try.underlying3 rfl rfl rfl (by first | exact single_self _ _ | exact pset_self _ _ _ | assumption) rfl) rfl ?_
    refine RL.gq rfl rfl (Yld.bin rfl rfl BinV.neq) rfl ?_
    refine RL.gq rfl rfl (Yld.move rfl) rfl ?_
    refine' RL.and (t := 26) (d := 31) 5 rfl (.cons (k := 0) rfl (.cons (k := 1) rfl (.cons (k := 2) rfl (.cons (k := 3) rfl (.cons (k := 4) rfl (.cons (k := 8) rfl (.cons (k := 9) rfl (.cons (k := 10) rfl (.cons (k := 11) rfl (.cons (k := 12) rfl (.cons (k := 13) rfl (.cons (k := 17) rfl (.cons (k := 21) rfl (.cons (k := 22) rfl (.cons (k := 23) rfl (.cons (k := 24) rfl (.cons (k := 25) rfl .nil))))))))))))))))) (.cons (k := 0) rfl (.cons (k := 1) rfl (.cons (k := 104) rfl (.cons (k := 108) rfl .nil)))) ?_ ?_ ?_
    rotate_left 1
    ·
      intro hg26
      refine RL.gq rfl rfl (Yld.fieldAddr fo48_2 rfl) rfl ?_
      refine RL.gq rfl rfl (Yld.load1 (c := 104) Try.underlying3 rfl rfl rfl (by first | exact single_self _ _ | exact pset_self _ _ _ | assumption) rfl) rfl ?_
      refine RL.gq rfl rfl (Yld.move rfl) rfl ?_
      refine RL.gq rfl rfl (Yld.bin rfl rfl BinV.neq) rfl ?_
      refine RL.gq rfl rfl (by first | exact Yld.pickT rfl rfl | exact Yld.pickF rfl rfl) rfl ?_
      exact RL.nil (N.meet (.cons rfl (.cons rfl (.cons rfl (.cons rfl (.cons rfl (.cons rfl (.cons rfl (.cons rfl (.cons rfl (.cons rfl (.cons rfl (.cons rfl (.cons rfl (.cons rfl (.cons rfl (.cons rfl (.cons rfl (.cons rfl .nil)))))))))))))))))) (.cons rfl (.cons rfl (.cons rfl (.cons rfl .nil)))))
    ·
      intro hg26
      refine RL.gskip rfl rfl rfl rfl ?_
      refine RL.gskip rfl rfl rfl rfl ?_
      refine RL.gskip rfl rfl rfl rfl ?_
      refine RL.gskip rfl rfl rfl rfl ?_
      refine RL.gq rfl rfl (by first | exact Yld.pickT rfl rfl | exact Yld.pickF rfl rfl) rfl ?_
      exact RL.nil (N.meet (.cons rfl (.cons rfl (.cons rfl (.cons rfl (.cons rfl (.cons rfl (.cons rfl (.cons rfl (.cons rfl (.cons rfl (.cons rfl (.cons rfl (.cons rfl (.cons rfl (.cons rfl (.cons rfl (.cons rfl (.cons rfl .nil)))))))))))))))))) (.cons rfl (.cons rfl (.cons rfl (.cons rfl .nil)))))
    refine RL.q (by first | exact Yld.pickT rfl rfl | exact Yld.pickF rfl rfl) rfl ?_
    exact RL.nil (N.meet (.cons rfl (.cons rfl (.cons rfl (.cons rfl (.cons rfl (.cons rfl (.cons rfl (.cons rfl (.cons rfl (.cons rfl (.cons rfl (.cons rfl (.cons rfl (.cons rfl .nil)))))))))))))) (.cons rfl (.cons rfl (.cons rfl (.cons rfl .nil)))))
  ·
    intro hg22
    refine RL.gskip rfl rfl rfl rfl ?_
    refine RL.gskip rfl rfl rfl rfl ?_
    refine RL.gskip rfl rfl rfl rfl ?_
    refine RL.gskip rfl rfl rfl rfl ?_
    refine RL.gskipU rfl rfl rfl ?_
    refine RL.gskipU rfl rfl rfl ?_
    refine RL.gskipU rfl rfl rfl ?_
    refine RL.gskipU rfl rfl rfl ?_
    refine RL.gskip rfl rfl rfl rfl ?_
    refine RL.q (by first | exact Yld.pickT rfl rfl | exact Yld.pickF rfl rfl) rfl ?_
    exact RL.nil (N.meet (.cons rfl (.cons rfl (.cons rfl (.cons rfl (.cons rfl (.cons rfl (.cons rfl (.cons rfl (.cons rfl (.cons rfl (.cons rfl (.cons rfl (.cons rfl (.cons rfl .nil)))))))))))))) (.cons rfl (.cons rfl (.cons rfl (.cons rfl .nil)))))
  refine RL.q (Yld.move rfl) rfl ?_
  refine' RL.or (t := 33) (d := 42) 9 rfl (.cons (k := 0) rfl (.cons (k := 1) rfl (.cons (k := 2) rfl (.cons (k := 3) rfl (.cons (k := 4) rfl (.cons (k := 8) rfl (.cons (k := 9) rfl (.cons (k := 10) rfl (.cons (k := 11) rfl (.cons (k := 12) rfl (.cons (k := 13) rfl (.cons (k := 17) rfl (.cons (k := 21) rfl (.cons (k := 32) rfl .nil)))))))))))))) (.cons (k := 0) rfl (.cons (k := 1) rfl (.cons (k := 104) rfl (.cons (k := 108) rfl .nil)))) ?_ ?_ ?_
  rotate_left 1
  ·
    intro hg33
    refine RL.gq rfl rfl (Yld.fieldAddr fo48_3 rfl) rfl ?_
    refine RL.gq rfl rfl (Yld.load1 (c := 104) Try.underlying4 rfl rfl rfl (by first | exact single_self _ _ | exact pset_self _ _ _ | assumption) rfl) rfl ?_
    refine RL.gq rfl rfl (Yld.move rfl) rfl ?_
    refine' RL.and (t := 36) (d := 41) 5 rfl (.cons (k := 0) rfl (.cons (k := 1) rfl (.cons (k := 2) rfl (.cons (k := 3) rfl (.cons (k := 4) rfl (.cons (k := 8) rfl (.cons (k := 9) rfl (.cons (k := 10) rfl (.cons (k := 11) rfl (.cons (k := 12) rfl (.cons (k := 13) rfl (.cons (k := 17) rfl (.cons (k := 21) rfl (.cons (k := 32) rfl (.cons (k := 33) rfl (.cons (k := 34) rfl (.cons (k := 35) rfl .nil))))))))))))))))) (.cons (k := 0) rfl (.cons (k := 1) rfl (.cons (k := 104) rfl (.cons (k := 108) rfl .nil)))) ?_ ?_ ?_
    rotate_left 1
    ·
      intro hg36
      refine RL.gq rfl rfl (Yld.move rfl) rfl ?_
      refine RL.gq rfl rfl (Yld.fieldAddr fo48_0 rfl) rfl ?_
      refine RL.gq rfl rfl (Yld.load1 (c := 104) Try.underlying3 rfl rfl rfl (by first | exact single_self _ _ | exact pset_self _ _ _ | assumption) rfl) rfl ?_
      refine RL.gq rfl rfl (Yld.bin rfl rfl BinV.neq) rfl ?_
      refine RL.gq rfl rfl (by first | exact Yld.pickT rfl rfl | exact Yld.pickF rfl rfl) rfl ?_
      exact RL.nil (N.meet (.cons rfl (.cons rfl (.cons rfl (.cons rfl (.cons rfl (.cons rfl (.cons rfl (.cons rfl (.cons rfl (.cons rfl (.cons rfl (.cons rfl (.cons rfl (.cons rfl (.cons rfl (.cons rfl (.cons rfl (.cons rfl .nil)))))))))))))))))) (.cons rfl (.cons rfl (.cons rfl (.cons rfl .nil)))))
    ·
      intro hg36
      refine RL.gskip rfl rfl rfl rfl ?_
      refine RL.gskip rfl rfl rfl rfl ?_
      refine RL.gskip rfl rfl rfl rfl ?_
      refine RL.gskip rfl rfl rfl rfl ?_
      refine RL.gq rfl rfl (by first | exact Yld.pickT rfl rfl | exact Yld.pickF rfl rfl) rfl ?_
      exact RL.nil (N.meet (.cons rfl (.cons rfl (.cons rfl (.cons rfl (.cons rfl (.cons rfl (.cons rfl (.cons rfl (.cons rfl (.cons rfl (.cons rfl (.cons rfl (.cons rfl (.cons rfl (.cons rfl (.cons rfl (.cons rfl (.cons rfl .nil)))))))))))))))))) (.cons rfl (.cons rfl (.cons rfl (.cons rfl .nil)))))
    refine RL.q (by first | exact Yld.pickT rfl rfl | exact Yld.pickF rfl rfl) rfl ?_
    exact RL.nil (N.meet (.cons rfl (.cons rfl (.cons rfl (.cons rfl (.cons rfl (.cons rfl (.cons rfl (.cons rfl (.cons rfl (.cons rfl (.cons rfl (.cons rfl (.cons rfl (.cons rfl (.cons rfl .nil))))))))))))))) (.cons rfl (.cons rfl (.cons rfl (.cons rfl .nil)))))
  ·
    intro hg33
    refine RL.gskip rfl rfl rfl rfl ?_
    refine RL.gskip rfl rfl rfl rfl ?_
    refine RL.gskip rfl rfl rfl rfl ?_
    refine RL.gskipU rfl rfl rfl ?_
    refine RL.gskipU rfl rfl rfl ?_
    refine RL.gskipU rfl rfl rfl ?_
    refine RL.gskipU rfl rfl rfl ?_
    refine RL.gskip rfl rfl rfl rfl ?_
    refine RL.q (by first | exact Yld.pickT rfl rfl | exact Yld.pickF rfl rfl) rfl ?_
    exact RL.nil (N.meet (.cons rfl (.cons rfl (.cons rfl (.cons rfl (.cons rfl (.cons rfl (.cons rfl (.cons rfl (.cons rfl (.cons rfl (.cons rfl (.cons rfl (.cons rfl (.cons rfl (.cons rfl .nil))))))))))))))) (.cons rfl (.cons rfl (.cons rfl (.cons rfl .nil)))))
  refine RL.nil ?_
  refine N.next ?_
  refine W.keep (.cons (k := 1) rfl (.cons (k := 4) rfl (.cons (k := 8) rfl (.cons (k := 42) rfl .nil)))) (.cons (k := 0) rfl (.cons (k := 1) rfl (.cons (k := 104) rfl (.cons (k := 108) rfl .nil)))) ?_
  refine W.cond rfl (fun hc42 => ?_) (fun hc42 => ?_)
  ·
    have hcn : gno v d t n = true := hc42
    refine W.seq ?_
    refine W.region ?_
    refine RL.q (Yld.loadW (c := 104) Try.underlying48 rfl sz48 rfl rfl (by first | exact single_self _ _ | exact pset_self _ _ _ | assumption) rfl) rfl ?_
    refine RL.e0 (Eff.storeS (c := 108) _ sz48 rfl rfl rfl rfl rfl rfl rfl (by (try simp only [putAt, List.take, List.drop, List.nil_append, List.cons_append, List.append_nil, List.length_cons, List.length_nil, Nat.add_zero, Nat.zero_add, Nat.reduceAdd]); rfl)) ?_
    rintro _ _ rfl
    refine RL.q (Yld.assign rfl) rfl ?_
    refine RL.nil ?_
    refine N.next ?_
    refine W.keep (.cons (k := 8) rfl (.cons (k := 9) rfl .nil)) (.cons (k := 0) rfl (.cons (k := 1) rfl (.cons (k := 104) rfl (.cons (k := 108) rfl .nil)))) ?_
    refine W.ret ?_
    refine N.then_ret ?_
    exact N.retBy [1] (.cons (by first | exact .cell (c := 108) rfl rfl (fun w hs => run_loadVarA Try.underlying48 rfl sz48 rfl (fun j u hj => by rw [Nat.zero_add, PH.sub.cell hs (by first | exact single_self _ _ | exact pset_self _ _ _ | assumption)]; exact hj))) (.cons (.tmp rfl) .nil)) rfl rfl rfl rfl ⟨by rw [gno_ok, if_pos hcn, hcn]; rfl, rfl⟩
  ·
    have hcn : gno v d t n = false := hc42
    refine W.skip ?_
    refine N.next ?_
    refine W.seq ?_
    refine W.region ?_
    refine RL.q (Yld.move rfl) rfl ?_
    refine RL.q (Yld.fieldAddr fo48_2 rfl) rfl ?_
    refine RL.e0 (Eff.storeS (c := 104) _ sz3 rfl rfl rfl rfl rfl rfl rfl (by (try simp only [putAt, List.take, List.drop, List.nil_append, List.cons_append, List.append_nil, List.length_cons, List.length_nil, Nat.add_zero, Nat.zero_add, Nat.reduceAdd]); rfl)) ?_
    rintro _ _ rfl
    refine RL.nil ?_
    refine N.next ?_
    refine W.keep (.cons (k := 4) rfl (.cons (k := 8) rfl .nil)) (.cons (k := 0) rfl (.cons (k := 1) rfl (.cons (k := 104) rfl (.cons (k := 108) rfl .nil)))) ?_
    refine W.seq ?_
    refine W.region ?_
    refine RL.q (Yld.loadW (c := 104) Try.underlying48 rfl sz48 rfl rfl (by first | exact single_self _ _ | exact pset_self _ _ _ | assumption) rfl) rfl ?_
    refine RL.e0 (Eff.storeS (c := 108) _ sz48 rfl rfl rfl rfl rfl rfl rfl (by (try simp only [putAt, List.take, List.drop, List.nil_append, List.cons_append, List.append_nil, List.length_cons, List.length_nil, Nat.add_zero, Nat.zero_add, Nat.reduceAdd]); rfl)) ?_
    rintro _ _ rfl
    refine RL.q (Yld.assign rfl) rfl ?_
    refine RL.nil ?_
    refine N.next ?_
    refine W.ret ?_
    exact N.retBy [1] (.cons (by first | exact .cell (c := 108) rfl rfl (fun w hs => run_loadVarA Try.underlying48 rfl sz48 rfl (fun j u hj => by rw [Nat.zero_add, PH.sub.cell hs (by first | exact single_self _ _ | exact pset_self _ _ _ | assumption)]; exact hj))) (.cons (.tmp rfl) .nil)) rfl rfl rfl rfl ⟨by rw [gno_ok, if_neg (by rw [hcn]; decide), hcn]; rfl, rfl⟩

set_option maxRecDepth 100000 in
set_option maxHeartbeats 400000 in
theorem rvcamp_ct (v : Vt) (H1 : PH) (p : Option Addr) (c : Nat) (hS : Sl H1 p c 1 (iz ((v).vs.getD []))) (k : Nat) (hk : k ≤ 1000) (hv : VOK k v) : Ct Try.prog 42 [.agg [.int .i64 (v).me, .int .i64 (v).tm, .int .i64 (v).vd, .bool (v).vs.isSome, .slice p ((v).vs.getD []).length c].toArray] [H1] (fun r Hs => ∃ H' p' c', r = .agg [.int .i64 ((camp v)).me, .int .i64 ((camp v)).tm, .int .i64 ((camp v)).vd, .bool ((camp v)).vs.isSome, .slice p' (((camp v)).vs.getD []).length c'].toArray ∧ Sl H' p' c' 1 (iz (((camp v)).vs.getD [])) ∧ Hs = [H']) := by
  refine Ct.body Try.func42 rfl Try.ntmps42 rfl ?_
  intro E F
  have hmx := hS.len_le
  simp only [iz_len, maxLen] at hmx
  have h1 := hv.t0
  have h2 := hv.t1
  refine W.seq ?_
  refine W.region ?_
  refine RL.e (Eff.box 101 _ rfl rfl) rfl ?_
  rintro _ _ ⟨b1, rfl, rfl⟩
  refine RL.e (Eff.alloc 102 zc48) rfl ?_
  rintro _ _ ⟨b2, rfl, rfl⟩
  refine RL.nil ?_
  refine N.next ?_
  refine W.seq ?_
  refine W.region ?_
  refine RL.q (Yld.fieldAddr fo48_0 rfl) rfl ?_
  refine RL.q (Yld.load1 (c := 101) Try.underlying3 rfl rfl rfl (by first | exact single_self _ _ | exact pset_self _ _ _ | assumption) rfl) rfl ?_
  refine RL.q (Yld.fieldAddr fo48_1 rfl) rfl ?_
  refine RL.q (Yld.load1 (c := 101) Try.underlying3 rfl rfl rfl (by first | exact single_self _ _ | exact pset_self _ _ _ | assumption) rfl) rfl ?_
  refine RL.q (Yld.bin rfl rfl (by first | exact BinV.add (by omega) (by omega) | exact BinV.addW)) rfl ?_
  refine RL.q (Yld.fieldAddr fo48_0 rfl) rfl ?_
  refine RL.q (Yld.load1 (c := 101) Try.underlying3 rfl rfl rfl (by first | exact single_self _ _ | exact pset_self _ _ _ | assumption) rfl) rfl ?_
  refine RL.q (Yld.fieldAddr fo48_0 rfl) rfl ?_
  refine RL.q (Yld.load1 (c := 101) Try.underlying3 rfl rfl rfl (by first | exact single_self _ _ | exact pset_self _ _ _ | assumption) rfl) rfl ?_
  refine RL.e (Eff.buildSlice 112 Try.underlying22 sz3 zc3 rfl rfl (.cons rfl rfl .nil) rfl) rfl ?_
  rintro _ _ ⟨b12, rfl, rfl⟩
  refine RL.q (Yld.buildP lay48 (.cons rfl rfl (.cons rfl rfl (.cons rfl rfl (.cons rfl rfl (.cons rfl rfl .nil))))) rfl) rfl ?_
  refine RL.e0 (Eff.storeS (c := 102) _ sz48 rfl rfl rfl rfl rfl rfl rfl (by (try simp only [putAt, List.take, List.drop, List.nil_append, List.cons_append, List.append_nil, List.length_cons, List.length_nil, Nat.add_zero, Nat.zero_add, Nat.reduceAdd]); rfl)) ?_
  rintro _ _ rfl
  refine RL.nil ?_
  refine N.next ?_
  refine W.keep (.cons (k := 2) rfl .nil) (.cons (k := 0) rfl (.cons (k := 1) rfl (.cons (k := 101) rfl (.cons (k := 102) rfl (.cons (k := 112) rfl .nil))))) ?_
  refine W.ret ?_
  exact N.retBy [112] (.cons (by first | exact .cell (c := 102) rfl rfl (fun w hs => run_loadVarA Try.underlying48 rfl sz48 rfl (fun j u hj => by rw [Nat.zero_add, PH.sub.cell hs (by first | exact single_self _ _ | exact pset_self _ _ _ | assumption)]; exact hj))) .nil) rfl rfl rfl rfl ⟨_, _, _, rfl, iz_single rfl, rfl⟩

set_option maxRecDepth 100000 in
set_option maxHeartbeats 400000 in
theorem rvcount_ct (v : Vt) (H1 : PH) (p : Option Addr) (c : Nat) (hS : Sl H1 p c 1 (iz ((v).vs.getD []))) (hl : (v.vs.getD []).length ≤ 100000) (f t : Int) (g : Bool) : Ct Try.prog 43 [.agg [.int .i64 (v).me, .int .i64 (v).tm, .int .i64 (v).vd, .bool (v).vs.isSome, .slice p ((v).vs.getD []).length c].toArray, .int .i64 f, .int .i64 t, .bool g] [H1] (fun r Hs => ∃ H' p' c', r = .tuple [.agg [.int .i64 ((cnt v f t g)).me, .int .i64 ((cnt v f t g)).tm, .int .i64 ((cnt v f t g)).vd, .bool ((cnt v f t g)).vs.isSome, .slice p' (((cnt v f t g)).vs.getD []).length c'].toArray, .bool (!cno v f t g)].toArray ∧ Sl H' p' c' 1 (iz (((cnt v f t g)).vs.getD [])) ∧ Hs = [H']) := by
  refine Ct.body Try.func43 rfl Try.ntmps43 rfl ?_
  intro E F
  have hmx := hS.len_le
  simp only [iz_len, maxLen] at hmx
  refine W.seq ?_
  refine W.region ?_
  refine RL.e (Eff.box 104 _ rfl rfl) rfl ?_
  rintro _ _ ⟨b4, rfl, rfl⟩
  refine RL.e (Eff.alloc 108 zc48) rfl ?_
  rintro _ _ ⟨b8, rfl, rfl⟩
  refine RL.q (Yld.assign rfl) rfl ?_
  refine RL.nil ?_
  refine N.next ?_
  refine W.seq ?_
  refine W.seq ?_
  refine W.region ?_
  refine RL.q (Yld.fieldAddr fo48_3 rfl) rfl ?_
  refine RL.q (Yld.load1 (c := 104) Try.underlying4 rfl rfl rfl (by first | exact single_self _ _ | exact pset_self _ _ _ | assumption) rfl) rfl ?_
  refine RL.q (by first | exact Yld.notD rfl | exact Yld.not rfl) rfl ?_
  refine RL.q (Yld.move rfl) rfl ?_
  refine' RL.or (t := 13) (d := 18) 5 rfl (.cons (k := 0) rfl (.cons (k := 1) rfl (.cons (k := 2) rfl (.cons (k := 3) rfl (.cons (k := 4) rfl (.cons (k := 8) rfl (.cons (k := 9) rfl (.cons (k := 10) rfl (.cons (k := 11) rfl (.cons (k := 12) rfl .nil)))))))))) (.cons (k := 0) rfl (.cons (k := 1) rfl (.cons (k := 104) rfl (.cons (k := 108) rfl .nil)))) ?_ ?_ ?_
  rotate_left 1
  ·
    intro hg13
    refine RL.gq rfl rfl (Yld.move rfl) rfl ?_
    refine RL.gq rfl rfl (Yld.fieldAddr fo48_1 rfl) rfl ?_
    refine RL.gq rfl rfl (Yld.load1 (c := 104) Try.underlying3 rfl rfl rfl (by first | exact single_self _ _ | exact pset_self _ _ _ | assumption) rfl) rfl ?_
    refine RL.gq rfl rfl (Yld.bin rfl rfl BinV.neq) rfl ?_
    refine RL.q (by first | exact Yld.pickT rfl rfl | exact Yld.pickF rfl rfl) rfl ?_
    exact RL.nil (N.meet (.cons rfl (.cons rfl (.cons rfl (.cons rfl (.cons rfl (.cons rfl (.cons rfl (.cons rfl (.cons rfl (.cons rfl (.cons rfl .nil))))))))))) (.cons rfl (.cons rfl (.cons rfl (.cons rfl .nil)))))
  ·
    intro hg13
    refine RL.gskip rfl rfl rfl rfl ?_
    refine RL.gskip rfl rfl rfl rfl ?_
    refine RL.gskip rfl rfl rfl rfl ?_
    refine RL.gskip rfl rfl rfl rfl ?_
    refine RL.q (by first | exact Yld.pickT rfl rfl | exact Yld.pickF rfl rfl) rfl ?_
    exact RL.nil (N.meet (.cons rfl (.cons rfl (.cons rfl (.cons rfl (.cons rfl (.cons rfl (.cons rfl (.cons rfl (.cons rfl (.cons rfl (.cons rfl .nil))))))))))) (.cons rfl (.cons rfl (.cons rfl (.cons rfl .nil)))))
  refine RL.q (Yld.move rfl) rfl ?_
  refine' RL.or (t := 19) (d := 22) 3 rfl (.cons (k := 0) rfl (.cons (k := 1) rfl (.cons (k := 2) rfl (.cons (k := 3) rfl (.cons (k := 4) rfl (.cons (k := 8) rfl (.cons (k := 9) rfl (.cons (k := 10) rfl (.cons (k := 11) rfl (.cons (k := 12) rfl (.cons (k := 18) rfl .nil))))))))))) (.cons (k := 0) rfl (.cons (k := 1) rfl (.cons (k := 104) rfl (.cons (k := 108) rfl .nil)))) ?_ ?_ ?_
  rotate_left 1
  ·
    intro hg19
    refine RL.gq rfl rfl (Yld.move rfl) rfl ?_
    refine RL.gq rfl rfl (by first | exact Yld.notD rfl | exact Yld.not rfl) rfl ?_
    refine RL.q (by first | exact Yld.pickT rfl rfl | exact Yld.pickF rfl rfl) rfl ?_
    exact RL.nil (N.meet (.cons rfl (.cons rfl (.cons rfl (.cons rfl (.cons rfl (.cons rfl (.cons rfl (.cons rfl (.cons rfl (.cons rfl (.cons rfl (.cons rfl .nil)))))))))))) (.cons rfl (.cons rfl (.cons rfl (.cons rfl .nil)))))
  ·
    intro hg19
    refine RL.gskip rfl rfl rfl rfl ?_
    refine RL.gskip rfl rfl rfl rfl ?_
    refine RL.q (by first | exact Yld.pickT rfl rfl | exact Yld.pickF rfl rfl) rfl ?_
    exact RL.nil (N.meet (.cons rfl (.cons rfl (.cons rfl (.cons rfl (.cons rfl (.cons rfl (.cons rfl (.cons rfl (.cons rfl (.cons rfl (.cons rfl (.cons rfl .nil)))))))))))) (.cons rfl (.cons rfl (.cons rfl (.cons rfl .nil)))))
  refine RL.q (Yld.move rfl) rfl ?_
  refine' RL.or (t := 23) (d := 26) 3 rfl (.cons (k := 0) rfl (.cons (k := 1) rfl (.cons (k := 2) rfl (.cons (k := 3) rfl (.cons (k := 4) rfl (.cons (k := 8) rfl (.cons (k := 9) rfl (.cons (k := 10) rfl (.cons (k := 11) rfl (.cons (k := 12) rfl (.cons (k := 18) rfl (.cons (k := 22) rfl .nil)))))))))))) (.cons (k := 0) rfl (.cons (k := 1) rfl (.cons (k := 104) rfl (.cons (k := 108) rfl .nil)))) ?_ ?_ ?_
  rotate_left 1
  ·
    intro hg23
    refine RL.gq rfl rfl (Yld.move rfl) rfl ?_
    refine RL.gq rfl rfl (Yld.bin rfl rfl BinV.lss) rfl ?_
    refine RL.q (by first | exact Yld.pickT rfl rfl | exact Yld.pickF rfl rfl) rfl ?_
    exact RL.nil (N.meet (.cons rfl (.cons rfl (.cons rfl (.cons rfl (.cons rfl (.cons rfl (.cons rfl (.cons rfl (.cons rfl (.cons rfl (.cons rfl (.cons rfl (.cons rfl .nil))))))))))))) (.cons rfl (.cons rfl (.cons rfl (.cons rfl .nil)))))
  ·
    intro hg23
    refine RL.gskip rfl rfl rfl rfl ?_
    refine RL.gskip rfl rfl rfl rfl ?_
    refine RL.q (by first | exact Yld.pickT rfl rfl | exact Yld.pickF rfl rfl) rfl ?_
    exact RL.nil (N.meet (.cons rfl (.cons rfl (.cons rfl (.cons rfl (.cons rfl (.cons rfl (.cons rfl (.cons rfl (.cons rfl (.cons rfl (.cons rfl (.cons rfl (.cons rfl .nil))))))))))))) (.cons rfl (.cons rfl (.cons rfl (.cons rfl .nil)))))
  refine RL.q (Yld.move rfl) rfl ?_
  refine' RL.or (t := 27) (d := 32) 5 rfl (.cons (k := 0) rfl (.cons (k := 1) rfl (.cons (k := 2) rfl (.cons (k := 3) rfl (.cons (k := 4) rfl (.cons (k := 8) rfl (.cons (k := 9) rfl (.cons (k := 10) rfl (.cons (k := 11) rfl (.cons (k := 12) rfl (.cons (k := 18) rfl (.cons (k := 22) rfl (.cons (k := 26) rfl .nil))))))))))))) (.cons (k := 0) rfl (.cons (k := 1) rfl (.cons (k := 104) rfl (.cons (k := 108) rfl .nil)))) ?_ ?_ ?_
  rotate_left 1
  ·
    intro hg27
    refine RL.gq rfl rfl (Yld.fieldAddr fo48_4 rfl) rfl ?_
    refine RL.gq rfl rfl (Yld.load1 (c := 104) Try.underlying22 rfl rfl rfl (by first | exact single_self _ _ | exact pset_self _ _ _ | assumption) rfl) rfl ?_
    refine RL.gq rfl rfl (Yld.move rfl) rfl ?_
    refine RL.ge rfl rfl (Eff.call ent37 [1] [1] (.cons rfl (.cons rfl .nil)) (has_ct (v.vs.getD []) _ _ _ hS f) rfl rfl rfl rfl (by rintro _ _ ⟨_, rfl⟩; rfl)) rfl ?_
    rintro _ _ ⟨_, ⟨rfl, rfl⟩, rfl⟩
    refine RL.q (by first | exact Yld.pickT rfl rfl | exact Yld.pickF rfl rfl) rfl ?_
    exact RL.nil (N.meet (.cons rfl (.cons rfl (.cons rfl (.cons rfl (.cons rfl (.cons rfl (.cons rfl (.cons rfl (.cons rfl (.cons rfl (.cons rfl (.cons rfl (.cons rfl (.cons rfl .nil)))))))))))))) (.cons rfl (.cons rfl (.cons rfl (.cons rfl .nil)))))
  ·
    intro hg27
    refine RL.gskip rfl rfl rfl rfl ?_
    refine RL.gskip rfl rfl rfl rfl ?_
    refine RL.gskip rfl rfl rfl rfl ?_
    refine RL.gskip rfl rfl rfl rfl ?_
    refine RL.q (by first | exact Yld.pickT rfl rfl | exact Yld.pickF rfl rfl) rfl ?_
    exact RL.nil (N.meet (.cons rfl (.cons rfl (.cons rfl (.cons rfl (.cons rfl (.cons rfl (.cons rfl (.cons rfl (.cons rfl (.cons rfl (.cons rfl (.cons rfl (.cons rfl (.cons rfl .nil)))))))))))))) (.cons rfl (.cons rfl (.cons rfl (.cons rfl .nil)))))
  refine RL.nil ?_
  refine N.next ?_
  refine W.keep (.cons (k := 1) rfl (.cons (k := 4) rfl (.cons (k := 8) rfl (.cons (k := 32) rfl .nil)))) (.cons (k := 0) rfl (.cons (k := 1) rfl (.cons (k := 104) rfl (.cons (k := 108) rfl .nil)))) ?_
  refine W.cond rfl (fun hc32 => ?_) (fun hc32 => ?_)
  ·
    have hcn : cno v f t g = true := hc32
    have hcv : cnt v f t g = v := by unfold cnt; rw [if_pos hcn]
    refine W.seq ?_
    refine W.region ?_
    refine RL.q (Yld.loadW (c := 104) Try.underlying48 rfl sz48 rfl rfl (by first | exact single_self _ _ | exact pset_self _ _ _ | assumption) rfl) rfl ?_
    refine RL.e0 (Eff.storeS (c := 108) _ sz48 rfl rfl rfl rfl rfl rfl rfl (by (try simp only [putAt, List.take, List.drop, List.nil_append, List.cons_append, List.append_nil, List.length_cons, List.length_nil, Nat.add_zero, Nat.zero_add, Nat.reduceAdd]); rfl)) ?_
    rintro _ _ rfl
    refine RL.q (Yld.assign rfl) rfl ?_
    refine RL.nil ?_
    refine N.next ?_
    refine W.keep (.cons (k := 8) rfl (.cons (k := 9) rfl .nil)) (.cons (k := 0) rfl (.cons (k := 1) rfl (.cons (k := 104) rfl (.cons (k := 108) rfl .nil)))) ?_
    refine W.ret ?_
    refine N.then_ret ?_
    exact N.retBy [1] (.cons (by first | exact .cell (c := 108) rfl rfl (fun w hs => run_loadVarA Try.underlying48 rfl sz48 rfl (fun j u hj => by rw [Nat.zero_add, PH.sub.cell hs (by first | exact single_self _ _ | exact pset_self _ _ _ | assumption)]; exact hj))) (.cons (.tmp rfl) .nil)) rfl rfl rfl rfl ⟨H1, p, c, by rw [hcn, hcv]; rfl, by rw [hcv]; exact hS, rfl⟩
  ·
    have hcn : cno v f t g = false := hc32
    have hcv : cnt v f t g = ⟨v.me, v.tm, v.vd, some (v.vs.getD [] ++ [f])⟩ := by unfold cnt; rw [if_neg (by rw [hcn]; decide)]
    have his : v.vs.isSome = true := by unfold cno at hcn; simp only [Bool.or_eq_false_iff, Bool.not_eq_false'] at hcn; exact hcn.1.1.1.1
    refine W.skip ?_
    refine N.next ?_
    refine W.seq ?_
    refine W.region ?_
    refine RL.e (Eff.buildSlice 134 Try.underlying22 sz3 zc3 rfl rfl .nil rfl) rfl ?_
    rintro _ _ ⟨b34, rfl, rfl⟩
    refine RL.q (Yld.fieldAddr fo48_4 rfl) rfl ?_
    refine RL.q (Yld.load1 (c := 104) Try.underlying22 rfl rfl rfl (by first | exact single_self _ _ | exact pset_self _ _ _ | assumption) rfl) rfl ?_
    refine RL.e (Eff.appendE (tc := 134) (sc := 1) (fun z : Int => [Value.int .i64 z]) Try.underlying22 el3 rfl rfl rfl rfl (iz_none rfl) rfl hS rfl (iz_one1 _) (by decide) (by first | (simp; done) | (simp; omega)) (by first | (simp [maxLen]; done) | (simp [maxLen]; omega))) rfl ?_
    rintro _ _ ⟨Ha, pa, ca, rfl, hOa, rfl⟩
    refine RL.q (Yld.move rfl) rfl ?_
    refine RL.e (Eff.buildSlice 139 Try.underlying22 sz3 zc3 rfl rfl (.cons rfl rfl .nil) rfl) rfl ?_
    rintro _ _ ⟨b39, rfl, rfl⟩
    refine RL.e (Eff.appendE (tc := 134) (sc := 139) (fun z : Int => [Value.int .i64 z]) Try.underlying22 el3 rfl rfl rfl rfl hOa rfl (iz_single rfl) rfl (iz_one1 _) (by decide) (by first | (simp; done) | (simp; omega)) (by first | (simp [maxLen]; done) | (simp [maxLen]; omega))) rfl ?_
    rintro _ _ ⟨Hb, pb, cb, rfl, hOb, rfl⟩
    refine RL.q (Yld.fieldAddr fo48_4 rfl) rfl ?_
    refine RL.e0 (Eff.storeS (c := 104) _ sz22 rfl rfl rfl rfl rfl rfl rfl (by (try simp only [putAt, List.take, List.drop, List.nil_append, List.cons_append, List.append_nil, List.length_cons, List.length_nil, Nat.add_zero, Nat.zero_add, Nat.reduceAdd]); rfl)) ?_
    rintro _ _ rfl
    refine RL.nil ?_
    refine N.next ?_
    refine W.keep (.cons (k := 4) rfl (.cons (k := 8) rfl .nil)) (.cons (k := 0) rfl (.cons (k := 1) rfl (.cons (k := 104) rfl (.cons (k := 108) rfl (.cons (k := 134) rfl (.cons (k := 139) rfl .nil)))))) ?_
    refine W.seq ?_
    refine W.region ?_
    refine RL.q (Yld.loadW (c := 104) Try.underlying48 rfl sz48 rfl rfl (by first | exact single_self _ _ | exact pset_self _ _ _ | assumption) rfl) rfl ?_
    refine RL.e0 (Eff.storeS (c := 108) _ sz48 rfl rfl rfl rfl rfl rfl rfl (by (try simp only [putAt, List.take, List.drop, List.nil_append, List.cons_append, List.append_nil, List.length_cons, List.length_nil, Nat.add_zero, Nat.zero_add, Nat.reduceAdd]); rfl)) ?_
    rintro _ _ rfl
    refine RL.q (Yld.assign rfl) rfl ?_
    refine RL.nil ?_
    refine N.next ?_
    refine W.ret ?_
    exact N.retBy [134] (.cons (by first | exact .cell (c := 108) rfl rfl (fun w hs => run_loadVarA Try.underlying48 rfl sz48 rfl (fun j u hj => by rw [Nat.zero_add, PH.sub.cell hs (by first | exact single_self _ _ | exact pset_self _ _ _ | assumption)]; exact hj))) (.cons (.tmp rfl) .nil)) rfl rfl rfl rfl ⟨_, _, _, by rw [hcn, hcv, his]; rfl, by rw [hcv]; exact hOb.sl, rfl⟩

set_option maxRecDepth 100000 in
set_option maxHeartbeats 400000 in
theorem rvwon_ct (v : Vt) (H1 : PH) (p : Option Addr) (c : Nat) (hS : Sl H1 p c 1 (iz ((v).vs.getD []))) (x : Cf) (H2 : PH) (hx : x.In H2) (hbo : x.o.length ≤ 1000000) (hbn : x.n.length ≤ 1000000) : Ct Try.prog 39 [.agg [.int .i64 (v).me, .int .i64 (v).tm, .int .i64 (v).vd, .bool (v).vs.isSome, .slice p ((v).vs.getD []).length c].toArray, .agg [.slice x.po x.o.length x.co, .slice x.pn x.n.length x.cn, .slice x.pl x.l.length x.cl].toArray] [H1, H2] (fun r Hs => r = .bool (won v x.o x.n) ∧ Hs = [H1, H2]) := by
  refine Ct.body Try.func39 rfl Try.ntmps39 rfl ?_
  intro E F
  have hmx := hS.len_le
  simp only [iz_len, maxLen] at hmx
  refine W.seq ?_
  refine W.region ?_
  refine RL.e (Eff.box 102 _ rfl rfl) rfl ?_
  rintro _ _ ⟨b2, rfl, rfl⟩
  refine RL.e (Eff.box 103 _ rfl rfl) rfl ?_
  rintro _ _ ⟨b3, rfl, rfl⟩
  refine RL.q (Yld.assign rfl) rfl ?_
  refine RL.nil ?_
  refine N.next ?_
  refine W.seq ?_
  refine W.region ?_
  refine RL.q (Yld.fieldAddr fo48_3 rfl) rfl ?_
  refine RL.q (Yld.load1 (c := 102) Try.underlying4 rfl rfl rfl (by first | exact single_self _ _ | exact pset_self _ _ _ | assumption) rfl) rfl ?_
  refine RL.q (Yld.move rfl) rfl ?_
  refine' RL.and (t := 7) (d := 12) 5 rfl (.cons (k := 0) rfl (.cons (k := 1) rfl (.cons (k := 2) rfl (.cons (k := 3) rfl (.cons (k := 4) rfl (.cons (k := 5) rfl (.cons (k := 6) rfl .nil))))))) (.cons (k := 0) rfl (.cons (k := 1) rfl (.cons (k := 2) rfl (.cons (k := 102) rfl (.cons (k := 103) rfl .nil))))) ?_ ?_ ?_
  rotate_left 1
  ·
    intro hg7
    refine RL.gq rfl rfl (Yld.loadW (c := 103) Try.underlying24 rfl sz24 rfl rfl (by first | exact single_self _ _ | exact pset_self _ _ _ | assumption) rfl) rfl ?_
    refine RL.gq rfl rfl (Yld.fieldAddr fo48_4 rfl) rfl ?_
    refine RL.gq rfl rfl (Yld.load1 (c := 102) Try.underlying22 rfl rfl rfl (by first | exact single_self _ _ | exact pset_self _ _ _ | assumption) rfl) rfl ?_
    refine RL.ge rfl rfl (Eff.call ent56 [2, 1] [2, 1] (.cons rfl (.cons rfl .nil)) (rquorum_ct x H2 hx (v.vs.getD []) _ _ _ hS hbo hbn) rfl rfl rfl rfl (by rintro _ _ ⟨_, rfl⟩; rfl)) rfl ?_
    rintro _ _ ⟨_, ⟨rfl, rfl⟩, rfl⟩
    refine RL.q (by first | exact Yld.pickT rfl rfl | exact Yld.pickF rfl rfl) rfl ?_
    exact RL.nil (N.meet (.cons rfl (.cons rfl (.cons rfl (.cons rfl (.cons rfl (.cons rfl (.cons rfl (.cons rfl .nil)))))))) (.cons rfl (.cons rfl (.cons rfl (.cons rfl (.cons rfl .nil))))))
  ·
    intro hg7
    refine RL.gskip rfl rfl rfl rfl ?_
    refine RL.gskip rfl rfl rfl rfl ?_
    refine RL.gskip rfl rfl rfl rfl ?_
    refine RL.gskip rfl rfl rfl rfl ?_
    refine RL.q (by first | exact Yld.pickT rfl rfl | exact Yld.pickF rfl rfl) rfl ?_
    exact RL.nil (N.meet (.cons rfl (.cons rfl (.cons rfl (.cons rfl (.cons rfl (.cons rfl (.cons rfl (.cons rfl .nil)))))))) (.cons rfl (.cons rfl (.cons rfl (.cons rfl (.cons rfl .nil))))))
  refine RL.q (Yld.assign rfl) rfl ?_
  refine RL.nil ?_
  refine N.next ?_
  refine W.keep (.cons (k := 4) rfl .nil) (.cons (k := 0) rfl (.cons (k := 1) rfl (.cons (k := 2) rfl (.cons (k := 102) rfl (.cons (k := 103) rfl .nil))))) ?_
  refine W.ret ?_
  exact N.retBy [1, 2] (.cons (.tmp rfl) .nil) rfl rfl rfl rfl ⟨rfl, rfl⟩

set_option maxRecDepth 100000 in
set_option maxHeartbeats 400000 in
theorem rvstop_ct (v : Vt) (H1 : PH) (p : Option Addr) (c : Nat) (hS : Sl H1 p c 1 (iz ((v).vs.getD []))) : Ct Try.prog 44 [.agg [.int .i64 (v).me, .int .i64 (v).tm, .int .i64 (v).vd, .bool (v).vs.isSome, .slice p ((v).vs.getD []).length c].toArray] [H1] (fun r Hs => r = .agg [.int .i64 ((stop v)).me, .int .i64 ((stop v)).tm, .int .i64 ((stop v)).vd, .bool ((stop v)).vs.isSome, .slice none (((stop v)).vs.getD []).length 0].toArray ∧ Hs = [H1]) := by
  refine Ct.body Try.func44 rfl Try.ntmps44 rfl ?_
  intro E F
  have hmx := hS.len_le
  simp only [iz_len, maxLen] at hmx
  refine W.seq ?_
  refine W.region ?_
  refine RL.e (Eff.box 101 _ rfl rfl) rfl ?_
  rintro _ _ ⟨b1, rfl, rfl⟩
  refine RL.e (Eff.alloc 102 zc48) rfl ?_
  rintro _ _ ⟨b2, rfl, rfl⟩
  refine RL.nil ?_
  refine N.next ?_
  refine W.seq ?_
  refine W.region ?_
  refine RL.q (Yld.fieldAddr fo48_0 rfl) rfl ?_
  refine RL.q (Yld.load1 (c := 101) Try.underlying3 rfl rfl rfl (by first | exact single_self _ _ | exact pset_self _ _ _ | assumption) rfl) rfl ?_
  refine RL.q (Yld.fieldAddr fo48_1 rfl) rfl ?_
  refine RL.q (Yld.load1 (c := 101) Try.underlying3 rfl rfl rfl (by first | exact single_self _ _ | exact pset_self _ _ _ | assumption) rfl) rfl ?_
  refine RL.q (Yld.fieldAddr fo48_2 rfl) rfl ?_
  refine RL.q (Yld.load1 (c := 101) Try.underlying3 rfl rfl rfl (by first | exact single_self _ _ | exact pset_self _ _ _ | assumption) rfl) rfl ?_
  refine RL.q (Yld.buildP lay48 (.cons rfl rfl (.cons rfl rfl (.cons rfl rfl .nil))) rfl) rfl ?_
  refine RL.e0 (Eff.storeS (c := 102) _ sz48 rfl rfl rfl rfl rfl rfl rfl (by (try simp only [putAt, List.take, List.drop, List.nil_append, List.cons_append, List.append_nil, List.length_cons, List.length_nil, Nat.add_zero, Nat.zero_add, Nat.reduceAdd]); rfl)) ?_
  rintro _ _ rfl
  refine RL.nil ?_
  refine N.next ?_
  refine W.keep (.cons (k := 2) rfl .nil) (.cons (k := 0) rfl (.cons (k := 1) rfl (.cons (k := 101) rfl (.cons (k := 102) rfl .nil)))) ?_
  refine W.ret ?_
  exact N.retBy [1] (.cons (by first | exact .cell (c := 102) rfl rfl (fun w hs => run_loadVarA Try.underlying48 rfl sz48 rfl (fun j u hj => by rw [Nat.zero_add, PH.sub.cell hs (by first | exact single_self _ _ | exact pset_self _ _ _ | assumption)]; exact hj))) .nil) rfl rfl rfl rfl ⟨rfl, rfl⟩

theorem Vote.setL_nil : setL [] = [] := (IsSet.eq IsSet.nil).symm
theorem Vote.nodup_le : ∀ {s l : List Int}, s.Nodup → (∀ z ∈ s, z ∈ l) → s.length ≤ l.length
  | [], _, _, _ => Nat.zero_le _
  | a :: s, l, hn, hs => by
    have ha := hs a (by simp)
    have hn' := List.nodup_cons.1 hn
    have := nodup_le (s := s) (l := l.erase a) hn'.2 (fun z hz => (List.mem_erase_of_ne (fun e : z = a => hn'.1 (e ▸ hz))).2 (hs z (by simp [hz])))
    rw [List.length_erase_of_mem ha] at this
    have := List.length_pos_of_mem ha
    simp; omega
theorem Vote.nodup_snoc {l : List Int} {a : Int} (h : l.Nodup) (ha : a ∉ l) : (l ++ [a]).Nodup := by
  rw [List.nodup_append]
  exact ⟨h, by simp, fun x hx y hy e => by simp at hy; subst hy; subst e; exact ha hx⟩

set_option maxRecDepth 100000 in
set_option maxHeartbeats 400000 in
theorem vvotesN_ct (bp : Nat) (v : Vt) (hv : v.vs = none) (G : PH) : Ct Try.prog 29 [.pointer (some ⟨bp, 0, none⟩)] [single bp (.cells [.int .i64 (v).me, .int .i64 (v).tm, .int .i64 (v).vd, .map none].toArray 64 (0, 0)), G] (fun r Hs => ∃ H', r = .slice none 0 0 ∧ Hs = [single bp (.cells [.int .i64 (v).me, .int .i64 (v).tm, .int .i64 (v).vd, .map none].toArray 64 (0, 0)), G, H']) := by
  refine Ct.body Try.func29 rfl Try.ntmps29 rfl ?_
  intro E F
  refine W.seq ?_
  refine W.region ?_
  refine RL.q (Yld.assign rfl) rfl ?_
  refine RL.nil ?_
  refine N.next ?_
  refine W.seq ?_
  refine W.imp (Imp.empty _ 30) ?_
  refine W.region ?_
  refine RL.q (Yld.assign rfl) rfl ?_
  refine RL.nil ?_
  refine N.next ?_
  refine W.seq ?_
  refine W.seq ?_
  refine W.region ?_
  refine RL.q (Yld.move rfl) rfl ?_
  refine RL.q (Yld.nilP rfl) rfl ?_
  refine RL.q (Yld.fieldAddr fo64_3 rfl) rfl ?_
  refine RL.q (Yld.load1 (c := 1) Try.underlying30 rfl rfl rfl (by first | exact single_self _ _ | exact pset_self _ _ _ | assumption) rfl) rfl ?_
  refine RL.e (Eff.rangeNil 109 Try.underlying30 rfl) rfl ?_
  rintro _ _ ⟨r9, rfl, rfl⟩
  refine RL.nil ?_
  refine N.next ?_
  refine W.keep (.cons (k := 3) rfl (.cons (k := 9) rfl .nil)) (.cons (k := 0) rfl (.cons (k := 1) rfl (.cons (k := 2) rfl (.cons (k := 30) rfl (.cons (k := 109) rfl .nil))))) ?_
  refine W.block ?_
  refine W.loopK (ι := Unit) (fun x => True) (fun x => [(3, .slice none 0 0)]) (fun x => []) (fun x => 0) (.cons (k := 9) rfl .nil) (.cons (k := 0) rfl (.cons (k := 1) rfl (.cons (k := 2) rfl (.cons (k := 30) rfl (.cons (k := 109) rfl .nil))))) () ?_ ?_ ?_ ?_
  · trivial
  · exact (.as rfl (by first | rfl | (simp; done) | (congr 1; simp; done) | (congr 1; omega)) .nil)
  · exact .nil
  rintro _ _
  refine W.keep (.cons (k := 3) rfl (.cons (k := 9) rfl .nil)) (.cons (k := 0) rfl (.cons (k := 1) rfl (.cons (k := 2) rfl (.cons (k := 30) rfl (.cons (k := 109) rfl .nil))))) ?_
  refine W.seq ?_
  refine W.region ?_
  refine RL.e (Eff.nextNil (c2 := 109) rfl rfl) rfl ?_
  rintro _ _ ⟨rfl, rfl⟩
  refine RL.q (Yld.extract rfl rfl) rfl ?_
  refine RL.nil ?_
  refine N.next ?_
  refine W.seq ?_
  first | (refine W.as (t := 11) rfl (boolF (by first | assumption | omega | (simp; done))) ?_; refine W.condF rfl ?_) | refine W.condF rfl ?_
  refine W.exit ?_
  refine N.then_exit ?_
  refine N.then_exit ?_
  refine N.block_eq ?_
  refine N.next ?_
  refine W.seq ?_
  refine W.region ?_
  refine RL.q (Yld.move rfl) rfl ?_
  refine RL.e (Eff.call ent45 [30] [30] (.cons rfl (.cons rfl .nil)) (sortF_ct [] _ _ _ (Own.nil _ _) (by simp)) rfl rfl rfl rfl (by rintro _ _ ⟨_, _, _, rfl⟩; rfl)) rfl ?_
  rintro _ _ ⟨_, ⟨rfl, Hs1, hOs, rfl⟩, rfl⟩
  refine RL.nil ?_
  refine N.next ?_
  refine W.keep (.cons (k := 3) rfl .nil) (.cons (k := 0) rfl (.cons (k := 1) rfl (.cons (k := 2) rfl (.cons (k := 30) rfl (.cons (k := 109) rfl .nil))))) ?_
  refine W.seq ?_
  refine W.region ?_
  refine RL.q (Yld.move rfl) rfl ?_
  refine RL.q (Yld.assign rfl) rfl ?_
  refine RL.nil ?_
  refine N.next ?_
  refine W.ret ?_
  exact N.retBy [1, 2, 30] (.cons (.tmp rfl) .nil) rfl rfl rfl rfl ⟨_, rfl, rfl⟩

set_option maxRecDepth 100000 in
set_option maxHeartbeats 1600000 in
theorem vvotesS_ct (bp bm : Nat) (v : Vt) (es : Array MapEntry) (ck : Nat) (m : List (Int × Value)) (l : List Int) (hv : v.vs = some l) (hM : MV es ck m l) (hll : l.length ≤ 100000) (hl1 : ∀ z ∈ l, 1 ≤ z) : Ct Try.prog 29 [.pointer (some ⟨bp, 0, none⟩)] [single bp (.cells [.int .i64 (v).me, .int .i64 (v).tm, .int .i64 (v).vd, .map (some bm)].toArray 64 (0, 0)), single bm (.map es ck)] (fun r Hs => ∃ H' p' c', r = .slice p' (setL l).length c' ∧ Own H' p' c' 3 1 (iz (setL l)) ∧ Hs = [single bp (.cells [.int .i64 (v).me, .int .i64 (v).tm, .int .i64 (v).vd, .map (some bm)].toArray 64 (0, 0)), single bm (.map es ck), H']) := by
  refine Ct.body Try.func29 rfl Try.ntmps29 rfl ?_
  intro E F
  obtain ⟨hM0, hm⟩ := hM
  refine W.seq ?_
  refine W.region ?_
  refine RL.q (Yld.assign rfl) rfl ?_
  refine RL.nil ?_
  refine N.next ?_
  refine W.seq ?_
  refine W.imp (Imp.empty _ 30) ?_
  refine W.region ?_
  refine RL.q (Yld.assign rfl) rfl ?_
  refine RL.nil ?_
  refine N.next ?_
  refine W.seq ?_
  refine W.seq ?_
  refine W.region ?_
  refine RL.q (Yld.move rfl) rfl ?_
  refine RL.q (Yld.nilP rfl) rfl ?_
  refine RL.q (Yld.fieldAddr fo64_3 rfl) rfl ?_
  refine RL.q (Yld.load1 (c := 1) Try.underlying30 rfl rfl rfl (by first | exact single_self _ _ | exact pset_self _ _ _ | assumption) rfl) rfl ?_
  refine RL.e (Eff.range 109 (c := 2) Try.underlying30 rfl rfl) rfl ?_
  rintro _ _ ⟨r9, rfl, rfl⟩
  refine RL.nil ?_
  refine N.next ?_
  refine W.keep (.cons (k := 3) rfl (.cons (k := 9) rfl .nil)) (.cons (k := 0) rfl (.cons (k := 1) rfl (.cons (k := 2) rfl (.cons (k := 30) rfl (.cons (k := 109) rfl .nil))))) ?_
  refine W.block ?_
  refine W.loopK (ι := ZI) (fun x => (ItP es ck ck x.last x.seen m x.done ∧ Own x.H x.p x.c 3 1 (iz x.s) ∧ x.s.Nodup ∧ (∀ z, z ∈ x.s ↔ z ∈ x.done) ∧ ∀ z ∈ x.s, z ∈ l)) (fun x => [(3, .slice x.p x.s.length x.c)]) (fun x => [(30, x.H), (109, single r9 (.mapIter (some bm) ck x.seen x.last))]) (fun x => leftN m x.done) (.cons (k := 9) rfl .nil) (.cons (k := 0) rfl (.cons (k := 1) rfl (.cons (k := 2) rfl .nil))) ⟨#[], ck, [], emp, none, 0, []⟩ ?_ ?_ ?_ ?_
  · exact ⟨ItP.start hM0, Own.nil _ _, by simp, by simp, by simp⟩
  · exact (.as rfl (by first | rfl | (simp; done) | (congr 1; simp; done) | (congr 1; omega)) .nil)
  · exact (.cons rfl (.cons rfl .nil))
  rintro x ⟨hIx, hO, hnd, hmd, hml⟩
  refine W.keep (.cons (k := 3) rfl (.cons (k := 9) rfl .nil)) (.cons (k := 30) rfl (.cons (k := 109) rfl (.cons (k := 0) rfl (.cons (k := 1) rfl (.cons (k := 2) rfl .nil))))) ?_
  refine W.seq ?_
  refine W.region ?_
  refine RL.e (Eff.next (c := 2) (c2 := 109) rfl rfl rfl hM0 hIx) rfl ?_
  rintro _ _ ⟨nx10, sn10, ls10, rfl, hN10, rfl⟩
  refine RL.q (Yld.extract rfl (nxV_ok _ nx10)) rfl ?_
  refine RL.nil ?_
  refine N.next ?_
  refine W.seq ?_
  refine W.cond rfl (fun hc11 => ?_) (fun hc11 => ?_)
  ·
    obtain ⟨⟨k, u⟩, rfl⟩ := Option.isSome_iff_exists.1 hc11
    obtain ⟨hku, hkd, hI2, hE, hls⟩ := hN10
    obtain rfl := hls.symm
    have hkl : k ∈ l := by
      have := hm k
      rw [hku] at this
      by_cases h : k ∈ l
      · exact h
      · rw [if_neg h] at this; cases this
    have hsl := nodup_le hnd hml
    refine W.skip ?_
    refine N.next ?_
    refine W.block ?_
    refine W.seq ?_
    refine W.region ?_
    refine RL.q (Yld.entry (c := 2) (c2 := 109) rfl rfl rfl hM0 hE) rfl ?_
    refine RL.q (Yld.extract rfl rfl) rfl ?_
    refine RL.q (Yld.assign rfl) rfl ?_
    refine RL.nil ?_
    refine N.next ?_
    refine W.keep (.cons (k := 3) rfl (.cons (k := 4) rfl (.cons (k := 9) rfl .nil))) (.cons (k := 0) rfl (.cons (k := 1) rfl (.cons (k := 2) rfl (.cons (k := 30) rfl (.cons (k := 109) rfl .nil))))) ?_
    refine W.region ?_
    refine RL.q (Yld.move rfl) rfl ?_
    refine RL.q (Yld.move rfl) rfl ?_
    refine RL.e (Eff.buildSlice 116 Try.underlying22 sz3 zc3 rfl rfl (.cons rfl rfl .nil) rfl) rfl ?_
    rintro _ _ ⟨b16, rfl, rfl⟩
    refine RL.e (Eff.appendE (tc := 30) (sc := 116) (fun z : Int => [Value.int .i64 z]) Try.underlying22 el3 rfl rfl rfl rfl hO rfl (iz_single rfl) rfl (iz_one1 _) (by decide) (by first | (simp; done) | (simp; omega)) (by first | (simp [maxLen]; done) | (simp [maxLen]; omega))) rfl ?_
    rintro _ _ ⟨Ha, pa, ca, rfl, hOa, rfl⟩
    refine RL.q (Yld.assign rfl) rfl ?_
    refine RL.nil ?_
    refine N.block_normal ?_
    exact N.famK ⟨sn10, ck, k :: x.done, Ha, pa, ca, x.s ++ [k]⟩ ⟨⟨hI2, hOa, nodup_snoc hnd (fun h => hkd ((hmd k).1 h)), fun z => by dsimp only; rw [List.mem_append, List.mem_singleton, hmd z, List.mem_cons]; exact or_comm, fun z hz => (List.mem_append.1 hz).elim (hml z) (fun h => by rw [List.mem_singleton] at h; subst h; exact hkl)⟩, leftN_next hku hkd⟩ (.as rfl (by first | rfl | (simp; done) | (congr 1; simp; done) | (congr 1; omega)) .nil) (.cons rfl .nil) (.cons rfl (.cons rfl .nil)) (.cons rfl (.cons rfl (.cons rfl .nil)))
  ·
    have hn0 : nx10 = none := by cases nx10 with | none => rfl | some p => cases hc11
    subst hn0
    have hall := hN10
    have hsl := nodup_le hnd hml
    have hcs : srt x.s = setL l := srt_set hnd (fun z hz => hl1 z (hml z hz)) (fun z => ⟨hml z, fun hz => (hmd z).2 (by have := hm z; rw [if_pos hz] at this; exact hall _ (mget_mem this))⟩)
    refine W.exit ?_
    refine N.then_exit ?_
    refine N.then_exit ?_
    refine N.block_eq ?_
    refine N.next ?_
    refine W.seq ?_
    refine W.region ?_
    refine RL.q (Yld.move rfl) rfl ?_
    refine RL.e (Eff.call ent45 [30] [30] (.cons rfl (.cons rfl .nil)) (sortF_ct _ _ _ _ hO (by omega)) rfl rfl rfl rfl (by rintro _ _ ⟨_, _, _, rfl⟩; rfl)) rfl ?_
    rintro _ _ ⟨_, ⟨rfl, Hs1, hOs, rfl⟩, rfl⟩
    refine RL.nil ?_
    refine N.next ?_
    refine W.keep (.cons (k := 3) rfl .nil) (.cons (k := 0) rfl (.cons (k := 1) rfl (.cons (k := 2) rfl (.cons (k := 30) rfl (.cons (k := 109) rfl .nil))))) ?_
    refine W.seq ?_
    refine W.region ?_
    refine RL.q (Yld.move rfl) rfl ?_
    refine RL.q (Yld.assign rfl) rfl ?_
    refine RL.nil ?_
    refine N.next ?_
    refine W.ret ?_
    exact N.retBy [1, 2, 30] (.cons (.tmp rfl) .nil) rfl rfl rfl rfl ⟨Hs1, x.p, x.c, by rw [← hcs, srt_len]; rfl, by rw [← hcs]; exact hOs, rfl⟩

theorem vvotes_ct (bp : Nat) (v : Vt) (o : Option Nat) (G : PH) (hG : VM o v.vs G) (k : Nat) (hk : k ≤ 1000) (hv : VOK k v) : Ct Try.prog 29 [.pointer (some ⟨bp, 0, none⟩)] [single bp (.cells [.int .i64 (v).me, .int .i64 (v).tm, .int .i64 (v).vd, .map o].toArray 64 (0, 0)), G] (fun r Hs => ∃ H' p' c', r = .slice p' (setL (v.vs.getD [])).length c' ∧ Sl H' p' c' 1 (iz (setL (v.vs.getD []))) ∧ Hs = [single bp (.cells [.int .i64 (v).me, .int .i64 (v).tm, .int .i64 (v).vd, .map o].toArray 64 (0, 0)), G, H']) := by
  cases hvs : v.vs with
  | none =>
    rw [hvs] at hG
    cases o with
    | some b => exact hG.elim
    | none => exact (vvotesN_ct bp v hvs G).mono fun r Hs ⟨H', h1, h2⟩ => ⟨H', none, 0, by rw [h1]; show _ = Value.slice none (setL []).length 0; rw [setL_nil]; rfl, by show Sl H' none 0 1 (iz (setL [])); rw [setL_nil]; exact ⟨rfl, rfl⟩, h2⟩
  | some l =>
    rw [hvs] at hG
    have hl := hv.nd l hvs
    cases o with
    | none => exact hG.elim
    | some bm =>
      obtain ⟨es, ck, m, rfl, hM⟩ := hG
      exact (vvotesS_ct bp bm v es ck m l hvs hM (by omega) hl.2.1).mono fun r Hs ⟨H', p', c', h1, h2, h3⟩ => ⟨H', p', c', h1, h2.sl, h3⟩

end Go.Proofs.Ytldnbbnaighakaa
