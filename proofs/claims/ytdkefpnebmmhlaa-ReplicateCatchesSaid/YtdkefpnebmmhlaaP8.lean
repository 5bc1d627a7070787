/- The functions of the laws. Written by program (walk2.py). -/
import Derived.Test.YtdkefpnebmmhlaaP7
namespace Go.Proofs.Ytdkefpnebmmhlaa
open SL Cfg Rep
set_option linter.unusedVariables false
set_option linter.unusedSimpArgs false
theorem sz36 : sz Try.prog 36 4 := (by kernel_rfl : (Try.prog.info? 36).map (·.size) = some 4)
theorem fo36_3 : fieldOff Try.prog 36 3 = some 3 := by kernel_rfl
theorem fo36_1 : fieldOff Try.prog 36 1 = some 1 := by kernel_rfl
theorem fo36_2 : fieldOff Try.prog 36 2 = some 2 := by kernel_rfl
theorem ent29 : Ent Try.prog 29 := ⟨_, _, Try.func29, by kernel_rfl, rfl⟩
theorem ent34 : Ent Try.prog 34 := ⟨_, _, Try.func34, by kernel_rfl, rfl⟩
theorem ent46 : Ent Try.prog 46 := ⟨_, _, Try.func46, by kernel_rfl, rfl⟩
theorem fo36_0 : fieldOff Try.prog 36 0 = some 0 := by kernel_rfl
theorem ent47 : Ent Try.prog 47 := ⟨_, _, Try.func47, by kernel_rfl, rfl⟩
theorem ent30 : Ent Try.prog 30 := ⟨_, _, Try.func30, by kernel_rfl, rfl⟩
theorem ent48 : Ent Try.prog 48 := ⟨_, _, Try.func48, by kernel_rfl, rfl⟩
theorem ent31 : Ent Try.prog 31 := ⟨_, _, Try.func31, by kernel_rfl, rfl⟩
theorem ent11 : Ent Try.prog 11 := ⟨_, _, Try.func11, by kernel_rfl, rfl⟩
theorem ent12 : Ent Try.prog 12 := ⟨_, _, Try.func12, by kernel_rfl, rfl⟩
theorem ent14 : Ent Try.prog 14 := ⟨_, _, Try.func14, by kernel_rfl, rfl⟩
theorem ent13 : Ent Try.prog 13 := ⟨_, _, Try.func13, by kernel_rfl, rfl⟩
def Rep.OpS.cells (o : OpS) : List Value := [.int .i64 o.kd, .int .i64 o.a, .int .i64 o.b, .slice o.p o.l.length o.c]
theorem Rep.iz_lit {b e n : Nat} {l : List Int} {cs : List Value} (hcs : cs = l.map (Value.int .i64)) (hn : n = l.length) (hl : l.length ≤ maxLen) : Own (single b (.cells cs.toArray e (0, 0))) (some ⟨b, 0, none⟩) n e 1 (iz l) := by
  subst hn
  refine Own.mk (n := 1) [] (fun r hr => ?_) (by simp [iz]) hl ?_ ?_
  · obtain ⟨a, _, rfl⟩ := List.mem_map.1 hr; exact ⟨rfl, by simp [Value.oneCell']⟩
  · rw [List.append_nil, show (iz l).flatten = l.map (Value.int .i64) from flat_one _ l]; simp
  · rw [List.append_nil, show (iz l).flatten = l.map (Value.int .i64) from flat_one _ l]; exact hcs
structure Rep.RI where
  i : Nat
  es : Array MapEntry
  ck : Nat
  m : List (Int × Value)
  H : PH
  p : Option Addr
  c : Nat
structure Rep.GI where
  i : Nat
  H : PH
  p : Option Addr
  c : Nat
  H2 : PH
  p2 : Option Addr
  c2 : Nat

set_option maxRecDepth 100000 in
set_option maxHeartbeats 1600000 in
theorem few_ct (ops : List OpS) (H1 : PH) (p : Option Addr) (c : Nat) (hS : Sl H1 p c 4 (ops.map OpS.cells)) (hL : ∀ o ∈ ops, Sl H1 o.p o.c 1 (iz o.l)) (n : Int) : Ct Try.prog 10 [.slice p ops.length c, .int .i64 n] [H1] (fun v Hs => v = .bool (decide ((∀ o ∈ ops, o.ok) ∧ (ops.length : Int) ≤ n)) ∧ Hs = [H1]) := by
  refine Ct.body Try.func10 rfl Try.ntmps10 rfl ?_
  intro E F
  have hmx := hS.len_le
  simp only [List.length_map, maxLen] at hmx
  refine W.seq ?_
  refine W.region ?_
  refine RL.q (Yld.assign rfl) rfl ?_
  refine RL.nil ?_
  refine N.next ?_
  refine W.seq ?_
  refine W.seq ?_
  refine W.region ?_
  refine RL.q (Yld.move rfl) rfl ?_
  refine RL.q (Yld.lenSl Try.underlying23 rfl) rfl ?_
  refine RL.q (Yld.move rfl) rfl ?_
  refine RL.nil ?_
  refine N.next ?_
  refine W.block ?_
  refine W.loopK (ι := Nat) (fun j => (j ≤ ops.length ∧ ∀ (i : Nat) o, i < j → ops[i]? = some o → o.ok)) (fun j => [(8, .int .i64 (j : Nat))]) (fun j => []) (fun j => ops.length - j) (.cons (k := 0) rfl (.cons (k := 1) rfl (.cons (k := 7) rfl .nil))) (.cons (k := 0) rfl (.cons (k := 1) rfl .nil)) 0 ?_ ?_ ?_ ?_
  · exact ⟨Nat.zero_le _, fun _ _ h => absurd h (Nat.not_lt_zero _)⟩
  · exact (.as rfl (by first | rfl | (simp; done) | (congr 1; simp; done) | (congr 1; omega)) .nil)
  · exact .nil
  rintro j ⟨hj, hI⟩
  refine W.keep (.cons (k := 8) rfl (.cons (k := 0) rfl (.cons (k := 1) rfl (.cons (k := 7) rfl .nil)))) (.cons (k := 0) rfl (.cons (k := 1) rfl .nil)) ?_
  refine W.seq ?_
  refine W.region ?_
  refine RL.q (Yld.bin rfl rfl BinV.lss) rfl ?_
  refine RL.nil ?_
  refine N.next ?_
  refine W.seq ?_
  first | refine W.condD rfl (fun hc9 => ?_) (fun hc9 => ?_) | (refine W.cond rfl (fun hc9 => ?_) (fun hc9 => ?_) <;> try simp only [Bool.or_eq_true, Bool.and_eq_true, Bool.not_eq_true', Bool.not_eq_false', decide_eq_true_eq, Bool.or_eq_false_iff, Bool.and_eq_false_iff, decide_eq_false_iff_not, beq_iff_eq, beq_eq_false_iff_ne, ne_eq, Decidable.not_not] at hc9)
  ·
    obtain ⟨o, ho⟩ : ∃ o, ops[j]? = some o := ⟨_, List.getElem?_eq_getElem (show j < ops.length by omega)⟩
    have hlo : (ops.map OpS.cells)[j]? = some [.int .i64 o.kd, .int .i64 o.a, .int .i64 o.b, .slice o.p o.l.length o.c] := by simp [ho, OpS.cells]
    have hlo2 := hL o (List.mem_of_getElem? ho)
    have hlo3 := hlo2.len_le
    simp only [iz_len, maxLen] at hlo3
    refine W.skip ?_
    refine N.next ?_
    refine W.seq ?_
    refine W.block ?_
    refine W.seq ?_
    refine W.region ?_
    refine RL.q (Yld.move rfl) rfl ?_
    refine RL.q (Yld.assign rfl) rfl ?_
    refine RL.nil ?_
    refine N.next ?_
    refine W.seq ?_
    refine W.region ?_
    refine RL.q (Yld.move rfl) rfl ?_
    refine RL.q (Yld.move rfl) rfl ?_
    refine RL.q (Yld.indexRow Try.underlying23 sz36 rfl rfl (by first | assumption | exact Own.sl (by assumption)) (by first | rfl | omega | (simp; done) | (simp; omega)) (by omega) (by first | omega | (simp; done) | (simp; omega))) rfl ?_
    refine RL.q (Yld.fieldAddr fo36_3 rfl) rfl ?_
    refine RL.q (Yld.loadRowF (cl := 1) (j := 3) Try.underlying22 rfl rfl rfl (by first | assumption | exact Own.sl (by assumption)) (by assumption) rfl) rfl ?_
    refine RL.q (Yld.lenSl Try.underlying22 rfl) rfl ?_
    refine RL.q (Yld.bin rfl rfl BinV.gtr) rfl ?_
    refine RL.q (Yld.move rfl) rfl ?_
    refine' RL.or (t := 18) (d := 25) 7 rfl (.cons (k := 0) rfl (.cons (k := 1) rfl (.cons (k := 5) rfl (.cons (k := 7) rfl (.cons (k := 8) rfl (.cons (k := 9) rfl (.cons (k := 10) rfl (.cons (k := 11) rfl (.cons (k := 12) rfl (.cons (k := 13) rfl (.cons (k := 14) rfl (.cons (k := 15) rfl (.cons (k := 16) rfl (.cons (k := 17) rfl .nil)))))))))))))) (.cons (k := 0) rfl (.cons (k := 1) rfl .nil)) ?_ ?_ ?_
    rotate_left 1
    ·
      intro hg18
      refine RL.gq rfl rfl (Yld.move rfl) rfl ?_
      refine RL.gq rfl rfl (Yld.move rfl) rfl ?_
      refine RL.gq rfl rfl (Yld.indexRow Try.underlying23 sz36 rfl rfl (by first | assumption | exact Own.sl (by assumption)) (by first | rfl | omega | (simp; done) | (simp; omega)) (by omega) (by first | omega | (simp; done) | (simp; omega))) rfl ?_
      refine RL.gq rfl rfl (Yld.fieldAddr fo36_1 rfl) rfl ?_
      refine RL.gq rfl rfl (Yld.loadRowF (cl := 1) (j := 1) Try.underlying3 rfl rfl rfl (by first | assumption | exact Own.sl (by assumption)) (by assumption) rfl) rfl ?_
      refine RL.gq rfl rfl (Yld.bin rfl rfl BinV.gtr) rfl ?_
      refine RL.q (by first | exact Yld.pickT rfl rfl | exact Yld.pickF rfl rfl) rfl ?_
      exact RL.nil (N.meet (.cons rfl (.cons rfl (.cons rfl (.cons rfl (.cons rfl (.cons rfl (.cons rfl (.cons rfl (.cons rfl (.cons rfl (.cons rfl (.cons rfl (.cons rfl (.cons rfl (.cons rfl .nil))))))))))))))) (.cons rfl (.cons rfl .nil)))
    ·
      intro hg18
      refine RL.gskip rfl rfl rfl rfl ?_
      refine RL.gskip rfl rfl rfl rfl ?_
      refine RL.gskip rfl rfl rfl rfl ?_
      refine RL.gskip rfl rfl rfl rfl ?_
      refine RL.gskip rfl rfl rfl rfl ?_
      refine RL.gskip rfl rfl rfl rfl ?_
      refine RL.q (by first | exact Yld.pickT rfl rfl | exact Yld.pickF rfl rfl) rfl ?_
      exact RL.nil (N.meet (.cons rfl (.cons rfl (.cons rfl (.cons rfl (.cons rfl (.cons rfl (.cons rfl (.cons rfl (.cons rfl (.cons rfl (.cons rfl (.cons rfl (.cons rfl (.cons rfl (.cons rfl .nil))))))))))))))) (.cons rfl (.cons rfl .nil)))
    refine RL.q (Yld.move rfl) rfl ?_
    refine' RL.or (t := 26) (d := 33) 7 rfl (.cons (k := 0) rfl (.cons (k := 1) rfl (.cons (k := 5) rfl (.cons (k := 7) rfl (.cons (k := 8) rfl (.cons (k := 9) rfl (.cons (k := 10) rfl (.cons (k := 11) rfl (.cons (k := 12) rfl (.cons (k := 13) rfl (.cons (k := 14) rfl (.cons (k := 15) rfl (.cons (k := 16) rfl (.cons (k := 17) rfl (.cons (k := 25) rfl .nil))))))))))))))) (.cons (k := 0) rfl (.cons (k := 1) rfl .nil)) ?_ ?_ ?_
    rotate_left 1
    ·
      intro hg26
      refine RL.gq rfl rfl (Yld.move rfl) rfl ?_
      refine RL.gq rfl rfl (Yld.move rfl) rfl ?_
      refine RL.gq rfl rfl (Yld.indexRow Try.underlying23 sz36 rfl rfl (by first | assumption | exact Own.sl (by assumption)) (by first | rfl | omega | (simp; done) | (simp; omega)) (by omega) (by first | omega | (simp; done) | (simp; omega))) rfl ?_
      refine RL.gq rfl rfl (Yld.fieldAddr fo36_2 rfl) rfl ?_
      refine RL.gq rfl rfl (Yld.loadRowF (cl := 1) (j := 2) Try.underlying3 rfl rfl rfl (by first | assumption | exact Own.sl (by assumption)) (by assumption) rfl) rfl ?_
      refine RL.gq rfl rfl (Yld.bin rfl rfl BinV.gtr) rfl ?_
      refine RL.q (by first | exact Yld.pickT rfl rfl | exact Yld.pickF rfl rfl) rfl ?_
      exact RL.nil (N.meet (.cons rfl (.cons rfl (.cons rfl (.cons rfl (.cons rfl (.cons rfl (.cons rfl (.cons rfl (.cons rfl (.cons rfl (.cons rfl (.cons rfl (.cons rfl (.cons rfl (.cons rfl (.cons rfl .nil)))))))))))))))) (.cons rfl (.cons rfl .nil)))
    ·
      intro hg26
      refine RL.gskip rfl rfl rfl rfl ?_
      refine RL.gskip rfl rfl rfl rfl ?_
      refine RL.gskip rfl rfl rfl rfl ?_
      refine RL.gskip rfl rfl rfl rfl ?_
      refine RL.gskip rfl rfl rfl rfl ?_
      refine RL.gskip rfl rfl rfl rfl ?_
      refine RL.q (by first | exact Yld.pickT rfl rfl | exact Yld.pickF rfl rfl) rfl ?_
      exact RL.nil (N.meet (.cons rfl (.cons rfl (.cons rfl (.cons rfl (.cons rfl (.cons rfl (.cons rfl (.cons rfl (.cons rfl (.cons rfl (.cons rfl (.cons rfl (.cons rfl (.cons rfl (.cons rfl (.cons rfl .nil)))))))))))))))) (.cons rfl (.cons rfl .nil)))
    refine RL.q (Yld.move rfl) rfl ?_
    refine' RL.or (t := 34) (d := 41) 7 rfl (.cons (k := 0) rfl (.cons (k := 1) rfl (.cons (k := 5) rfl (.cons (k := 7) rfl (.cons (k := 8) rfl (.cons (k := 9) rfl (.cons (k := 10) rfl (.cons (k := 11) rfl (.cons (k := 12) rfl (.cons (k := 13) rfl (.cons (k := 14) rfl (.cons (k := 15) rfl (.cons (k := 16) rfl (.cons (k := 17) rfl (.cons (k := 25) rfl (.cons (k := 33) rfl .nil)))))))))))))))) (.cons (k := 0) rfl (.cons (k := 1) rfl .nil)) ?_ ?_ ?_
    rotate_left 1
    ·
      intro hg34
      refine RL.gq rfl rfl (Yld.move rfl) rfl ?_
      refine RL.gq rfl rfl (Yld.move rfl) rfl ?_
      refine RL.gq rfl rfl (Yld.indexRow Try.underlying23 sz36 rfl rfl (by first | assumption | exact Own.sl (by assumption)) (by first | rfl | omega | (simp; done) | (simp; omega)) (by omega) (by first | omega | (simp; done) | (simp; omega))) rfl ?_
      refine RL.gq rfl rfl (Yld.fieldAddr fo36_2 rfl) rfl ?_
      refine RL.gq rfl rfl (Yld.loadRowF (cl := 1) (j := 2) Try.underlying3 rfl rfl rfl (by first | assumption | exact Own.sl (by assumption)) (by assumption) rfl) rfl ?_
      refine RL.gq rfl rfl (Yld.bin rfl rfl BinV.lss) rfl ?_
      refine RL.q (by first | exact Yld.pickT rfl rfl | exact Yld.pickF rfl rfl) rfl ?_
      exact RL.nil (N.meet (.cons rfl (.cons rfl (.cons rfl (.cons rfl (.cons rfl (.cons rfl (.cons rfl (.cons rfl (.cons rfl (.cons rfl (.cons rfl (.cons rfl (.cons rfl (.cons rfl (.cons rfl (.cons rfl (.cons rfl .nil))))))))))))))))) (.cons rfl (.cons rfl .nil)))
    ·
      intro hg34
      refine RL.gskip rfl rfl rfl rfl ?_
      refine RL.gskip rfl rfl rfl rfl ?_
      refine RL.gskip rfl rfl rfl rfl ?_
      refine RL.gskip rfl rfl rfl rfl ?_
      refine RL.gskip rfl rfl rfl rfl ?_
      refine RL.gskip rfl rfl rfl rfl ?_
      refine RL.q (by first | exact Yld.pickT rfl rfl | exact Yld.pickF rfl rfl) rfl ?_
      exact RL.nil (N.meet (.cons rfl (.cons rfl (.cons rfl (.cons rfl (.cons rfl (.cons rfl (.cons rfl (.cons rfl (.cons rfl (.cons rfl (.cons rfl (.cons rfl (.cons rfl (.cons rfl (.cons rfl (.cons rfl (.cons rfl .nil))))))))))))))))) (.cons rfl (.cons rfl .nil)))
    refine RL.nil ?_
    refine N.next ?_
    refine W.keep (.cons (k := 0) rfl (.cons (k := 1) rfl (.cons (k := 7) rfl (.cons (k := 8) rfl (.cons (k := 41) rfl .nil))))) (.cons (k := 0) rfl (.cons (k := 1) rfl .nil)) ?_
    refine W.cond rfl (fun hc41 => ?_) (fun hc41 => ?_)
    ·
      have hok : ¬ o.ok := by simp only [OpS.ok]; simp only [Bool.or_eq_true, decide_eq_true_eq] at hc41; omega
      refine W.seq ?_
      refine W.region ?_
      refine RL.q (Yld.assign rfl) rfl ?_
      refine RL.nil ?_
      refine N.next ?_
      refine W.keep (.cons (k := 4) rfl .nil) (.cons (k := 0) rfl (.cons (k := 1) rfl .nil)) ?_
      refine W.ret ?_
      refine N.block_ret ?_
      refine N.then_ret ?_
      refine N.then_ret ?_
      refine N.block_ret ?_
      refine N.then_ret ?_
      exact N.retBy [1] (.cons (.tmp rfl) .nil) rfl rfl rfl rfl ⟨by show Value.bool false = _; rw [Value.bool.injEq, eq_comm, decide_eq_false_iff_not]; exact fun h => hok (h.1 o (List.mem_of_getElem? ho)), rfl⟩
    ·
      have hok : o.ok := by simp only [OpS.ok]; simp only [Bool.or_eq_false_iff, decide_eq_false_iff_not] at hc41; omega
      refine W.skip ?_
      refine N.block_normal ?_
      refine N.next ?_
      refine W.region ?_
      refine RL.q (Yld.bin rfl rfl (by first | exact BinV.add (by omega) (by omega) | exact BinV.addW)) rfl ?_
      refine RL.q (Yld.move rfl) rfl ?_
      refine RL.nil ?_
      exact N.famK (j + 1) ⟨⟨by omega, fun i y hi hy => (Nat.lt_succ_iff_lt_or_eq.1 hi).elim (fun h => hI i y h hy) (fun e => by subst e; rw [ho] at hy; cases hy; exact hok)⟩, by omega⟩ (.as rfl (by first | rfl | (simp; done) | (congr 1; simp; done) | (congr 1; omega)) .nil) (.cons rfl (.cons rfl (.cons rfl .nil))) .nil (.cons rfl (.cons rfl .nil))
  ·
    have hall : ∀ o ∈ ops, o.ok := fun o h => by obtain ⟨i, hi⟩ := List.getElem?_of_mem h; exact hI i o (by have := (List.getElem?_eq_some_iff.1 hi).1; omega) hi
    refine W.exit ?_
    refine N.then_exit ?_
    refine N.then_exit ?_
    refine N.block_eq ?_
    refine N.next ?_
    refine W.seq ?_
    refine W.region ?_
    refine RL.q (Yld.move rfl) rfl ?_
    refine RL.q (Yld.lenSl Try.underlying23 rfl) rfl ?_
    refine RL.q (Yld.move rfl) rfl ?_
    refine RL.q (Yld.bin rfl rfl BinV.leq) rfl ?_
    refine RL.q (Yld.assign rfl) rfl ?_
    refine RL.nil ?_
    refine N.next ?_
    refine W.keep (.cons (k := 4) rfl .nil) (.cons (k := 0) rfl (.cons (k := 1) rfl .nil)) ?_
    refine W.ret ?_
    exact N.retBy [1] (.cons (.tmp rfl) .nil) rfl rfl rfl rfl ⟨by show Value.bool _ = _; rw [Value.bool.injEq, decide_eq_decide]; exact ⟨fun h => ⟨hall, h⟩, fun h => h.2⟩, rfl⟩

set_option maxRecDepth 100000 in
set_option maxHeartbeats 1600000 in
theorem same_ct (bp bm : Nat) (es : Array MapEntry) (ck : Nat) (m : List (Int × Value)) (ms : List Mb) (hM : MapP (fun a : Int => Value.int .i64 a) es ck m) (hR : MR m ms) (hK : MOK ms) (H2 : PH) (p : Option Addr) (c : Nat) (hS : Sl H2 p c 3 (ms.map Mb.c)) : Ct Try.prog 13 [.pointer (some ⟨bp, 0, none⟩), .agg [.int .i64 1, .slice p ms.length c].toArray] [single bp (.cells [.int .i64 1, .map (some bm)].toArray 90 (0, 0)), single bm (.map es ck), H2] (fun v Hs => v = .bool true ∧ Hs = [single bp (.cells [.int .i64 1, .map (some bm)].toArray 90 (0, 0)), single bm (.map es ck), H2]) := by
  refine Ct.body Try.func13 rfl Try.ntmps13 rfl ?_
  intro E F
  have hmx := hS.len_le
  simp only [List.length_map, maxLen] at hmx
  refine W.seq ?_
  refine W.region ?_
  refine RL.e (Eff.box 103 _ rfl rfl) rfl ?_
  rintro _ _ ⟨b3, rfl, rfl⟩
  refine RL.q (Yld.assign rfl) rfl ?_
  refine RL.nil ?_
  refine N.next ?_
  refine W.seq ?_
  refine W.seq ?_
  refine W.region ?_
  refine RL.q (Yld.assign rfl) rfl ?_
  refine RL.nil ?_
  refine N.next ?_
  refine W.block ?_
  refine W.loopK (ι := Int) (fun i => (-1 ≤ i ∧ i ≤ 9)) (fun i => [(5, .int .i64 i)]) (fun i => []) (fun i => (9 - i).toNat) (.cons (k := 0) rfl (.cons (k := 3) rfl .nil)) (.cons (k := 0) rfl (.cons (k := 1) rfl (.cons (k := 2) rfl (.cons (k := 3) rfl (.cons (k := 103) rfl .nil))))) (-1) ?_ ?_ ?_ ?_
  · exact ⟨by omega, by omega⟩
  · exact (.as rfl (by first | rfl | (simp; done) | (congr 1; simp; done) | (congr 1; omega)) .nil)
  · exact .nil
  rintro i hi
  refine W.keep (.cons (k := 5) rfl (.cons (k := 0) rfl (.cons (k := 3) rfl .nil))) (.cons (k := 0) rfl (.cons (k := 1) rfl (.cons (k := 2) rfl (.cons (k := 3) rfl (.cons (k := 103) rfl .nil))))) ?_
  refine W.seq ?_
  refine W.seq ?_
  refine W.region ?_
  refine RL.q (Yld.move rfl) rfl ?_
  refine RL.q (Yld.bin rfl rfl BinV.leq) rfl ?_
  refine RL.nil ?_
  refine N.next ?_
  first | refine W.condD rfl (fun hc11 => ?_) (fun hc11 => ?_) | (refine W.cond rfl (fun hc11 => ?_) (fun hc11 => ?_) <;> try simp only [Bool.or_eq_true, Bool.and_eq_true, Bool.not_eq_true', Bool.not_eq_false', decide_eq_true_eq, Bool.or_eq_false_iff, Bool.and_eq_false_iff, decide_eq_false_iff_not, beq_iff_eq, beq_eq_false_iff_ne, ne_eq, Decidable.not_not] at hc11)
  ·
    refine W.skip ?_
    refine N.next ?_
    refine W.seq ?_
    refine W.block ?_
    refine W.seq ?_
    refine W.region ?_
    refine RL.q (Yld.loadW (c := 103) Try.underlying30 rfl sz30 rfl rfl (by first | exact single_self _ _ | exact pset_self _ _ _ | assumption) rfl) rfl ?_
    refine RL.q (Yld.move rfl) rfl ?_
    refine RL.e (Eff.call ent44 [3] [3] (.cons rfl (.cons rfl .nil)) (rget_ct ms _ _ _ hS i) rfl rfl rfl rfl (by rintro _ _ ⟨_, rfl⟩; rfl)) rfl ?_
    rintro _ _ ⟨_, ⟨rfl, rfl⟩, rfl⟩
    refine RL.q (Yld.move rfl) rfl ?_
    refine RL.q (Yld.extract rfl rfl) rfl ?_
    refine RL.q (Yld.extract rfl rfl) rfl ?_
    refine RL.q (Yld.assign rfl) rfl ?_
    refine RL.q (Yld.assign rfl) rfl ?_
    refine RL.nil ?_
    refine N.next ?_
    refine W.keep (.cons (k := 0) rfl (.cons (k := 3) rfl (.cons (k := 5) rfl (.cons (k := 6) rfl (.cons (k := 7) rfl .nil))))) (.cons (k := 0) rfl (.cons (k := 1) rfl (.cons (k := 2) rfl (.cons (k := 3) rfl (.cons (k := 103) rfl .nil))))) ?_
    refine W.seq ?_
    refine W.region ?_
    refine RL.q (Yld.move rfl) rfl ?_
    refine RL.q (Yld.move rfl) rfl ?_
    refine RL.e (Eff.call ent29 [1, 2] [1, 2] (.cons rfl (.cons rfl .nil)) (pnext_ct bp bm es ck m ms hM hR hK i) rfl rfl rfl rfl (by rintro _ _ ⟨_, rfl⟩; rfl)) rfl ?_
    rintro _ _ ⟨_, ⟨rfl, rfl⟩, rfl⟩
    refine RL.q (Yld.move rfl) rfl ?_
    refine RL.q (Yld.bin rfl rfl BinV.neq) rfl ?_
    refine RL.q (Yld.move rfl) rfl ?_
    refine' RL.or (t := 25) (d := 31) 6 rfl (.cons (k := 0) rfl (.cons (k := 3) rfl (.cons (k := 5) rfl (.cons (k := 6) rfl (.cons (k := 7) rfl (.cons (k := 20) rfl (.cons (k := 21) rfl (.cons (k := 22) rfl (.cons (k := 23) rfl (.cons (k := 24) rfl .nil)))))))))) (.cons (k := 0) rfl (.cons (k := 1) rfl (.cons (k := 2) rfl (.cons (k := 3) rfl (.cons (k := 103) rfl .nil))))) ?_ ?_ ?_
    rotate_left 1
    ·
      intro hg25
      refine RL.gq rfl rfl (Yld.move rfl) rfl ?_
      refine RL.gq rfl rfl (Yld.move rfl) rfl ?_
      refine RL.ge rfl rfl (Eff.call ent26 [1, 2] [1, 2] (.cons rfl (.cons rfl .nil)) (pmatch_ct bp bm es ck m ms hM hR hK i) rfl rfl rfl rfl (by rintro _ _ ⟨_, rfl⟩; rfl)) rfl ?_
      rintro _ _ ⟨_, ⟨rfl, rfl⟩, rfl⟩
      refine RL.gq rfl rfl (Yld.move rfl) rfl ?_
      refine RL.gq rfl rfl (Yld.bin rfl rfl BinV.neq) rfl ?_
      refine RL.q (by first | exact Yld.pickT rfl rfl | exact Yld.pickF rfl rfl) rfl ?_
      exact RL.nil (N.meet (.cons rfl (.cons rfl (.cons rfl (.cons rfl (.cons rfl (.cons rfl (.cons rfl (.cons rfl (.cons rfl (.cons rfl (.cons rfl .nil))))))))))) (.cons rfl (.cons rfl (.cons rfl (.cons rfl (.cons rfl .nil))))))
    ·
      intro hg25
      refine RL.gskip rfl rfl rfl rfl ?_
      refine RL.gskip rfl rfl rfl rfl ?_
      refine RL.gskip rfl rfl rfl rfl ?_
      refine RL.gskip rfl rfl rfl rfl ?_
      refine RL.gskip rfl rfl rfl rfl ?_
      refine RL.q (by first | exact Yld.pickT rfl rfl | exact Yld.pickF rfl rfl) rfl ?_
      exact RL.nil (N.meet (.cons rfl (.cons rfl (.cons rfl (.cons rfl (.cons rfl (.cons rfl (.cons rfl (.cons rfl (.cons rfl (.cons rfl (.cons rfl .nil))))))))))) (.cons rfl (.cons rfl (.cons rfl (.cons rfl (.cons rfl .nil))))))
    refine RL.nil ?_
    refine N.next ?_
    refine W.keep (.cons (k := 0) rfl (.cons (k := 3) rfl (.cons (k := 5) rfl (.cons (k := 31) rfl .nil)))) (.cons (k := 0) rfl (.cons (k := 1) rfl (.cons (k := 2) rfl (.cons (k := 3) rfl (.cons (k := 103) rfl .nil))))) ?_
    refine W.cond rfl (fun hc31 => ?_) (fun hc31 => ?_)
    ·
      simp at hc31 --stop
    ·
      refine W.skip ?_
      refine N.block_normal ?_
      refine N.next ?_
      refine W.region ?_
      refine RL.q (Yld.move rfl) rfl ?_
      refine RL.q (Yld.bin rfl rfl (by first | exact BinV.add (by omega) (by omega) | exact BinV.addW)) rfl ?_
      refine RL.q (Yld.assign rfl) rfl ?_
      refine RL.nil ?_
      exact N.famK (i + 1) ⟨by omega, by omega⟩ (.as rfl (by first | rfl | (simp; done) | (congr 1; simp; done) | (congr 1; omega)) .nil) (.cons rfl (.cons rfl .nil)) .nil (.cons rfl (.cons rfl (.cons rfl (.cons rfl (.cons rfl .nil)))))
  ·
    refine W.exit ?_
    refine N.then_exit ?_
    refine N.then_exit ?_
    refine N.block_eq ?_
    refine N.next ?_
    refine W.seq ?_
    refine W.seq ?_
    refine W.region ?_
    refine RL.q (Yld.fieldAddr fo30_1 rfl) rfl ?_
    refine RL.q (Yld.load1 (c := 103) Try.underlying28 rfl rfl rfl (by first | exact single_self _ _ | exact pset_self _ _ _ | assumption) rfl) rfl ?_
    refine RL.q (Yld.lenSl Try.underlying28 rfl) rfl ?_
    refine RL.q (Yld.move rfl) rfl ?_
    refine RL.nil ?_
    refine N.next ?_
    refine W.keep (.cons (k := 0) rfl (.cons (k := 3) rfl (.cons (k := 33) rfl (.cons (k := 34) rfl (.cons (k := 35) rfl .nil))))) (.cons (k := 0) rfl (.cons (k := 1) rfl (.cons (k := 2) rfl (.cons (k := 3) rfl (.cons (k := 103) rfl .nil))))) ?_
    refine W.block ?_
    refine W.loopK (ι := Nat) (fun j => (j ≤ ms.length)) (fun j => [(35, .int .i64 (j : Nat))]) (fun j => []) (fun j => ms.length - j) (.cons (k := 0) rfl (.cons (k := 3) rfl (.cons (k := 33) rfl (.cons (k := 34) rfl .nil)))) (.cons (k := 0) rfl (.cons (k := 1) rfl (.cons (k := 2) rfl (.cons (k := 3) rfl (.cons (k := 103) rfl .nil))))) 0 ?_ ?_ ?_ ?_
    · exact Nat.zero_le _
    · exact (.as rfl (by first | rfl | (simp; done) | (congr 1; simp; done) | (congr 1; omega)) .nil)
    · exact .nil
    rintro j hj
    refine W.keep (.cons (k := 35) rfl (.cons (k := 0) rfl (.cons (k := 3) rfl (.cons (k := 33) rfl (.cons (k := 34) rfl .nil))))) (.cons (k := 0) rfl (.cons (k := 1) rfl (.cons (k := 2) rfl (.cons (k := 3) rfl (.cons (k := 103) rfl .nil))))) ?_
    refine W.seq ?_
    refine W.region ?_
    refine RL.q (Yld.bin rfl rfl BinV.lss) rfl ?_
    refine RL.nil ?_
    refine N.next ?_
    refine W.seq ?_
    first | refine W.condD rfl (fun hc36 => ?_) (fun hc36 => ?_) | (refine W.cond rfl (fun hc36 => ?_) (fun hc36 => ?_) <;> try simp only [Bool.or_eq_true, Bool.and_eq_true, Bool.not_eq_true', Bool.not_eq_false', decide_eq_true_eq, Bool.or_eq_false_iff, Bool.and_eq_false_iff, decide_eq_false_iff_not, beq_iff_eq, beq_eq_false_iff_ne, ne_eq, Decidable.not_not] at hc36)
    ·
      obtain ⟨x, hx⟩ : ∃ x, ms[j]? = some x := ⟨_, List.getElem?_eq_getElem (show j < ms.length by omega)⟩
      have hlx : (ms.map Mb.c)[j]? = some [.int .i64 x.r, .int .i64 x.nx, .int .i64 x.mt] := by simp [hx, Mb.c]
      have hfx := fnd_mem hK.sorted (List.mem_of_getElem? hx)
      refine W.skip ?_
      refine N.next ?_
      refine W.seq ?_
      refine W.block ?_
      refine W.seq ?_
      refine W.region ?_
      refine RL.q (Yld.indexRow Try.underlying28 sz94 rfl rfl (by first | assumption | exact Own.sl (by assumption)) (by first | rfl | omega | (simp; done) | (simp; omega)) (by omega) (by first | omega | (simp; done) | (simp; omega))) rfl ?_
      refine RL.q (by first | exact Yld.loadRow (cl := 1) Try.underlying94 rfl sz94 rfl rfl (by first | assumption | exact Own.sl (by assumption)) (by assumption) | exact Yld.loadRow (cl := 2) Try.underlying94 rfl sz94 rfl rfl (by first | assumption | exact Own.sl (by assumption)) (by assumption) | exact Yld.loadRow (cl := 3) Try.underlying94 rfl sz94 rfl rfl (by first | assumption | exact Own.sl (by assumption)) (by assumption) | exact Yld.loadRow (cl := 103) Try.underlying94 rfl sz94 rfl rfl (by first | assumption | exact Own.sl (by assumption)) (by assumption)) rfl ?_
      refine RL.e (Eff.alloc 109 zc94) rfl ?_
      rintro _ _ ⟨b9, rfl, rfl⟩
      refine RL.e0 (Eff.storeS (c := 109) _ sz94 rfl rfl rfl rfl rfl rfl rfl (by (try simp only [putAt, List.take, List.drop, List.nil_append, List.cons_append, List.append_nil, List.length_cons, List.length_nil, Nat.add_zero, Nat.zero_add, Nat.reduceAdd]); rfl)) ?_
      rintro _ _ rfl
      refine RL.nil ?_
      refine N.next ?_
      refine W.seq ?_
      refine W.draw (.q 0 (.q 1 (.q 2 (.q 4 (.q 5 (.one 3 (.q 6 (.q 7 (.q 8 (.q 9 (.q 10 (.q 12 (.q 13 (.one 11 (.q 14 (.q 15 .done)))))))))))))))) (.cons (k := 0) rfl (.cons (k := 3) rfl (.cons (k := 103) rfl (.cons (k := 109) rfl .nil)))) mix (by kernel_rfl) (by kernel_rfl) ?_
      refine DL.q rfl (Yld.move rfl) rfl ?_
      refine DL.q rfl (Yld.fieldAddr fo94_0 rfl) rfl ?_
      refine DL.q rfl (Yld.load1 (c := 109) Try.underlying3 rfl rfl rfl (by first | exact single_self _ _ | exact pset_self _ _ _ | assumption) rfl) rfl ?_
      refine DL.q rfl (Yld.fieldAddr fo94_1 rfl) rfl ?_
      refine DL.q rfl (Yld.load1 (c := 109) Try.underlying3 rfl rfl rfl (by first | exact single_self _ _ | exact pset_self _ _ _ | assumption) rfl) rfl ?_
      refine DL.one rfl (Eff.call ent29 [1, 2] [1, 2] (.cons rfl (.cons rfl .nil)) (pnext_ct bp bm es ck m ms hM hR hK x.r) rfl rfl rfl rfl (by rintro _ _ ⟨_, rfl⟩; rfl)) rfl (by rintro _ _ ⟨_, ⟨rfl, rfl⟩, rfl⟩; repeat (first | exact .nil | refine .cons rfl ?_)) ?_
      rintro _ _ ⟨_, ⟨rfl, rfl⟩, rfl⟩
      refine DL.q rfl (Yld.bin rfl rfl BinV.neq) rfl ?_
      refine DL.q rfl (Yld.move rfl) rfl ?_
      refine' DL.or (t := 46) (d := 54) 8 rfl (.cons (k := 0) rfl (.cons (k := 3) rfl (.cons (k := 9) rfl (.cons (k := 33) rfl (.cons (k := 34) rfl (.cons (k := 35) rfl (.cons (k := 36) rfl (.cons (k := 37) rfl (.cons (k := 38) rfl (.cons (k := 39) rfl (.cons (k := 40) rfl (.cons (k := 41) rfl (.cons (k := 42) rfl (.cons (k := 43) rfl (.cons (k := 44) rfl (.cons (k := 45) rfl .nil)))))))))))))))) (.cons (k := 0) rfl (.cons (k := 1) rfl (.cons (k := 2) rfl (.cons (k := 3) rfl (.cons (k := 103) rfl (.cons (k := 109) rfl .nil)))))) ?_ ?_ ?_
      rotate_left 1
      ·
        intro hg46
        refine DL.gq rfl rfl rfl (Yld.move rfl) rfl ?_
        refine DL.gq rfl rfl rfl (Yld.fieldAddr fo94_0 rfl) rfl ?_
        refine DL.gq rfl rfl rfl (Yld.load1 (c := 109) Try.underlying3 rfl rfl rfl (by first | exact single_self _ _ | exact pset_self _ _ _ | assumption) rfl) rfl ?_
        refine DL.gq rfl rfl rfl (Yld.fieldAddr fo94_2 rfl) rfl ?_
        refine DL.gq rfl rfl rfl (Yld.load1 (c := 109) Try.underlying3 rfl rfl rfl (by first | exact single_self _ _ | exact pset_self _ _ _ | assumption) rfl) rfl ?_
        refine DL.gone rfl rfl rfl (Eff.call ent26 [1, 2] [1, 2] (.cons rfl (.cons rfl .nil)) (pmatch_ct bp bm es ck m ms hM hR hK x.r) rfl rfl rfl rfl (by rintro _ _ ⟨_, rfl⟩; rfl)) rfl (by rintro _ _ ⟨_, ⟨rfl, rfl⟩, rfl⟩; repeat (first | exact .nil | refine .cons rfl ?_)) ?_
        rintro _ _ ⟨_, ⟨rfl, rfl⟩, rfl⟩
        refine DL.gq rfl rfl rfl (Yld.bin rfl rfl BinV.neq) rfl ?_
        refine DL.q rfl (by first | exact Yld.pickT rfl rfl | exact Yld.pickF rfl rfl) rfl ?_
        exact DL.meet (.cons rfl (.cons rfl (.cons rfl (.cons rfl (.cons rfl (.cons rfl (.cons rfl (.cons rfl (.cons rfl (.cons rfl (.cons rfl (.cons rfl (.cons rfl (.cons rfl (.cons rfl (.cons rfl (.cons rfl .nil))))))))))))))))) (.cons rfl (.cons rfl (.cons rfl (.cons rfl (.cons rfl (.cons rfl .nil))))))
      ·
        intro hg46
        refine DL.gskip rfl rfl rfl rfl rfl ?_
        refine DL.gskip rfl rfl rfl rfl rfl ?_
        refine DL.gskip rfl rfl rfl rfl rfl ?_
        refine DL.gskip rfl rfl rfl rfl rfl ?_
        refine DL.gskip rfl rfl rfl rfl rfl ?_
        refine DL.gskip1 rfl rfl rfl rfl rfl ?_
        refine DL.gskip rfl rfl rfl rfl rfl ?_
        refine DL.q rfl (by first | exact Yld.pickT rfl rfl | exact Yld.pickF rfl rfl) rfl ?_
        exact DL.meet (.cons rfl (.cons rfl (.cons rfl (.cons rfl (.cons rfl (.cons rfl (.cons rfl (.cons rfl (.cons rfl (.cons rfl (.cons rfl (.cons rfl (.cons rfl (.cons rfl (.cons rfl (.cons rfl (.cons rfl .nil))))))))))))))))) (.cons rfl (.cons rfl (.cons rfl (.cons rfl (.cons rfl (.cons rfl .nil))))))
      refine DL.done ?_
      refine N.next ?_
      refine W.keep (.cons (k := 0) rfl (.cons (k := 3) rfl (.cons (k := 33) rfl (.cons (k := 34) rfl (.cons (k := 35) rfl (.cons (k := 54) rfl .nil)))))) (.cons (k := 0) rfl (.cons (k := 1) rfl (.cons (k := 2) rfl (.cons (k := 3) rfl (.cons (k := 103) rfl (.cons (k := 109) rfl .nil)))))) ?_
      refine W.cond rfl (fun hc54 => ?_) (fun hc54 => ?_)
      ·
        simp [hfx] at hc54 --stop
      ·
        refine W.skip ?_
        refine N.block_normal ?_
        refine N.next ?_
        refine W.region ?_
        refine RL.q (Yld.bin rfl rfl (by first | exact BinV.add (by omega) (by omega) | exact BinV.addW)) rfl ?_
        refine RL.q (Yld.move rfl) rfl ?_
        refine RL.nil ?_
        exact N.famK (j + 1) ⟨by omega, by omega⟩ (.as rfl (by first | rfl | (simp; done) | (congr 1; simp; done) | (congr 1; omega)) .nil) (.cons rfl (.cons rfl (.cons rfl (.cons rfl .nil)))) .nil (.cons rfl (.cons rfl (.cons rfl (.cons rfl (.cons rfl .nil)))))
    ·
      refine W.exit ?_
      refine N.then_exit ?_
      refine N.then_exit ?_
      refine N.block_eq ?_
      refine N.next ?_
      refine W.keep (.cons (k := 0) rfl (.cons (k := 3) rfl .nil)) (.cons (k := 0) rfl (.cons (k := 1) rfl (.cons (k := 2) rfl (.cons (k := 3) rfl (.cons (k := 103) rfl .nil))))) ?_
      refine W.seq ?_
      refine W.draw (.q 0 (.q 2 (.one 1 (.one 3 (.one 4 (.q 5 (.q 6 (.q 8 (.one 7 (.one 9 (.one 10 (.q 11 (.q 12 .done))))))))))))) (.cons (k := 0) rfl (.cons (k := 103) rfl .nil)) mix (by kernel_rfl) (by kernel_rfl) ?_
      refine DL.q rfl (Yld.move rfl) rfl ?_
      refine DL.q rfl (Yld.loadW (c := 103) Try.underlying30 rfl sz30 rfl rfl (by first | exact single_self _ _ | exact pset_self _ _ _ | assumption) rfl) rfl ?_
      refine DL.one rfl (Eff.call ent34 [1, 2] [1, 2, 131] (.cons rfl (.cons rfl .nil)) (pcaught_ct bp bm es ck m ms hM hR hK (3)) rfl rfl rfl rfl (by rintro _ _ ⟨_, _, _, _, _, rfl⟩; rfl)) rfl (by rintro _ _ ⟨_, ⟨Ha, pa, ca, rfl, hOa, rfl⟩, rfl⟩; repeat (first | exact .nil | refine .cons rfl ?_)) ?_
      rintro _ _ ⟨_, ⟨Ha, pa, ca, rfl, hOa, rfl⟩, rfl⟩
      refine DL.one rfl (Eff.call ent46 [3] [3, 132] (.cons rfl (.cons rfl .nil)) (rcaught_ct ms _ _ _ hS hK.len (3)) rfl rfl rfl rfl (by rintro _ _ ⟨_, _, _, _, _, rfl⟩; rfl)) rfl (by rintro _ _ ⟨_, ⟨Hb, pb, cb, rfl, hOb, rfl⟩, rfl⟩; repeat (first | exact .nil | refine .cons rfl ?_)) ?_
      rintro _ _ ⟨_, ⟨Hb, pb, cb, rfl, hOb, rfl⟩, rfl⟩
      refine DL.one rfl (Eff.call ent45 [131, 132] [131, 132] (.cons rfl (.cons rfl .nil)) (ints_ct _ _ _ _ hOa.sl _ _ _ _ hOb.sl) rfl rfl rfl rfl (by rintro _ _ ⟨_, rfl⟩; rfl)) rfl (by rintro _ _ ⟨_, ⟨rfl, rfl⟩, rfl⟩; repeat (first | exact .nil | refine .cons rfl ?_)) ?_
      rintro _ _ ⟨_, ⟨rfl, rfl⟩, rfl⟩
      refine DL.q rfl (Yld.move rfl) rfl ?_
      refine' DL.and (t := 61) (d := 67) 6 rfl (.cons (k := 0) rfl (.cons (k := 3) rfl (.cons (k := 56) rfl (.cons (k := 57) rfl (.cons (k := 58) rfl (.cons (k := 59) rfl (.cons (k := 60) rfl .nil))))))) (.cons (k := 0) rfl (.cons (k := 1) rfl (.cons (k := 2) rfl (.cons (k := 3) rfl (.cons (k := 103) rfl (.cons (k := 131) rfl (.cons (k := 132) rfl .nil))))))) ?_ ?_ ?_
      rotate_left 1
      ·
        intro hg61
        refine DL.gq rfl rfl rfl (Yld.move rfl) rfl ?_
        refine DL.gq rfl rfl rfl (Yld.loadW (c := 103) Try.underlying30 rfl sz30 rfl rfl (by first | exact single_self _ _ | exact pset_self _ _ _ | assumption) rfl) rfl ?_
        refine DL.gone rfl rfl rfl (Eff.call ent34 [1, 2] [1, 2, 133] (.cons rfl (.cons rfl .nil)) (pcaught_ct bp bm es ck m ms hM hR hK (-1)) rfl rfl rfl rfl (by rintro _ _ ⟨_, _, _, _, _, rfl⟩; rfl)) rfl (by rintro _ _ ⟨_, ⟨Ha, pa, ca, rfl, hOa, rfl⟩, rfl⟩; repeat (first | exact .nil | refine .cons rfl ?_)) ?_
        rintro _ _ ⟨_, ⟨Ha, pa, ca, rfl, hOa, rfl⟩, rfl⟩
        refine DL.gone rfl rfl rfl (Eff.call ent46 [3] [3, 134] (.cons rfl (.cons rfl .nil)) (rcaught_ct ms _ _ _ hS hK.len (-1)) rfl rfl rfl rfl (by rintro _ _ ⟨_, _, _, _, _, rfl⟩; rfl)) rfl (by rintro _ _ ⟨_, ⟨Hb, pb, cb, rfl, hOb, rfl⟩, rfl⟩; repeat (first | exact .nil | refine .cons rfl ?_)) ?_
        rintro _ _ ⟨_, ⟨Hb, pb, cb, rfl, hOb, rfl⟩, rfl⟩
        refine DL.gone rfl rfl rfl (Eff.call ent45 [133, 134] [133, 134] (.cons rfl (.cons rfl .nil)) (ints_ct _ _ _ _ hOa.sl _ _ _ _ hOb.sl) rfl rfl rfl rfl (by rintro _ _ ⟨_, rfl⟩; rfl)) rfl (by rintro _ _ ⟨_, ⟨rfl, rfl⟩, rfl⟩; repeat (first | exact .nil | refine .cons rfl ?_)) ?_
        rintro _ _ ⟨_, ⟨rfl, rfl⟩, rfl⟩
        refine DL.q rfl (by first | exact Yld.pickT rfl rfl | exact Yld.pickF rfl rfl) rfl ?_
        exact DL.meet (.cons rfl (.cons rfl (.cons rfl (.cons rfl (.cons rfl (.cons rfl (.cons rfl (.cons rfl .nil)))))))) (.cons rfl (.cons rfl (.cons rfl (.cons rfl (.cons rfl (.cons rfl (.cons rfl .nil)))))))
      ·
        intro hg61
        refine DL.gskip rfl rfl rfl rfl rfl ?_
        refine DL.gskip rfl rfl rfl rfl rfl ?_
        refine DL.gskip1 rfl rfl rfl rfl rfl ?_
        refine DL.gskip1 rfl rfl rfl rfl rfl ?_
        refine DL.gskip1 rfl rfl rfl rfl rfl ?_
        refine DL.q rfl (by first | exact Yld.pickT rfl rfl | exact Yld.pickF rfl rfl) rfl ?_
        exact DL.meet (.cons rfl (.cons rfl (.cons rfl (.cons rfl (.cons rfl (.cons rfl (.cons rfl (.cons rfl .nil)))))))) (.cons rfl (.cons rfl (.cons rfl (.cons rfl (.cons rfl (.cons rfl (.cons rfl .nil)))))))
      refine DL.q rfl (Yld.assign rfl) rfl ?_
      refine DL.done ?_
      refine N.next ?_
      refine W.keep (.cons (k := 4) rfl .nil) (.cons (k := 0) rfl (.cons (k := 1) rfl (.cons (k := 2) rfl (.cons (k := 3) rfl (.cons (k := 103) rfl (.cons (k := 131) rfl (.cons (k := 132) rfl .nil))))))) ?_
      refine W.ret ?_
      exact N.retBy [1, 2, 3] (.cons (.tmp rfl) .nil) rfl rfl rfl rfl ⟨by show Value.bool _ = _; rw [Value.bool.injEq]; simp, rfl⟩

set_option maxRecDepth 100000 in
set_option maxHeartbeats 1600000 in
theorem step_ct (bp bm : Nat) (es : Array MapEntry) (ck : Nat) (m : List (Int × Value)) (ms : List Mb) (hM : MapP (fun a : Int => Value.int .i64 a) es ck m) (hR : MR m ms) (hK : MOK ms) (H2 : PH) (p : Option Addr) (c : Nat) (hS : Sl H2 p c 3 (ms.map Mb.c)) (kd a b : Int) (ha : a ≤ 1099511627776) (hb : b ≤ 1099511627776) (hb2 : -1099511627776 ≤ b) (l : List Int) (H3 : PH) (q : Option Addr) (d : Nat) (hl : Sl H3 q d 1 (iz l)) (hl8 : l.length ≤ 8) : Ct Try.prog 14 [.pointer (some ⟨bp, 0, none⟩), .agg [.int .i64 1, .slice p ms.length c].toArray, .agg [.int .i64 kd, .int .i64 a, .int .i64 b, .slice q l.length d].toArray] [single bp (.cells [.int .i64 1, .map (some bm)].toArray 90 (0, 0)), single bm (.map es ck), H2, H3] (fun v Hs => ∃ es' ck' m' H' p' c', v = .tuple [.agg [.int .i64 1, .slice p' (stp kd a b l ms).length c'].toArray, .bool true].toArray ∧ MapP (fun a : Int => Value.int .i64 a) es' ck' m' ∧ MR m' (stp kd a b l ms) ∧ Sl H' p' c' 3 ((stp kd a b l ms).map Mb.c) ∧ Hs = [single bp (.cells [.int .i64 1, .map (some bm)].toArray 90 (0, 0)), single bm (.map es' ck'), H', H3]) := by
  refine Ct.body Try.func14 rfl Try.ntmps14 rfl ?_
  intro E F
  have hmx := hS.len_le
  simp only [List.length_map, maxLen] at hmx
  refine W.seq ?_
  refine W.region ?_
  refine RL.e (Eff.box 104 _ rfl rfl) rfl ?_
  rintro _ _ ⟨b4, rfl, rfl⟩
  refine RL.e (Eff.box 105 _ rfl rfl) rfl ?_
  rintro _ _ ⟨b5, rfl, rfl⟩
  refine RL.e (Eff.alloc 106 zc30) rfl ?_
  rintro _ _ ⟨b6, rfl, rfl⟩
  refine RL.q (Yld.assign rfl) rfl ?_
  refine RL.nil ?_
  refine N.next ?_
  refine W.seq ?_
  refine W.seq ?_
  refine W.region ?_
  refine RL.q (Yld.fieldAddr fo36_0 rfl) rfl ?_
  refine RL.q (Yld.load1 (c := 105) Try.underlying3 rfl rfl rfl (by first | exact single_self _ _ | exact pset_self _ _ _ | assumption) rfl) rfl ?_
  refine RL.nil ?_
  refine N.next ?_
  refine W.keep (.cons (k := 0) rfl (.cons (k := 4) rfl (.cons (k := 5) rfl (.cons (k := 6) rfl (.cons (k := 13) rfl .nil))))) (.cons (k := 0) rfl (.cons (k := 1) rfl (.cons (k := 2) rfl (.cons (k := 3) rfl (.cons (k := 4) rfl (.cons (k := 104) rfl (.cons (k := 105) rfl (.cons (k := 106) rfl .nil)))))))) ?_
  refine W.block ?_
  refine W.seq ?_
  refine W.region ?_
  refine RL.q (Yld.bin rfl rfl BinV.eql) rfl ?_
  refine RL.q (Yld.assign rfl) rfl ?_
  refine RL.nil ?_
  refine N.next ?_
  first | refine W.condD rfl (fun hc14 => ?_) (fun hc14 => ?_) | (refine W.cond rfl (fun hc14 => ?_) (fun hc14 => ?_) <;> try simp only [Bool.or_eq_true, Bool.and_eq_true, Bool.not_eq_true', Bool.not_eq_false', decide_eq_true_eq, Bool.or_eq_false_iff, Bool.and_eq_false_iff, decide_eq_false_iff_not, beq_iff_eq, beq_eq_false_iff_ne, ne_eq, Decidable.not_not] at hc14)
  ·
    have hst : (stp kd a b l ms) = upd (accM b) ms a := by unfold stp; rw [if_pos hc14]
    refine W.seq ?_
    refine W.region ?_
    refine RL.q (Yld.loadW (c := 104) Try.underlying30 rfl sz30 rfl rfl (by first | exact single_self _ _ | exact pset_self _ _ _ | assumption) rfl) rfl ?_
    refine RL.q (Yld.fieldAddr fo36_1 rfl) rfl ?_
    refine RL.q (Yld.load1 (c := 105) Try.underlying3 rfl rfl rfl (by first | exact single_self _ _ | exact pset_self _ _ _ | assumption) rfl) rfl ?_
    refine RL.q (Yld.fieldAddr fo36_2 rfl) rfl ?_
    refine RL.q (Yld.load1 (c := 105) Try.underlying3 rfl rfl rfl (by first | exact single_self _ _ | exact pset_self _ _ _ | assumption) rfl) rfl ?_
    refine RL.e (Eff.call ent47 [3] [3] (.cons rfl (.cons rfl (.cons rfl .nil))) (raccept_ct ms _ _ _ hS hK a b hb) rfl rfl rfl rfl (by rintro _ _ ⟨_, _, _, _, _, rfl⟩; rfl)) rfl ?_
    rintro _ _ ⟨_, ⟨Hn, pn, cn, rfl, hSn, rfl⟩, rfl⟩
    refine RL.q (Yld.move rfl) rfl ?_
    refine RL.q (Yld.extract rfl rfl) rfl ?_
    refine RL.q (Yld.extract rfl rfl) rfl ?_
    refine RL.e (Eff.alloc 108 zc30) rfl ?_
    rintro _ _ ⟨b8, rfl, rfl⟩
    refine RL.e0 (Eff.storeS (c := 108) _ sz30 rfl rfl rfl rfl rfl rfl rfl (by (try simp only [putAt, List.take, List.drop, List.nil_append, List.cons_append, List.append_nil, List.length_cons, List.length_nil, Nat.add_zero, Nat.zero_add, Nat.reduceAdd]); rfl)) ?_
    rintro _ _ rfl
    refine RL.q (Yld.assign rfl) rfl ?_
    refine RL.nil ?_
    refine N.next ?_
    refine W.keep (.cons (k := 0) rfl (.cons (k := 5) rfl (.cons (k := 6) rfl (.cons (k := 8) rfl (.cons (k := 9) rfl .nil))))) (.cons (k := 0) rfl (.cons (k := 1) rfl (.cons (k := 2) rfl (.cons (k := 3) rfl (.cons (k := 4) rfl (.cons (k := 104) rfl (.cons (k := 105) rfl (.cons (k := 106) rfl (.cons (k := 108) rfl .nil))))))))) ?_
    refine W.seq ?_
    refine W.draw (.q 0 (.q 1 (.q 2 (.q 3 (.q 4 (.q 5 (.q 7 (.one 6 (.q 8 (.one 9 (.q 10 .done))))))))))) (.cons (k := 0) rfl (.cons (k := 3) rfl (.cons (k := 4) rfl (.cons (k := 104) rfl (.cons (k := 105) rfl (.cons (k := 108) rfl .nil)))))) mix (by kernel_rfl) (by kernel_rfl) ?_
    refine DL.q rfl (Yld.loadW (c := 108) Try.underlying30 rfl sz30 rfl rfl (by first | exact single_self _ _ | exact pset_self _ _ _ | assumption) rfl) rfl ?_
    refine DL.q rfl (Yld.move rfl) rfl ?_
    refine DL.q rfl (Yld.fieldAddr fo36_1 rfl) rfl ?_
    refine DL.q rfl (Yld.load1 (c := 105) Try.underlying3 rfl rfl rfl (by first | exact single_self _ _ | exact pset_self _ _ _ | assumption) rfl) rfl ?_
    refine DL.q rfl (Yld.fieldAddr fo36_2 rfl) rfl ?_
    refine DL.q rfl (Yld.load1 (c := 105) Try.underlying3 rfl rfl rfl (by first | exact single_self _ _ | exact pset_self _ _ _ | assumption) rfl) rfl ?_
    refine DL.q rfl (Yld.move rfl) rfl ?_
    refine DL.one rfl (Eff.call ent30 [1, 2] [1, 2] (.cons rfl (.cons rfl (.cons rfl .nil))) (paccept_ct bp bm es ck m ms hM hR hK a b hb) rfl rfl rfl rfl (by rintro _ _ ⟨_, _, _, _, _, _, rfl⟩; rfl)) rfl (by rintro _ _ ⟨_, ⟨rfl, es', ck', m', hM', hR', rfl⟩, rfl⟩; repeat (first | exact .nil | refine .cons rfl ?_)) ?_
    rintro _ _ ⟨_, ⟨rfl, es', ck', m', hM', hR', rfl⟩, rfl⟩
    refine DL.q rfl (Yld.bin rfl rfl (BinV.eqlB Try.underlying4)) rfl ?_
    refine DL.one0 rfl (Eff.storeS (c := 106) _ sz30 rfl rfl rfl rfl rfl rfl rfl (by (try simp only [putAt, List.take, List.drop, List.nil_append, List.cons_append, List.append_nil, List.length_cons, List.length_nil, Nat.add_zero, Nat.zero_add, Nat.reduceAdd]); rfl)) (by rintro _ _ rfl; repeat (first | exact .nil | refine .cons rfl ?_)) ?_
    rintro _ _ rfl
    refine DL.q rfl (Yld.assign rfl) rfl ?_
    refine DL.done ?_
    refine N.next ?_
    refine W.keep (.cons (k := 6) rfl (.cons (k := 7) rfl .nil)) (.cons (k := 0) rfl (.cons (k := 1) rfl (.cons (k := 2) rfl (.cons (k := 3) rfl (.cons (k := 4) rfl (.cons (k := 104) rfl (.cons (k := 105) rfl (.cons (k := 106) rfl (.cons (k := 108) rfl .nil))))))))) ?_
    refine W.ret ?_
    refine N.block_ret ?_
    refine N.then_ret ?_
    exact N.retBy [1, 2, 3, 4] (.cons (by first | exact .cell (c := 106) rfl rfl (fun w hs => run_loadVarA Try.underlying30 rfl sz30 rfl (fun j u hj => by rw [Nat.zero_add, PH.sub.cell hs (by first | exact single_self _ _ | exact pset_self _ _ _ | assumption)]; exact hj))) (.cons (.tmp rfl) .nil)) rfl rfl rfl rfl (by first | exact ⟨es', ck', m', Hn, pn, cn, by rw [hst]; rfl, hM', by rw [hst]; exact hR', by rw [hst]; exact hSn, rfl⟩ | exact ⟨es', ck', m', Hn, pn, cn, by rw [hst]; simp [resOf], hM', by rw [hst]; exact hR', by rw [hst]; exact hSn, rfl⟩ | exact ⟨es, ck, m, H2, p, c, by rw [hst]; rfl, hM, by rw [hst]; exact hR, by rw [hst]; exact hS, rfl⟩)
  ·
    refine W.seq ?_
    refine W.region ?_
    refine RL.q (Yld.bin rfl rfl BinV.eql) rfl ?_
    refine RL.q (Yld.assign rfl) rfl ?_
    refine RL.nil ?_
    refine N.next ?_
    first | refine W.condD rfl (fun hc34 => ?_) (fun hc34 => ?_) | (refine W.cond rfl (fun hc34 => ?_) (fun hc34 => ?_) <;> try simp only [Bool.or_eq_true, Bool.and_eq_true, Bool.not_eq_true', Bool.not_eq_false', decide_eq_true_eq, Bool.or_eq_false_iff, Bool.and_eq_false_iff, decide_eq_false_iff_not, beq_iff_eq, beq_eq_false_iff_ne, ne_eq, Decidable.not_not] at hc34)
    ·
      have hst : (stp kd a b l ms) = upd (rejM b) ms a := by unfold stp; rw [if_neg hc14, if_pos hc34]
      refine W.seq ?_
      refine W.region ?_
      refine RL.q (Yld.loadW (c := 104) Try.underlying30 rfl sz30 rfl rfl (by first | exact single_self _ _ | exact pset_self _ _ _ | assumption) rfl) rfl ?_
      refine RL.q (Yld.fieldAddr fo36_1 rfl) rfl ?_
      refine RL.q (Yld.load1 (c := 105) Try.underlying3 rfl rfl rfl (by first | exact single_self _ _ | exact pset_self _ _ _ | assumption) rfl) rfl ?_
      refine RL.q (Yld.fieldAddr fo36_2 rfl) rfl ?_
      refine RL.q (Yld.load1 (c := 105) Try.underlying3 rfl rfl rfl (by first | exact single_self _ _ | exact pset_self _ _ _ | assumption) rfl) rfl ?_
      refine RL.e (Eff.call ent48 [3] [3] (.cons rfl (.cons rfl (.cons rfl .nil))) (rreject_ct ms _ _ _ hS hK a b hb2) rfl rfl rfl rfl (by rintro _ _ ⟨_, _, _, _, _, rfl⟩; rfl)) rfl ?_
      rintro _ _ ⟨_, ⟨Hn, pn, cn, rfl, hSn, rfl⟩, rfl⟩
      refine RL.q (Yld.move rfl) rfl ?_
      refine RL.q (Yld.extract rfl rfl) rfl ?_
      refine RL.q (Yld.extract rfl rfl) rfl ?_
      refine RL.e (Eff.alloc 110 zc30) rfl ?_
      rintro _ _ ⟨b10, rfl, rfl⟩
      refine RL.e0 (Eff.storeS (c := 110) _ sz30 rfl rfl rfl rfl rfl rfl rfl (by (try simp only [putAt, List.take, List.drop, List.nil_append, List.cons_append, List.append_nil, List.length_cons, List.length_nil, Nat.add_zero, Nat.zero_add, Nat.reduceAdd]); rfl)) ?_
      rintro _ _ rfl
      refine RL.q (Yld.assign rfl) rfl ?_
      refine RL.nil ?_
      refine N.next ?_
      refine W.keep (.cons (k := 0) rfl (.cons (k := 5) rfl (.cons (k := 6) rfl (.cons (k := 10) rfl (.cons (k := 11) rfl .nil))))) (.cons (k := 0) rfl (.cons (k := 1) rfl (.cons (k := 2) rfl (.cons (k := 3) rfl (.cons (k := 4) rfl (.cons (k := 104) rfl (.cons (k := 105) rfl (.cons (k := 106) rfl (.cons (k := 110) rfl .nil))))))))) ?_
      refine W.seq ?_
      refine W.draw (.q 0 (.q 1 (.q 2 (.q 3 (.q 4 (.q 5 (.q 7 (.one 6 (.q 8 (.one 9 (.q 10 .done))))))))))) (.cons (k := 0) rfl (.cons (k := 3) rfl (.cons (k := 4) rfl (.cons (k := 104) rfl (.cons (k := 105) rfl (.cons (k := 110) rfl .nil)))))) mix (by kernel_rfl) (by kernel_rfl) ?_
      refine DL.q rfl (Yld.loadW (c := 110) Try.underlying30 rfl sz30 rfl rfl (by first | exact single_self _ _ | exact pset_self _ _ _ | assumption) rfl) rfl ?_
      refine DL.q rfl (Yld.move rfl) rfl ?_
      refine DL.q rfl (Yld.fieldAddr fo36_1 rfl) rfl ?_
      refine DL.q rfl (Yld.load1 (c := 105) Try.underlying3 rfl rfl rfl (by first | exact single_self _ _ | exact pset_self _ _ _ | assumption) rfl) rfl ?_
      refine DL.q rfl (Yld.fieldAddr fo36_2 rfl) rfl ?_
      refine DL.q rfl (Yld.load1 (c := 105) Try.underlying3 rfl rfl rfl (by first | exact single_self _ _ | exact pset_self _ _ _ | assumption) rfl) rfl ?_
      refine DL.q rfl (Yld.move rfl) rfl ?_
      refine DL.one rfl (Eff.call ent31 [1, 2] [1, 2] (.cons rfl (.cons rfl (.cons rfl .nil))) (preject_ct bp bm es ck m ms hM hR hK a b hb2) rfl rfl rfl rfl (by rintro _ _ ⟨_, _, _, _, _, _, rfl⟩; rfl)) rfl (by rintro _ _ ⟨_, ⟨rfl, es', ck', m', hM', hR', rfl⟩, rfl⟩; repeat (first | exact .nil | refine .cons rfl ?_)) ?_
      rintro _ _ ⟨_, ⟨rfl, es', ck', m', hM', hR', rfl⟩, rfl⟩
      refine DL.q rfl (Yld.bin rfl rfl (BinV.eqlB Try.underlying4)) rfl ?_
      refine DL.one0 rfl (Eff.storeS (c := 106) _ sz30 rfl rfl rfl rfl rfl rfl rfl (by (try simp only [putAt, List.take, List.drop, List.nil_append, List.cons_append, List.append_nil, List.length_cons, List.length_nil, Nat.add_zero, Nat.zero_add, Nat.reduceAdd]); rfl)) (by rintro _ _ rfl; repeat (first | exact .nil | refine .cons rfl ?_)) ?_
      rintro _ _ rfl
      refine DL.q rfl (Yld.assign rfl) rfl ?_
      refine DL.done ?_
      refine N.next ?_
      refine W.keep (.cons (k := 6) rfl (.cons (k := 7) rfl .nil)) (.cons (k := 0) rfl (.cons (k := 1) rfl (.cons (k := 2) rfl (.cons (k := 3) rfl (.cons (k := 4) rfl (.cons (k := 104) rfl (.cons (k := 105) rfl (.cons (k := 106) rfl (.cons (k := 110) rfl .nil))))))))) ?_
      refine W.ret ?_
      refine N.block_ret ?_
      refine N.then_ret ?_
      exact N.retBy [1, 2, 3, 4] (.cons (by first | exact .cell (c := 106) rfl rfl (fun w hs => run_loadVarA Try.underlying30 rfl sz30 rfl (fun j u hj => by rw [Nat.zero_add, PH.sub.cell hs (by first | exact single_self _ _ | exact pset_self _ _ _ | assumption)]; exact hj))) (.cons (.tmp rfl) .nil)) rfl rfl rfl rfl (by first | exact ⟨es', ck', m', Hn, pn, cn, by rw [hst]; rfl, hM', by rw [hst]; exact hR', by rw [hst]; exact hSn, rfl⟩ | exact ⟨es', ck', m', Hn, pn, cn, by rw [hst]; simp [resOf], hM', by rw [hst]; exact hR', by rw [hst]; exact hSn, rfl⟩ | exact ⟨es, ck, m, H2, p, c, by rw [hst]; rfl, hM, by rw [hst]; exact hR, by rw [hst]; exact hS, rfl⟩)
    ·
      refine W.seq ?_
      refine W.region ?_
      refine RL.q (Yld.bin rfl rfl BinV.eql) rfl ?_
      refine RL.q (Yld.assign rfl) rfl ?_
      refine RL.nil ?_
      refine N.next ?_
      refine W.keep (.cons (k := 0) rfl (.cons (k := 4) rfl (.cons (k := 5) rfl (.cons (k := 6) rfl (.cons (k := 54) rfl .nil))))) (.cons (k := 0) rfl (.cons (k := 1) rfl (.cons (k := 2) rfl (.cons (k := 3) rfl (.cons (k := 4) rfl (.cons (k := 104) rfl (.cons (k := 105) rfl (.cons (k := 106) rfl .nil)))))))) ?_
      first | refine W.condD rfl (fun hc54 => ?_) (fun hc54 => ?_) | (refine W.cond rfl (fun hc54 => ?_) (fun hc54 => ?_) <;> try simp only [Bool.or_eq_true, Bool.and_eq_true, Bool.not_eq_true', Bool.not_eq_false', decide_eq_true_eq, Bool.or_eq_false_iff, Bool.and_eq_false_iff, decide_eq_false_iff_not, beq_iff_eq, beq_eq_false_iff_ne, ne_eq, Decidable.not_not] at hc54)
      ·
        have hst : (stp kd a b l ms) = chg 1 a ms l := by unfold stp; rw [if_neg hc14, if_neg hc34, if_pos hc54]
        refine W.seq ?_
        refine W.region ?_
        refine RL.q (Yld.move rfl) rfl ?_
        refine RL.q (Yld.fieldAddr fo36_1 rfl) rfl ?_
        refine RL.q (Yld.load1 (c := 105) Try.underlying3 rfl rfl rfl (by first | exact single_self _ _ | exact pset_self _ _ _ | assumption) rfl) rfl ?_
        refine RL.q (Yld.fieldAddr fo36_3 rfl) rfl ?_
        refine RL.q (Yld.load1 (c := 105) Try.underlying22 rfl rfl rfl (by first | exact single_self _ _ | exact pset_self _ _ _ | assumption) rfl) rfl ?_
        refine RL.e (Eff.call ent32 [1, 2, 4] [1, 2, 4] (.cons rfl (.cons rfl (.cons rfl .nil))) (members_ct bp bm es ck m ms hM hR hK a ha l _ _ _ hl) rfl rfl rfl rfl (by rintro _ _ ⟨_, _, _, _, _, _, rfl⟩; rfl)) rfl ?_
        rintro _ _ ⟨_, ⟨rfl, es', ck', m', hM', hR', rfl⟩, rfl⟩
        refine RL.nil ?_
        refine N.next ?_
        refine W.keep (.cons (k := 4) rfl (.cons (k := 5) rfl (.cons (k := 6) rfl .nil))) (.cons (k := 0) rfl (.cons (k := 1) rfl (.cons (k := 2) rfl (.cons (k := 3) rfl (.cons (k := 4) rfl (.cons (k := 104) rfl (.cons (k := 105) rfl (.cons (k := 106) rfl .nil)))))))) ?_
        refine W.seq ?_
        refine W.region ?_
        refine RL.q (Yld.loadW (c := 104) Try.underlying30 rfl sz30 rfl rfl (by first | exact single_self _ _ | exact pset_self _ _ _ | assumption) rfl) rfl ?_
        refine RL.q (Yld.fieldAddr fo36_1 rfl) rfl ?_
        refine RL.q (Yld.load1 (c := 105) Try.underlying3 rfl rfl rfl (by first | exact single_self _ _ | exact pset_self _ _ _ | assumption) rfl) rfl ?_
        refine RL.q (Yld.fieldAddr fo36_3 rfl) rfl ?_
        refine RL.q (Yld.load1 (c := 105) Try.underlying22 rfl rfl rfl (by first | exact single_self _ _ | exact pset_self _ _ _ | assumption) rfl) rfl ?_
        refine RL.e (Eff.call ent43 [3, 4] [3, 4] (.cons rfl (.cons rfl (.cons rfl .nil))) (rchange_ct ms _ _ _ hS a ha l _ _ _ hl (by omega)) rfl rfl rfl rfl (by rintro _ _ ⟨_, _, _, _, _, rfl⟩; rfl)) rfl ?_
        rintro _ _ ⟨_, ⟨Hn, pn, cn, rfl, hSn, rfl⟩, rfl⟩
        refine RL.e0 (Eff.storeS (c := 106) _ sz30 rfl rfl rfl rfl rfl rfl rfl (by (try simp only [putAt, List.take, List.drop, List.nil_append, List.cons_append, List.append_nil, List.length_cons, List.length_nil, Nat.add_zero, Nat.zero_add, Nat.reduceAdd]); rfl)) ?_
        rintro _ _ rfl
        refine RL.q (Yld.assign rfl) rfl ?_
        refine RL.nil ?_
        refine N.next ?_
        refine W.keep (.cons (k := 6) rfl (.cons (k := 7) rfl .nil)) (.cons (k := 0) rfl (.cons (k := 1) rfl (.cons (k := 2) rfl (.cons (k := 3) rfl (.cons (k := 4) rfl (.cons (k := 104) rfl (.cons (k := 105) rfl (.cons (k := 106) rfl .nil)))))))) ?_
        refine W.ret ?_
        refine N.block_ret ?_
        refine N.then_ret ?_
        exact N.retBy [1, 2, 3, 4] (.cons (by first | exact .cell (c := 106) rfl rfl (fun w hs => run_loadVarA Try.underlying30 rfl sz30 rfl (fun j u hj => by rw [Nat.zero_add, PH.sub.cell hs (by first | exact single_self _ _ | exact pset_self _ _ _ | assumption)]; exact hj))) (.cons (.tmp rfl) .nil)) rfl rfl rfl rfl (by first | exact ⟨es', ck', m', Hn, pn, cn, by rw [hst]; rfl, hM', by rw [hst]; exact hR', by rw [hst]; exact hSn, rfl⟩ | exact ⟨es', ck', m', Hn, pn, cn, by rw [hst]; simp [resOf], hM', by rw [hst]; exact hR', by rw [hst]; exact hSn, rfl⟩ | exact ⟨es, ck, m, H2, p, c, by rw [hst]; rfl, hM, by rw [hst]; exact hR, by rw [hst]; exact hS, rfl⟩)
      ·
        have hst : (stp kd a b l ms) = ms := by unfold stp; rw [if_neg hc14, if_neg hc34, if_neg hc54]
        refine W.skip ?_
        refine N.block_normal ?_
        refine N.next ?_
        refine W.seq ?_
        refine W.region ?_
        refine RL.q (Yld.loadW (c := 104) Try.underlying30 rfl sz30 rfl rfl (by first | exact single_self _ _ | exact pset_self _ _ _ | assumption) rfl) rfl ?_
        refine RL.e0 (Eff.storeS (c := 106) _ sz30 rfl rfl rfl rfl rfl rfl rfl (by (try simp only [putAt, List.take, List.drop, List.nil_append, List.cons_append, List.append_nil, List.length_cons, List.length_nil, Nat.add_zero, Nat.zero_add, Nat.reduceAdd]); rfl)) ?_
        rintro _ _ rfl
        refine RL.q (Yld.assign rfl) rfl ?_
        refine RL.nil ?_
        refine N.next ?_
        refine W.keep (.cons (k := 6) rfl (.cons (k := 7) rfl .nil)) (.cons (k := 0) rfl (.cons (k := 1) rfl (.cons (k := 2) rfl (.cons (k := 3) rfl (.cons (k := 4) rfl (.cons (k := 104) rfl (.cons (k := 105) rfl (.cons (k := 106) rfl .nil)))))))) ?_
        refine W.ret ?_
        exact N.retBy [1, 2, 3, 4] (.cons (by first | exact .cell (c := 106) rfl rfl (fun w hs => run_loadVarA Try.underlying30 rfl sz30 rfl (fun j u hj => by rw [Nat.zero_add, PH.sub.cell hs (by first | exact single_self _ _ | exact pset_self _ _ _ | assumption)]; exact hj))) (.cons (.tmp rfl) .nil)) rfl rfl rfl rfl (by first | exact ⟨es', ck', m', Hn, pn, cn, by rw [hst]; rfl, hM', by rw [hst]; exact hR', by rw [hst]; exact hSn, rfl⟩ | exact ⟨es', ck', m', Hn, pn, cn, by rw [hst]; simp [resOf], hM', by rw [hst]; exact hR', by rw [hst]; exact hSn, rfl⟩ | exact ⟨es, ck, m, H2, p, c, by rw [hst]; rfl, hM, by rw [hst]; exact hR, by rw [hst]; exact hS, rfl⟩)

set_option maxRecDepth 100000 in
set_option maxHeartbeats 3200000 in
theorem run_ct (last : Int) (hlast : last ≤ 1099511627776) (ops : List OpS) (H1 : PH) (p : Option Addr) (c : Nat) (hS : Sl H1 p c 4 (ops.map OpS.cells)) (hL : ∀ o ∈ ops, Sl H1 o.p o.c 1 (iz o.l)) (hok : ∀ o ∈ ops, o.ok) : Ct Try.prog 17 [.int .i64 last, .slice p ops.length c] [H1] (fun v Hs => ∃ bp bm es ck m H' p' c', v = .tuple [.pointer (some ⟨bp, 0, none⟩), .agg [.int .i64 1, .slice p' (ops.foldl OpS.run (chg 1 last [] [2, 3, 4, 104])).length c'].toArray, .bool true].toArray ∧ MapP (fun a : Int => Value.int .i64 a) es ck m ∧ MR m (ops.foldl OpS.run (chg 1 last [] [2, 3, 4, 104])) ∧ Sl H' p' c' 3 ((ops.foldl OpS.run (chg 1 last [] [2, 3, 4, 104])).map Mb.c) ∧ Hs = [H1, single bp (.cells [.int .i64 1, .map (some bm)].toArray 90 (0, 0)), single bm (.map es ck), H']) := by
  refine Ct.body Try.func17 rfl Try.ntmps17 rfl ?_
  intro E F
  have hmx := hS.len_le
  simp only [List.length_map, maxLen] at hmx
  have hk0 : MOK (chg 1 last [] [2, 3, 4, 104]) := MOK.nil.chg hlast (by simp)
  refine W.seq ?_
  refine W.region ?_
  refine RL.q (Yld.assign rfl) rfl ?_
  refine RL.e (Eff.alloc 105 zc30) rfl ?_
  rintro _ _ ⟨b5, rfl, rfl⟩
  refine RL.q (Yld.assign rfl) rfl ?_
  refine RL.nil ?_
  refine N.next ?_
  refine W.seq ?_
  refine W.region ?_
  refine RL.q (Yld.move rfl) rfl ?_
  refine RL.e (Eff.buildSlice 113 Try.underlying22 sz3 zc3 rfl rfl (.cons rfl rfl (.cons rfl rfl (.cons rfl rfl (.cons rfl rfl .nil)))) rfl) rfl ?_
  rintro _ _ ⟨b13, rfl, rfl⟩
  refine RL.e (Eff.call ent11 [113] [113, 140, 141] (.cons rfl (.cons rfl (.cons rfl .nil))) (pnew_ct last hlast [2, 3, 4, 104] _ _ _ (iz_lit (b := b13) (l := [2, 3, 4, 104]) rfl rfl (by decide)).sl) rfl rfl rfl rfl (by rintro _ _ ⟨_, _, _, _, _, _, _, _, rfl⟩; rfl)) rfl ?_
  rintro _ _ ⟨_, ⟨bp, bm, es0, ck0, m0, rfl, hM0, hR0, rfl⟩, rfl⟩
  refine RL.q (Yld.move rfl) rfl ?_
  refine RL.e (Eff.buildSlice 116 Try.underlying22 sz3 zc3 rfl rfl (.cons rfl rfl (.cons rfl rfl (.cons rfl rfl (.cons rfl rfl .nil)))) rfl) rfl ?_
  rintro _ _ ⟨b16, rfl, rfl⟩
  refine RL.e (Eff.call ent12 [116] [142, 116] (.cons rfl (.cons rfl (.cons rfl .nil))) (rnew39_ct last hlast [2, 3, 4, 104] _ _ _ (iz_lit (b := b16) (l := [2, 3, 4, 104]) rfl rfl (by decide)).sl (by simp)) rfl rfl rfl rfl (by rintro _ _ ⟨_, _, _, _, _, rfl⟩; rfl)) rfl ?_
  rintro _ _ ⟨_, ⟨Hn, pn, cn, rfl, hSn, rfl⟩, rfl⟩
  refine RL.e (Eff.alloc 108 zc30) rfl ?_
  rintro _ _ ⟨b8, rfl, rfl⟩
  refine RL.q (Yld.assign rfl) rfl ?_
  refine RL.e0 (Eff.storeS (c := 108) _ sz30 rfl rfl rfl rfl rfl rfl rfl (by (try simp only [putAt, List.take, List.drop, List.nil_append, List.cons_append, List.append_nil, List.length_cons, List.length_nil, Nat.add_zero, Nat.zero_add, Nat.reduceAdd]); rfl)) ?_
  rintro _ _ rfl
  refine RL.nil ?_
  refine N.next ?_
  refine W.keep (.cons (k := 1) rfl (.cons (k := 5) rfl (.cons (k := 7) rfl (.cons (k := 8) rfl .nil)))) (.cons (k := 0) rfl (.cons (k := 1) rfl (.cons (k := 105) rfl (.cons (k := 108) rfl (.cons (k := 113) rfl (.cons (k := 116) rfl (.cons (k := 140) rfl (.cons (k := 141) rfl (.cons (k := 142) rfl .nil))))))))) ?_
  refine W.seq ?_
  refine W.seq ?_
  refine W.region ?_
  refine RL.q (Yld.move rfl) rfl ?_
  refine RL.q (Yld.lenSl Try.underlying23 rfl) rfl ?_
  refine RL.q (Yld.move rfl) rfl ?_
  refine RL.nil ?_
  refine N.next ?_
  refine W.block ?_
  refine W.loopK (ι := RI) (fun x => (x.i ≤ ops.length ∧ MapP (fun a : Int => Value.int .i64 a) x.es x.ck x.m ∧ MR x.m ((ops.take x.i).foldl OpS.run (chg 1 last [] [2, 3, 4, 104])) ∧ Sl x.H x.p x.c 3 (((ops.take x.i).foldl OpS.run (chg 1 last [] [2, 3, 4, 104])).map Mb.c))) (fun x => [(20, .int .i64 (x.i : Nat))]) (fun x => [(108, single b8 (.cells [.int .i64 1, .slice x.p ((ops.take x.i).foldl OpS.run (chg 1 last [] [2, 3, 4, 104])).length x.c].toArray 30 (0, 0))), (141, single bm (.map x.es x.ck)), (142, x.H)]) (fun x => ops.length - x.i) (.cons (k := 1) rfl (.cons (k := 5) rfl (.cons (k := 7) rfl (.cons (k := 8) rfl (.cons (k := 19) rfl .nil))))) (.cons (k := 0) rfl (.cons (k := 1) rfl (.cons (k := 105) rfl (.cons (k := 113) rfl (.cons (k := 116) rfl (.cons (k := 140) rfl .nil)))))) ⟨0, es0, ck0, m0, Hn, pn, cn⟩ ?_ ?_ ?_ ?_
  · exact ⟨Nat.zero_le _, hM0, hR0, hSn⟩
  · exact (.as rfl (by first | rfl | (simp; done) | (congr 1; simp; done) | (congr 1; omega)) .nil)
  · exact (.cons rfl (.cons rfl (.cons rfl .nil)))
  rintro x ⟨hi, hMx, hRx, hSx⟩
  refine W.keep (.cons (k := 20) rfl (.cons (k := 1) rfl (.cons (k := 5) rfl (.cons (k := 7) rfl (.cons (k := 8) rfl (.cons (k := 19) rfl .nil)))))) (.cons (k := 108) rfl (.cons (k := 141) rfl (.cons (k := 142) rfl (.cons (k := 0) rfl (.cons (k := 1) rfl (.cons (k := 105) rfl (.cons (k := 113) rfl (.cons (k := 116) rfl (.cons (k := 140) rfl .nil))))))))) ?_
  refine W.seq ?_
  refine W.region ?_
  refine RL.q (Yld.bin rfl rfl BinV.lss) rfl ?_
  refine RL.nil ?_
  refine N.next ?_
  refine W.seq ?_
  first | refine W.condD rfl (fun hc21 => ?_) (fun hc21 => ?_) | (refine W.cond rfl (fun hc21 => ?_) (fun hc21 => ?_) <;> try simp only [Bool.or_eq_true, Bool.and_eq_true, Bool.not_eq_true', Bool.not_eq_false', decide_eq_true_eq, Bool.or_eq_false_iff, Bool.and_eq_false_iff, decide_eq_false_iff_not, beq_iff_eq, beq_eq_false_iff_ne, ne_eq, Decidable.not_not] at hc21)
  ·
    obtain ⟨o, ho⟩ : ∃ o, ops[x.i]? = some o := ⟨_, List.getElem?_eq_getElem (show x.i < ops.length by omega)⟩
    have hlo : (ops.map OpS.cells)[x.i]? = some [.int .i64 o.kd, .int .i64 o.a, .int .i64 o.b, .slice o.p o.l.length o.c] := by simp [ho, OpS.cells]
    have hlo2 := hL o (List.mem_of_getElem? ho)
    have hlo3 := hlo2.len_le
    simp only [iz_len, maxLen] at hlo3
    have hoo := hok o (List.mem_of_getElem? ho)
    have hKx := runs_ok (ops := ops.take x.i) (fun o h => hok o (List.mem_of_mem_take h)) hk0
    refine W.skip ?_
    refine N.next ?_
    refine W.seq ?_
    refine W.block ?_
    refine W.seq ?_
    refine W.region ?_
    refine RL.q (Yld.move rfl) rfl ?_
    refine RL.q (Yld.assign rfl) rfl ?_
    refine RL.nil ?_
    refine N.next ?_
    refine W.seq ?_
    refine W.draw (.q 0 (.q 1 (.q 2 (.q 3 (.q 4 (.q 5 (.two 6 (.q 7 (.q 8 (.q 9 (.one 10 (.one 11 (.q 12 .done)))))) 10 (.one 6 (.q 7 (.q 8 (.q 9 (.one 11 (.q 12 .done))))))))))))) (.cons (k := 0) rfl (.cons (k := 1) rfl (.cons (k := 105) rfl (.cons (k := 108) rfl (.cons (k := 113) rfl (.cons (k := 116) rfl (.cons (k := 140) rfl .nil))))))) mix (by kernel_rfl) (by kernel_rfl) ?_
    refine DL.q rfl (Yld.move rfl) rfl ?_
    refine DL.q rfl (Yld.loadW (c := 108) Try.underlying30 rfl sz30 rfl rfl (by first | exact single_self _ _ | exact pset_self _ _ _ | assumption) rfl) rfl ?_
    refine DL.q rfl (Yld.move rfl) rfl ?_
    refine DL.q rfl (Yld.move rfl) rfl ?_
    refine DL.q rfl (Yld.indexRow Try.underlying23 sz36 rfl rfl (by first | assumption | exact Own.sl (by assumption)) (by first | rfl | omega | (simp; done) | (simp; omega)) (by omega) (by first | omega | (simp; done) | (simp; omega))) rfl ?_
    refine DL.q rfl (by first | exact Yld.loadRow (cl := 1) Try.underlying36 rfl sz36 rfl rfl (by first | assumption | exact Own.sl (by assumption)) (by assumption) | exact Yld.loadRow (cl := 105) Try.underlying36 rfl sz36 rfl rfl (by first | assumption | exact Own.sl (by assumption)) (by assumption) | exact Yld.loadRow (cl := 113) Try.underlying36 rfl sz36 rfl rfl (by first | assumption | exact Own.sl (by assumption)) (by assumption) | exact Yld.loadRow (cl := 116) Try.underlying36 rfl sz36 rfl rfl (by first | assumption | exact Own.sl (by assumption)) (by assumption) | exact Yld.loadRow (cl := 140) Try.underlying36 rfl sz36 rfl rfl (by first | assumption | exact Own.sl (by assumption)) (by assumption) | exact Yld.loadRow (cl := 108) Try.underlying36 rfl sz36 rfl rfl (by first | assumption | exact Own.sl (by assumption)) (by assumption) | exact Yld.loadRow (cl := 141) Try.underlying36 rfl sz36 rfl rfl (by first | assumption | exact Own.sl (by assumption)) (by assumption) | exact Yld.loadRow (cl := 142) Try.underlying36 rfl sz36 rfl rfl (by first | assumption | exact Own.sl (by assumption)) (by assumption)) rfl ?_
    refine DL.two ?_ ?_
    ·
      refine DL.one rfl (Eff.call ent14 [140, 141, 142, 1] [140, 141, 142, 1] (.cons rfl (.cons rfl (.cons rfl .nil))) (step_ct bp bm x.es x.ck x.m ((ops.take x.i).foldl OpS.run (chg 1 last [] [2, 3, 4, 104])) hMx hRx hKx _ _ _ hSx o.kd o.a o.b hoo.2.1 hoo.2.2.1 hoo.2.2.2 o.l _ _ _ hlo2 hoo.1) rfl rfl rfl rfl (by rintro _ _ ⟨_, _, _, _, _, _, _, _, _, _, rfl⟩; rfl)) rfl (by rintro _ _ ⟨_, ⟨es', ck', m', H', p', c', rfl, hM', hR', hS', rfl⟩, rfl⟩; repeat (first | exact .nil | refine .cons rfl ?_)) ?_
      rintro _ _ ⟨_, ⟨es', ck', m', H', p', c', rfl, hM', hR', hS', rfl⟩, rfl⟩
      refine DL.q rfl (Yld.move rfl) rfl ?_
      refine DL.q rfl (Yld.extract rfl rfl) rfl ?_
      refine DL.q rfl (Yld.extract rfl rfl) rfl ?_
      refine DL.one rfl (Eff.alloc 110 zc30) rfl (by rintro _ _ ⟨b10, rfl, rfl⟩; repeat (first | exact .nil | refine .cons rfl ?_)) ?_
      rintro _ _ ⟨b10, rfl, rfl⟩
      refine DL.one0 rfl (Eff.storeS (c := 110) _ sz30 rfl rfl rfl rfl rfl rfl rfl (by (try simp only [putAt, List.take, List.drop, List.nil_append, List.cons_append, List.append_nil, List.length_cons, List.length_nil, Nat.add_zero, Nat.zero_add, Nat.reduceAdd]); rfl)) (by rintro _ _ rfl; repeat (first | exact .nil | refine .cons rfl ?_)) ?_
      rintro _ _ rfl
      refine DL.q rfl (Yld.assign rfl) rfl ?_
      refine DL.done ?_
      refine N.next ?_
      refine W.keep (.cons (k := 1) rfl (.cons (k := 5) rfl (.cons (k := 7) rfl (.cons (k := 8) rfl (.cons (k := 10) rfl (.cons (k := 11) rfl (.cons (k := 19) rfl (.cons (k := 20) rfl .nil)))))))) (.cons (k := 0) rfl (.cons (k := 1) rfl (.cons (k := 105) rfl (.cons (k := 108) rfl (.cons (k := 110) rfl (.cons (k := 113) rfl (.cons (k := 116) rfl (.cons (k := 140) rfl (.cons (k := 141) rfl (.cons (k := 142) rfl .nil)))))))))) ?_
      refine W.seq ?_
      refine W.region ?_
      refine RL.q (Yld.loadW (c := 110) Try.underlying30 rfl sz30 rfl rfl (by first | exact single_self _ _ | exact pset_self _ _ _ | assumption) rfl) rfl ?_
      refine RL.e0 (Eff.storeS (c := 108) _ sz30 rfl rfl rfl rfl rfl rfl rfl (by (try simp only [putAt, List.take, List.drop, List.nil_append, List.cons_append, List.append_nil, List.length_cons, List.length_nil, Nat.add_zero, Nat.zero_add, Nat.reduceAdd]); rfl)) ?_
      rintro _ _ rfl
      refine RL.nil ?_
      refine N.next ?_
      refine W.seq ?_
      refine W.region ?_
      refine RL.q (Yld.move rfl) rfl ?_
      refine RL.q (by first | exact Yld.notD rfl | exact Yld.not rfl) rfl ?_
      refine RL.nil ?_
      refine N.next ?_
      refine W.keep (.cons (k := 1) rfl (.cons (k := 5) rfl (.cons (k := 7) rfl (.cons (k := 8) rfl (.cons (k := 19) rfl (.cons (k := 20) rfl (.cons (k := 35) rfl .nil))))))) (.cons (k := 0) rfl (.cons (k := 1) rfl (.cons (k := 105) rfl (.cons (k := 108) rfl (.cons (k := 110) rfl (.cons (k := 113) rfl (.cons (k := 116) rfl (.cons (k := 140) rfl (.cons (k := 141) rfl (.cons (k := 142) rfl .nil)))))))))) ?_
      first | (refine W.as (t := 35) rfl (boolF (by first | assumption | omega | (simp; done))) ?_; refine W.condF rfl ?_) | refine W.condF rfl ?_
      refine W.skip ?_
      refine N.block_normal ?_
      refine N.next ?_
      refine W.region ?_
      refine RL.q (Yld.bin rfl rfl (by first | exact BinV.add (by omega) (by omega) | exact BinV.addW)) rfl ?_
      refine RL.q (Yld.move rfl) rfl ?_
      refine RL.nil ?_
      exact N.famK ⟨x.i + 1, es', ck', m', H', p', c'⟩ ⟨⟨by dsimp only; omega, hM', by dsimp only; rw [foldl_take ho]; exact hR', by dsimp only; rw [foldl_take ho]; exact hS'⟩, by dsimp only; omega⟩ (.as rfl (by first | rfl | (simp; done) | (congr 1; simp; done) | (congr 1; omega)) .nil) (.cons rfl (.cons rfl (.cons rfl (.cons rfl (.cons rfl .nil))))) (.as rfl (by rw [foldl_take ho]; rfl) (.cons rfl (.cons rfl .nil))) (.cons rfl (.cons rfl (.cons rfl (.cons rfl (.cons rfl (.cons rfl .nil))))))
    ·
      refine DL.one rfl (Eff.alloc 110 zc30) rfl (by rintro _ _ ⟨b10, rfl, rfl⟩; repeat (first | exact .nil | refine .cons rfl ?_)) ?_
      rintro _ _ ⟨b10, rfl, rfl⟩
      refine DL.one rfl (Eff.call ent14 [140, 141, 142, 1] [140, 141, 142, 1] (.cons rfl (.cons rfl (.cons rfl .nil))) (step_ct bp bm x.es x.ck x.m ((ops.take x.i).foldl OpS.run (chg 1 last [] [2, 3, 4, 104])) hMx hRx hKx _ _ _ hSx o.kd o.a o.b hoo.2.1 hoo.2.2.1 hoo.2.2.2 o.l _ _ _ hlo2 hoo.1) rfl rfl rfl rfl (by rintro _ _ ⟨_, _, _, _, _, _, _, _, _, _, rfl⟩; rfl)) rfl (by rintro _ _ ⟨_, ⟨es', ck', m', H', p', c', rfl, hM', hR', hS', rfl⟩, rfl⟩; repeat (first | exact .nil | refine .cons rfl ?_)) ?_
      rintro _ _ ⟨_, ⟨es', ck', m', H', p', c', rfl, hM', hR', hS', rfl⟩, rfl⟩
      refine DL.q rfl (Yld.move rfl) rfl ?_
      refine DL.q rfl (Yld.extract rfl rfl) rfl ?_
      refine DL.q rfl (Yld.extract rfl rfl) rfl ?_
      refine DL.one0 rfl (Eff.storeS (c := 110) _ sz30 rfl rfl rfl rfl rfl rfl rfl (by (try simp only [putAt, List.take, List.drop, List.nil_append, List.cons_append, List.append_nil, List.length_cons, List.length_nil, Nat.add_zero, Nat.zero_add, Nat.reduceAdd]); rfl)) (by rintro _ _ rfl; repeat (first | exact .nil | refine .cons rfl ?_)) ?_
      rintro _ _ rfl
      refine DL.q rfl (Yld.assign rfl) rfl ?_
      refine DL.done ?_
      refine N.next ?_
      refine W.keep (.cons (k := 1) rfl (.cons (k := 5) rfl (.cons (k := 7) rfl (.cons (k := 8) rfl (.cons (k := 10) rfl (.cons (k := 11) rfl (.cons (k := 19) rfl (.cons (k := 20) rfl .nil)))))))) (.cons (k := 0) rfl (.cons (k := 1) rfl (.cons (k := 105) rfl (.cons (k := 108) rfl (.cons (k := 110) rfl (.cons (k := 113) rfl (.cons (k := 116) rfl (.cons (k := 140) rfl (.cons (k := 141) rfl (.cons (k := 142) rfl .nil)))))))))) ?_
      refine W.seq ?_
      refine W.region ?_
      refine RL.q (Yld.loadW (c := 110) Try.underlying30 rfl sz30 rfl rfl (by first | exact single_self _ _ | exact pset_self _ _ _ | assumption) rfl) rfl ?_
      refine RL.e0 (Eff.storeS (c := 108) _ sz30 rfl rfl rfl rfl rfl rfl rfl (by (try simp only [putAt, List.take, List.drop, List.nil_append, List.cons_append, List.append_nil, List.length_cons, List.length_nil, Nat.add_zero, Nat.zero_add, Nat.reduceAdd]); rfl)) ?_
      rintro _ _ rfl
      refine RL.nil ?_
      refine N.next ?_
      refine W.seq ?_
      refine W.region ?_
      refine RL.q (Yld.move rfl) rfl ?_
      refine RL.q (by first | exact Yld.notD rfl | exact Yld.not rfl) rfl ?_
      refine RL.nil ?_
      refine N.next ?_
      refine W.keep (.cons (k := 1) rfl (.cons (k := 5) rfl (.cons (k := 7) rfl (.cons (k := 8) rfl (.cons (k := 19) rfl (.cons (k := 20) rfl (.cons (k := 35) rfl .nil))))))) (.cons (k := 0) rfl (.cons (k := 1) rfl (.cons (k := 105) rfl (.cons (k := 108) rfl (.cons (k := 110) rfl (.cons (k := 113) rfl (.cons (k := 116) rfl (.cons (k := 140) rfl (.cons (k := 141) rfl (.cons (k := 142) rfl .nil)))))))))) ?_
      first | (refine W.as (t := 35) rfl (boolF (by first | assumption | omega | (simp; done))) ?_; refine W.condF rfl ?_) | refine W.condF rfl ?_
      refine W.skip ?_
      refine N.block_normal ?_
      refine N.next ?_
      refine W.region ?_
      refine RL.q (Yld.bin rfl rfl (by first | exact BinV.add (by omega) (by omega) | exact BinV.addW)) rfl ?_
      refine RL.q (Yld.move rfl) rfl ?_
      refine RL.nil ?_
      exact N.famK ⟨x.i + 1, es', ck', m', H', p', c'⟩ ⟨⟨by dsimp only; omega, hM', by dsimp only; rw [foldl_take ho]; exact hR', by dsimp only; rw [foldl_take ho]; exact hS'⟩, by dsimp only; omega⟩ (.as rfl (by first | rfl | (simp; done) | (congr 1; simp; done) | (congr 1; omega)) .nil) (.cons rfl (.cons rfl (.cons rfl (.cons rfl (.cons rfl .nil))))) (.as rfl (by rw [foldl_take ho]; rfl) (.cons rfl (.cons rfl .nil))) (.cons rfl (.cons rfl (.cons rfl (.cons rfl (.cons rfl (.cons rfl .nil))))))
  ·
    have hend : x.i = ops.length := by omega
    have hKx := runs_ok (ops := ops.take x.i) (fun o h => hok o (List.mem_of_mem_take h)) hk0
    refine W.exit ?_
    refine N.then_exit ?_
    refine N.then_exit ?_
    refine N.block_eq ?_
    refine N.next ?_
    refine W.keep (.cons (k := 5) rfl (.cons (k := 7) rfl (.cons (k := 8) rfl .nil))) (.cons (k := 0) rfl (.cons (k := 1) rfl (.cons (k := 105) rfl (.cons (k := 108) rfl (.cons (k := 113) rfl (.cons (k := 116) rfl (.cons (k := 140) rfl (.cons (k := 141) rfl (.cons (k := 142) rfl .nil))))))))) ?_
    refine W.seq ?_
    refine W.draw (.q 0 (.q 1 (.q 2 (.q 3 (.one 4 (.q 5 (.one 6 (.q 7 .done)))))))) (.cons (k := 0) rfl (.cons (k := 1) rfl (.cons (k := 108) rfl (.cons (k := 113) rfl (.cons (k := 116) rfl .nil))))) mix (by kernel_rfl) (by kernel_rfl) ?_
    refine DL.q rfl (Yld.move rfl) rfl ?_
    refine DL.q rfl (Yld.loadW (c := 108) Try.underlying30 rfl sz30 rfl rfl (by first | exact single_self _ _ | exact pset_self _ _ _ | assumption) rfl) rfl ?_
    refine DL.q rfl (Yld.move rfl) rfl ?_
    refine DL.q rfl (Yld.loadW (c := 108) Try.underlying30 rfl sz30 rfl rfl (by first | exact single_self _ _ | exact pset_self _ _ _ | assumption) rfl) rfl ?_
    refine DL.one rfl (Eff.call ent13 [140, 141, 142] [140, 141, 142] (.cons rfl (.cons rfl .nil)) (same_ct bp bm x.es x.ck x.m ((ops.take x.i).foldl OpS.run (chg 1 last [] [2, 3, 4, 104])) hMx hRx hKx _ _ _ hSx) rfl rfl rfl rfl (by rintro _ _ ⟨_, rfl⟩; rfl)) rfl (by rintro _ _ ⟨_, ⟨rfl, rfl⟩, rfl⟩; repeat (first | exact .nil | refine .cons rfl ?_)) ?_
    rintro _ _ ⟨_, ⟨rfl, rfl⟩, rfl⟩
    refine DL.q rfl (Yld.assign rfl) rfl ?_
    refine DL.one0 rfl (Eff.storeS (c := 105) _ sz30 rfl rfl rfl rfl rfl rfl rfl (by (try simp only [putAt, List.take, List.drop, List.nil_append, List.cons_append, List.append_nil, List.length_cons, List.length_nil, Nat.add_zero, Nat.zero_add, Nat.reduceAdd]); rfl)) (by rintro _ _ rfl; repeat (first | exact .nil | refine .cons rfl ?_)) ?_
    rintro _ _ rfl
    refine DL.q rfl (Yld.assign rfl) rfl ?_
    refine DL.done ?_
    refine N.next ?_
    refine W.keep (.cons (k := 4) rfl (.cons (k := 5) rfl (.cons (k := 6) rfl .nil))) (.cons (k := 0) rfl (.cons (k := 1) rfl (.cons (k := 105) rfl (.cons (k := 108) rfl (.cons (k := 113) rfl (.cons (k := 116) rfl (.cons (k := 140) rfl (.cons (k := 141) rfl (.cons (k := 142) rfl .nil))))))))) ?_
    refine W.ret ?_
    exact N.retBy [1, 140, 141, 142] (.cons (.tmp rfl) (.cons (by first | exact .cell (c := 105) rfl rfl (fun w hs => run_loadVarA Try.underlying30 rfl sz30 rfl (fun j u hj => by rw [Nat.zero_add, PH.sub.cell hs (by first | exact single_self _ _ | exact pset_self _ _ _ | assumption)]; exact hj))) (.cons (.tmp rfl) .nil))) rfl rfl rfl rfl ⟨bp, bm, x.es, x.ck, x.m, x.H, x.p, x.c, by rw [hend, List.take_length]; rfl, hMx, by rw [hend, List.take_length] at hRx; exact hRx, by rw [hend, List.take_length] at hSx; exact hSx, rfl⟩

end Go.Proofs.Ytdkefpnebmmhlaa
