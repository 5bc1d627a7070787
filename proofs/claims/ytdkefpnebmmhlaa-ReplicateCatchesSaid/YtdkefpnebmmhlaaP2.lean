/- Contracts of package replicate and its reference: progress. Written by program (walk2.py). -/
import Derived.Test.YtdkefpnebmmhlaaP1
namespace Go.Proofs.Ytdkefpnebmmhlaa
open SL Cfg Rep
set_option linter.unusedVariables false
set_option linter.unusedSimpArgs false
theorem fo30_1 : fieldOff Try.prog 30 1 = some 1 := by kernel_rfl
theorem sz94 : sz Try.prog 94 3 := (by kernel_rfl : (Try.prog.info? 94).map (·.size) = some 3)
theorem fo94_0 : fieldOff Try.prog 94 0 = some 0 := by kernel_rfl
theorem sz30 : sz Try.prog 30 2 := (by kernel_rfl : (Try.prog.info? 30).map (·.size) = some 2)
theorem ent74 : Ent Try.prog 74 := ⟨_, _, Try.func74, by kernel_rfl, rfl⟩
theorem fo94_1 : fieldOff Try.prog 94 1 = some 1 := by kernel_rfl
theorem fo94_2 : fieldOff Try.prog 94 2 = some 2 := by kernel_rfl
theorem zc30 : zc Try.prog 30 [.int .i64 0, .slice none 0 0] := (by kernel_rfl : ((Try.prog.info? 30).bind (·.zero)).map (fun v => v.cells.toList) = some [.int .i64 0, .slice none 0 0])
theorem zc94 : zc Try.prog 94 [.int .i64 0, .int .i64 0, .int .i64 0] := (by kernel_rfl : ((Try.prog.info? 94).bind (·.zero)).map (fun v => v.cells.toList) = some [.int .i64 0, .int .i64 0, .int .i64 0])
theorem el94 : el Try.prog 94 3 24 := .mk (by kernel_rfl)
theorem sz28 : sz Try.prog 28 1 := (by kernel_rfl : (Try.prog.info? 28).map (·.size) = some 1)
theorem ent44 : Ent Try.prog 44 := ⟨_, _, Try.func44, by kernel_rfl, rfl⟩
theorem ent75 : Ent Try.prog 75 := ⟨_, _, Try.func75, by kernel_rfl, rfl⟩
theorem fo30_0 : fieldOff Try.prog 30 0 = some 0 := by kernel_rfl
theorem lay30 : layS Try.prog 30 = some ([.int .i64 0, .slice none 0 0], [(0, 1), (1, 1)]) := by kernel_rfl
theorem lay94 : layS Try.prog 94 = some ([.int .i64 0, .int .i64 0, .int .i64 0], [(0, 1), (1, 1), (2, 1)]) := by kernel_rfl
theorem ent43 : Ent Try.prog 43 := ⟨_, _, Try.func43, by kernel_rfl, rfl⟩
theorem lay90 : layS Try.prog 90 = some ([.int .i64 0, .map none], [(0, 1), (1, 1)]) := by kernel_rfl
theorem ent32 : Ent Try.prog 32 := ⟨_, _, Try.func32, by kernel_rfl, rfl⟩
def Rep.FindS (ms : List Mb) (k r : Int) : Prop := (r = -1 ∧ fnd ms k = none) ∨ ∃ (i : Nat) (x : Mb), r = i ∧ ms[i]? = some x ∧ fnd ms k = some x

set_option maxRecDepth 100000 in
set_option maxHeartbeats 400000 in
theorem rfind_ct (ms : List Mb) (H1 : PH) (p : Option Addr) (c : Nat) (hS : Sl H1 p c 3 (ms.map Mb.c)) (k : Int) : Ct Try.prog 74 [.agg [.int .i64 1, .slice p ms.length c].toArray, .int .i64 k] [H1] (fun v Hs => (∃ r : Int, v = .int .i64 r ∧ FindS ms k r) ∧ Hs = [H1]) := by
  refine Ct.body Try.func74 rfl Try.ntmps74 rfl ?_
  intro E F
  have hmx := hS.len_le
  simp only [List.length_map, maxLen] at hmx
  refine W.seq ?_
  refine W.region ?_
  refine RL.e (Eff.box 102 _ rfl rfl) rfl ?_
  rintro _ _ ⟨b2, rfl, rfl⟩
  refine RL.q (Yld.assign rfl) rfl ?_
  refine RL.nil ?_
  refine N.next ?_
  refine W.seq ?_
  refine W.seq ?_
  refine W.region ?_
  refine RL.q (Yld.assign rfl) rfl ?_
  refine RL.nil ?_
  refine N.next ?_
  refine W.block ?_
  refine W.loopK (ι := Nat) (fun j => (j ≤ ms.length ∧ ∀ (i : Nat) y, i < j → ms[i]? = some y → y.r ≠ k)) (fun j => [(5, .int .i64 (j : Nat))]) (fun j => []) (fun j => ms.length - j) (.cons (k := 1) rfl (.cons (k := 2) rfl .nil)) (.cons (k := 0) rfl (.cons (k := 1) rfl (.cons (k := 102) rfl .nil))) 0 ?_ ?_ ?_ ?_
  · exact ⟨Nat.zero_le _, fun _ _ h => absurd h (Nat.not_lt_zero _)⟩
  · exact (.as rfl (by first | rfl | (simp; done) | (congr 1; simp; done) | (congr 1; omega)) .nil)
  · exact .nil
  rintro j ⟨hj, hI⟩
  refine W.keep (.cons (k := 5) rfl (.cons (k := 1) rfl (.cons (k := 2) rfl .nil))) (.cons (k := 0) rfl (.cons (k := 1) rfl (.cons (k := 102) rfl .nil))) ?_
  refine W.seq ?_
  refine W.seq ?_
  refine W.region ?_
  refine RL.q (Yld.move rfl) rfl ?_
  refine RL.q (Yld.fieldAddr fo30_1 rfl) rfl ?_
  refine RL.q (Yld.load1 (c := 102) Try.underlying28 rfl rfl rfl (by first | exact single_self _ _ | exact pset_self _ _ _ | assumption) rfl) rfl ?_
  refine RL.q (Yld.lenSl Try.underlying28 rfl) rfl ?_
  refine RL.q (Yld.bin rfl rfl BinV.lss) rfl ?_
  refine RL.nil ?_
  refine N.next ?_
  refine W.keep (.cons (k := 1) rfl (.cons (k := 2) rfl (.cons (k := 5) rfl (.cons (k := 10) rfl .nil)))) (.cons (k := 0) rfl (.cons (k := 1) rfl (.cons (k := 102) rfl .nil))) ?_
  first | refine W.condD rfl (fun hc10 => ?_) (fun hc10 => ?_) | (refine W.cond rfl (fun hc10 => ?_) (fun hc10 => ?_) <;> try simp only [Bool.or_eq_true, Bool.and_eq_true, Bool.not_eq_true', Bool.not_eq_false', decide_eq_true_eq, Bool.or_eq_false_iff, Bool.and_eq_false_iff, decide_eq_false_iff_not, beq_iff_eq, beq_eq_false_iff_ne, ne_eq, Decidable.not_not] at hc10)
  ·
    obtain ⟨x, hx⟩ : ∃ x, ms[j]? = some x := ⟨_, List.getElem?_eq_getElem (show j < ms.length by omega)⟩
    have hlx : (ms.map Mb.c)[j]? = some [.int .i64 x.r, .int .i64 x.nx, .int .i64 x.mt] := by simp [hx, Mb.c]
    refine W.skip ?_
    refine N.next ?_
    refine W.seq ?_
    refine W.block ?_
    refine W.seq ?_
    refine W.region ?_
    refine RL.q (Yld.fieldAddr fo30_1 rfl) rfl ?_
    refine RL.q (Yld.load1 (c := 102) Try.underlying28 rfl rfl rfl (by first | exact single_self _ _ | exact pset_self _ _ _ | assumption) rfl) rfl ?_
    refine RL.q (Yld.move rfl) rfl ?_
    refine RL.q (Yld.indexRow Try.underlying28 sz94 rfl rfl (by first | assumption | exact Own.sl (by assumption)) (by first | rfl | omega | (simp; done) | (simp; omega)) (by omega) (by first | omega | (simp; done) | (simp; omega))) rfl ?_
    refine RL.q (Yld.fieldAddr fo94_0 rfl) rfl ?_
    refine RL.q (by first | exact (by first | exact Yld.loadRow1 (cl := 1) Try.underlying3 rfl rfl rfl (by first | assumption | exact Own.sl (by assumption)) (by assumption) | exact Yld.loadRow1 (cl := 102) Try.underlying3 rfl rfl rfl (by first | assumption | exact Own.sl (by assumption)) (by assumption)) | exact (by first | exact Yld.loadRowF (cl := 1) (j := 0) Try.underlying3 rfl rfl rfl (by first | assumption | exact Own.sl (by assumption)) (by assumption) rfl | exact Yld.loadRowF (cl := 102) (j := 0) Try.underlying3 rfl rfl rfl (by first | assumption | exact Own.sl (by assumption)) (by assumption) rfl)) rfl ?_
    refine RL.q (Yld.move rfl) rfl ?_
    refine RL.q (Yld.bin rfl rfl BinV.eql) rfl ?_
    refine RL.nil ?_
    refine N.next ?_
    refine W.keep (.cons (k := 1) rfl (.cons (k := 2) rfl (.cons (k := 5) rfl (.cons (k := 20) rfl .nil)))) (.cons (k := 0) rfl (.cons (k := 1) rfl (.cons (k := 102) rfl .nil))) ?_
    first | refine W.condD rfl (fun hc20 => ?_) (fun hc20 => ?_) | (refine W.cond rfl (fun hc20 => ?_) (fun hc20 => ?_) <;> try simp only [Bool.or_eq_true, Bool.and_eq_true, Bool.not_eq_true', Bool.not_eq_false', decide_eq_true_eq, Bool.or_eq_false_iff, Bool.and_eq_false_iff, decide_eq_false_iff_not, beq_iff_eq, beq_eq_false_iff_ne, ne_eq, Decidable.not_not] at hc20)
    ·
      refine W.seq ?_
      refine W.region ?_
      refine RL.q (Yld.move rfl) rfl ?_
      refine RL.q (Yld.assign rfl) rfl ?_
      refine RL.nil ?_
      refine N.next ?_
      refine W.keep (.cons (k := 4) rfl .nil) (.cons (k := 0) rfl (.cons (k := 1) rfl (.cons (k := 102) rfl .nil))) ?_
      refine W.ret ?_
      refine N.block_ret ?_
      refine N.then_ret ?_
      refine N.then_ret ?_
      refine N.block_ret ?_
      refine N.then_ret ?_
      exact N.retBy [1] (.cons (.tmp rfl) .nil) rfl rfl rfl rfl ⟨⟨_, rfl, .inr ⟨j, x, rfl, hx, fnd_at hx hc20 hI⟩⟩, rfl⟩
    ·
      refine W.skip ?_
      refine N.block_normal ?_
      refine N.next ?_
      refine W.region ?_
      refine RL.q (Yld.move rfl) rfl ?_
      refine RL.q (Yld.bin rfl rfl (by first | exact BinV.add (by omega) (by omega) | exact BinV.addW)) rfl ?_
      refine RL.q (Yld.assign rfl) rfl ?_
      refine RL.nil ?_
      exact N.famK (j + 1) ⟨⟨by omega, fun i y hi hy => (Nat.lt_succ_iff_lt_or_eq.1 hi).elim (fun h => hI i y h hy) (fun e => by subst e; rw [hx] at hy; cases hy; exact hc20)⟩, by omega⟩ (.as rfl (by first | rfl | (simp; done) | (congr 1; simp; done) | (congr 1; omega)) .nil) (.cons rfl (.cons rfl .nil)) .nil (.cons rfl (.cons rfl (.cons rfl .nil)))
  ·
    refine W.exit ?_
    refine N.then_exit ?_
    refine N.then_exit ?_
    refine N.block_eq ?_
    refine N.next ?_
    refine W.keep .nil (.cons (k := 0) rfl (.cons (k := 1) rfl (.cons (k := 102) rfl .nil))) ?_
    refine W.seq ?_
    refine W.region ?_
    refine RL.q (Yld.assign rfl) rfl ?_
    refine RL.nil ?_
    refine N.next ?_
    refine W.ret ?_
    exact N.retBy [1] (.cons (.tmp rfl) .nil) rfl rfl rfl rfl ⟨⟨_, rfl, .inl ⟨rfl, fnd_none.2 fun y hy => by obtain ⟨i, hi⟩ := List.getElem?_of_mem hy; exact hI i y (by have := (List.getElem?_eq_some_iff.1 hi).1; omega) hi⟩⟩, rfl⟩

set_option maxRecDepth 100000 in
set_option maxHeartbeats 400000 in
theorem rget_ct (ms : List Mb) (H1 : PH) (p : Option Addr) (c : Nat) (hS : Sl H1 p c 3 (ms.map Mb.c)) (k : Int) : Ct Try.prog 44 [.agg [.int .i64 1, .slice p ms.length c].toArray, .int .i64 k] [H1] (fun v Hs => v = .tuple [.int .i64 ((fnd ms k).map (·.nx) |>.getD 0), .int .i64 ((fnd ms k).map (·.mt) |>.getD 0)].toArray ∧ Hs = [H1]) := by
  refine Ct.body Try.func44 rfl Try.ntmps44 rfl ?_
  intro E F
  have hmx := hS.len_le
  simp only [List.length_map, maxLen] at hmx
  refine W.seq ?_
  refine W.region ?_
  refine RL.e (Eff.box 102 _ rfl rfl) rfl ?_
  rintro _ _ ⟨b2, rfl, rfl⟩
  refine RL.q (Yld.assign rfl) rfl ?_
  refine RL.q (Yld.assign rfl) rfl ?_
  refine RL.nil ?_
  refine N.next ?_
  refine W.seq ?_
  refine W.region ?_
  refine RL.q (Yld.loadW (c := 102) Try.underlying30 rfl sz30 rfl rfl (by first | exact single_self _ _ | exact pset_self _ _ _ | assumption) rfl) rfl ?_
  refine RL.q (Yld.move rfl) rfl ?_
  refine RL.e (Eff.call ent74 [1] [1] (.cons rfl (.cons rfl .nil)) (rfind_ct ms _ _ _ hS k) rfl rfl rfl rfl (by rintro _ _ ⟨_, rfl⟩; rfl)) rfl ?_
  rintro _ _ ⟨_, ⟨⟨r, rfl, hr⟩, rfl⟩, rfl⟩
  refine RL.q (Yld.assign rfl) rfl ?_
  refine RL.nil ?_
  refine N.next ?_
  refine W.keep (.cons (k := 2) rfl (.cons (k := 6) rfl .nil)) (.cons (k := 0) rfl (.cons (k := 1) rfl (.cons (k := 102) rfl .nil))) ?_
  refine W.seq ?_
  refine W.seq ?_
  refine W.region ?_
  refine RL.q (Yld.move rfl) rfl ?_
  refine RL.q (Yld.bin rfl rfl BinV.lss) rfl ?_
  refine RL.nil ?_
  refine N.next ?_
  first | refine W.condD rfl (fun hc11 => ?_) (fun hc11 => ?_) | (refine W.cond rfl (fun hc11 => ?_) (fun hc11 => ?_) <;> try simp only [Bool.or_eq_true, Bool.and_eq_true, Bool.not_eq_true', Bool.not_eq_false', decide_eq_true_eq, Bool.or_eq_false_iff, Bool.and_eq_false_iff, decide_eq_false_iff_not, beq_iff_eq, beq_eq_false_iff_ne, ne_eq, Decidable.not_not] at hc11)
  ·
    have hno : fnd ms k = none := by
      rcases hr with ⟨_, h⟩ | ⟨i, x, h, _⟩
      · exact h
      · omega
    refine W.seq ?_
    refine W.region ?_
    refine RL.q (Yld.assign rfl) rfl ?_
    refine RL.q (Yld.assign rfl) rfl ?_
    refine RL.nil ?_
    refine N.next ?_
    refine W.keep (.cons (k := 4) rfl (.cons (k := 5) rfl .nil)) (.cons (k := 0) rfl (.cons (k := 1) rfl (.cons (k := 102) rfl .nil))) ?_
    refine W.ret ?_
    refine N.then_ret ?_
    exact N.retBy [1] (.cons (.tmp rfl) (.cons (.tmp rfl) .nil)) rfl rfl rfl rfl ⟨by rw [hno]; rfl, rfl⟩
  ·
    obtain ⟨i, x, rfl, hx, hfx⟩ : ∃ (i : Nat) (x : Mb), r = i ∧ ms[i]? = some x ∧ fnd ms k = some x := by
      rcases hr with ⟨h, _⟩ | h
      · omega
      · exact h
    have hil := (List.getElem?_eq_some_iff.1 hx).1
    have hlx : (ms.map Mb.c)[i]? = some [.int .i64 x.r, .int .i64 x.nx, .int .i64 x.mt] := by simp [hx, Mb.c]
    refine W.skip ?_
    refine N.next ?_
    refine W.seq ?_
    refine W.draw (.q 0 (.q 1 (.q 2 (.q 3 (.q 4 (.q 5 (.q 6 (.q 7 (.q 8 (.q 9 (.q 10 (.q 11 (.q 12 (.q 13 .done)))))))))))))) (.cons (k := 0) rfl (.cons (k := 1) rfl (.cons (k := 102) rfl .nil))) mix (by kernel_rfl) (by kernel_rfl) ?_
    refine DL.q rfl (Yld.fieldAddr fo30_1 rfl) rfl ?_
    refine DL.q rfl (Yld.load1 (c := 102) Try.underlying28 rfl rfl rfl (by first | exact single_self _ _ | exact pset_self _ _ _ | assumption) rfl) rfl ?_
    refine DL.q rfl (Yld.move rfl) rfl ?_
    refine DL.q rfl (Yld.indexRow Try.underlying28 sz94 rfl rfl (by first | assumption | exact Own.sl (by assumption)) (by first | rfl | omega | (simp; done) | (simp; omega)) (by omega) (by first | omega | (simp; done) | (simp; omega))) rfl ?_
    refine DL.q rfl (Yld.fieldAddr fo94_1 rfl) rfl ?_
    refine DL.q rfl (by first | exact Yld.loadRowF (cl := 1) (j := 1) Try.underlying3 rfl rfl rfl (by first | assumption | exact Own.sl (by assumption)) (by assumption) rfl | exact Yld.loadRowF (cl := 102) (j := 1) Try.underlying3 rfl rfl rfl (by first | assumption | exact Own.sl (by assumption)) (by assumption) rfl) rfl ?_
    refine DL.q rfl (Yld.fieldAddr fo30_1 rfl) rfl ?_
    refine DL.q rfl (Yld.load1 (c := 102) Try.underlying28 rfl rfl rfl (by first | exact single_self _ _ | exact pset_self _ _ _ | assumption) rfl) rfl ?_
    refine DL.q rfl (Yld.move rfl) rfl ?_
    refine DL.q rfl (Yld.indexRow Try.underlying28 sz94 rfl rfl (by first | assumption | exact Own.sl (by assumption)) (by first | rfl | omega | (simp; done) | (simp; omega)) (by omega) (by first | omega | (simp; done) | (simp; omega))) rfl ?_
    refine DL.q rfl (Yld.fieldAddr fo94_2 rfl) rfl ?_
    refine DL.q rfl (by first | exact Yld.loadRowF (cl := 1) (j := 2) Try.underlying3 rfl rfl rfl (by first | assumption | exact Own.sl (by assumption)) (by assumption) rfl | exact Yld.loadRowF (cl := 102) (j := 2) Try.underlying3 rfl rfl rfl (by first | assumption | exact Own.sl (by assumption)) (by assumption) rfl) rfl ?_
    refine DL.q rfl (Yld.assign rfl) rfl ?_
    refine DL.q rfl (Yld.assign rfl) rfl ?_
    refine DL.done ?_
    refine N.next ?_
    refine W.keep (.cons (k := 4) rfl (.cons (k := 5) rfl .nil)) (.cons (k := 0) rfl (.cons (k := 1) rfl (.cons (k := 102) rfl .nil))) ?_
    refine W.ret ?_
    exact N.retBy [1] (.cons (.tmp rfl) (.cons (.tmp rfl) .nil)) rfl rfl rfl rfl ⟨by rw [hfx]; rfl, rfl⟩

set_option maxRecDepth 100000 in
set_option maxHeartbeats 400000 in
theorem rset39_ct (ms : List Mb) (H1 : PH) (p : Option Addr) (c : Nat) (hS : Sl H1 p c 3 (ms.map Mb.c)) (hb : ms.length ≤ 1000000) (i : Nat) (x : Mb) (hx : ms[i]? = some x) (nx mt : Int) : Ct Try.prog 75 [.agg [.int .i64 1, .slice p ms.length c].toArray, .int .i64 (i : Nat), .int .i64 nx, .int .i64 mt] [H1] (fun v Hs => ∃ H' p' c', v = .agg [.int .i64 1, .slice p' (ms.set i ⟨x.r, nx, mt⟩).length c'].toArray ∧ Sl H' p' c' 3 ((ms.set i ⟨x.r, nx, mt⟩).map Mb.c) ∧ Hs = [H']) := by
  refine Ct.body Try.func75 rfl Try.ntmps75 rfl ?_
  intro E F
  have hmx := hS.len_le
  simp only [List.length_map, maxLen] at hmx
  have hil := (List.getElem?_eq_some_iff.1 hx).1
  refine W.seq ?_
  refine W.region ?_
  refine RL.e (Eff.box 104 _ rfl rfl) rfl ?_
  rintro _ _ ⟨b4, rfl, rfl⟩
  refine RL.e (Eff.alloc 108 zc30) rfl ?_
  rintro _ _ ⟨b8, rfl, rfl⟩
  refine RL.nil ?_
  refine N.next ?_
  refine W.seq ?_
  refine W.region ?_
  refine RL.e (Eff.buildSlice 109 Try.underlying28 sz94 zc94 rfl rfl .nil rfl) rfl ?_
  rintro _ _ ⟨b9, rfl, rfl⟩
  refine RL.q (Yld.fieldAddr fo30_1 rfl) rfl ?_
  refine RL.q (Yld.load1 (c := 104) Try.underlying28 rfl rfl rfl (by first | exact single_self _ _ | exact pset_self _ _ _ | assumption) rfl) rfl ?_
  refine RL.e (Eff.appendE (tc := 109) (sc := 1) Mb.c Try.underlying28 el94 rfl rfl rfl rfl (mb_none rfl) rfl hS rfl (fun a _ => a.c_one) (by decide) (by first | (simp; done) | (simp; omega)) (by first | (simp [maxLen]; done) | (simp [maxLen]; omega))) rfl ?_
  rintro _ _ ⟨Ha, pa, ca, rfl, hOa, rfl⟩
  have hlx : (ms.map Mb.c)[i]? = some [.int .i64 x.r, .int .i64 x.nx, .int .i64 x.mt] := by simp [hx, Mb.c]
  have hlx1 : ((ms.map Mb.c).set i [.int .i64 x.r, .int .i64 nx, .int .i64 x.mt])[i]? = some [.int .i64 x.r, .int .i64 nx, .int .i64 x.mt] := by rw [List.getElem?_set_self (by simpa using hil)]
  have hOn : Own Ha pa ca 94 3 (ms.map Mb.c) := hOa
  refine RL.q (Yld.fieldAddr fo30_1 rfl) rfl ?_
  refine RL.e0 (Eff.storeS (c := 104) _ sz28 rfl rfl rfl rfl rfl rfl rfl (by (try simp only [putAt, List.take, List.drop, List.nil_append, List.cons_append, List.append_nil, List.length_cons, List.length_nil, Nat.add_zero, Nat.zero_add, Nat.reduceAdd]); rfl)) ?_
  rintro _ _ rfl
  refine RL.nil ?_
  refine N.next ?_
  refine W.keep (.cons (k := 1) rfl (.cons (k := 2) rfl (.cons (k := 3) rfl (.cons (k := 4) rfl (.cons (k := 8) rfl .nil))))) (.cons (k := 0) rfl (.cons (k := 1) rfl (.cons (k := 104) rfl (.cons (k := 108) rfl (.cons (k := 109) rfl .nil))))) ?_
  refine W.seq ?_
  refine W.draw (.q 0 (.q 1 (.q 2 (.q 3 (.q 4 (.q 5 (.q 6 (.q 7 (.q 8 (.q 9 (.one 10 (.q 11 (.q 12 (.one 13 .done)))))))))))))) (.cons (k := 0) rfl (.cons (k := 1) rfl (.cons (k := 104) rfl (.cons (k := 108) rfl .nil)))) mix (by kernel_rfl) (by kernel_rfl) ?_
  refine DL.q rfl (Yld.fieldAddr fo30_1 rfl) rfl ?_
  refine DL.q rfl (Yld.load1 (c := 104) Try.underlying28 rfl rfl rfl (by first | exact single_self _ _ | exact pset_self _ _ _ | assumption) rfl) rfl ?_
  refine DL.q rfl (Yld.move rfl) rfl ?_
  refine DL.q rfl (Yld.fieldAddr fo30_1 rfl) rfl ?_
  refine DL.q rfl (Yld.load1 (c := 104) Try.underlying28 rfl rfl rfl (by first | exact single_self _ _ | exact pset_self _ _ _ | assumption) rfl) rfl ?_
  refine DL.q rfl (Yld.move rfl) rfl ?_
  refine DL.q rfl (Yld.move rfl) rfl ?_
  refine DL.q rfl (Yld.move rfl) rfl ?_
  refine DL.q rfl (Yld.indexRow Try.underlying28 sz94 rfl rfl (by first | assumption | exact Own.sl (by assumption)) (by first | rfl | omega | (simp; done) | (simp; omega)) (by omega) (by first | omega | (simp; done) | (simp; omega))) rfl ?_
  refine DL.q rfl (Yld.fieldAddr fo94_1 rfl) rfl ?_
  refine DL.one0 rfl (Eff.storeRow (tc := 109) (j := 1) sz3 rfl rfl rfl hOn hlx rfl rfl rfl rfl rfl) (by rintro _ _ ⟨Ho1, hO1, rfl⟩; repeat (first | exact .nil | refine .cons rfl ?_)) ?_
  rintro _ _ ⟨Ho1, hO1, rfl⟩
  refine DL.q rfl (Yld.indexRow Try.underlying28 sz94 rfl rfl (by first | assumption | exact Own.sl (by assumption)) (by first | rfl | omega | (simp; done) | (simp; omega)) (by omega) (by first | omega | (simp; done) | (simp; omega))) rfl ?_
  refine DL.q rfl (Yld.fieldAddr fo94_2 rfl) rfl ?_
  refine DL.one0 rfl (Eff.storeRow (tc := 109) (j := 2) sz3 rfl rfl rfl hO1 hlx1 rfl rfl rfl rfl rfl) (by rintro _ _ ⟨Hb, hOb, rfl⟩; repeat (first | exact .nil | refine .cons rfl ?_)) ?_
  rintro _ _ ⟨Hb, hOb, rfl⟩
  refine DL.done ?_
  refine N.next ?_
  refine W.keep (.cons (k := 4) rfl (.cons (k := 8) rfl .nil)) (.cons (k := 0) rfl (.cons (k := 1) rfl (.cons (k := 104) rfl (.cons (k := 108) rfl (.cons (k := 109) rfl .nil))))) ?_
  refine W.seq ?_
  refine W.region ?_
  refine RL.q (Yld.loadW (c := 104) Try.underlying30 rfl sz30 rfl rfl (by first | exact single_self _ _ | exact pset_self _ _ _ | assumption) rfl) rfl ?_
  refine RL.e0 (Eff.storeS (c := 108) _ sz30 rfl rfl rfl rfl rfl rfl rfl (by (try simp only [putAt, List.take, List.drop, List.nil_append, List.cons_append, List.append_nil, List.length_cons, List.length_nil, Nat.add_zero, Nat.zero_add, Nat.reduceAdd]); rfl)) ?_
  rintro _ _ rfl
  refine RL.nil ?_
  refine N.next ?_
  refine W.ret ?_
  exact N.retBy [109] (.cons (by first | exact .cell (c := 108) rfl rfl (fun w hs => run_loadVarA Try.underlying30 rfl sz30 rfl (fun j u hj => by rw [Nat.zero_add, PH.sub.cell hs (by first | exact single_self _ _ | exact pset_self _ _ _ | assumption)]; exact hj))) .nil) rfl rfl rfl rfl ⟨Hb, pa, ca, by simp [resOf], by have h : Sl Hb pa ca 3 (((ms.map Mb.c).set i [.int .i64 x.r, .int .i64 nx, .int .i64 x.mt]).set i [.int .i64 x.r, .int .i64 nx, .int .i64 mt]) := hOb.sl; rw [List.set_set] at h; rw [List.map_set]; exact h, rfl⟩

set_option maxRecDepth 100000 in
set_option maxHeartbeats 1600000 in
theorem raccept_ct (ms : List Mb) (H1 : PH) (p : Option Addr) (c : Nat) (hS : Sl H1 p c 3 (ms.map Mb.c)) (hK : MOK ms) (k b : Int) (hb : b ≤ 1099511627776) : Ct Try.prog 47 [.agg [.int .i64 1, .slice p ms.length c].toArray, .int .i64 k, .int .i64 b] [H1] (fun v Hs => ∃ H' p' c', v = .tuple [.agg [.int .i64 1, .slice p' (upd (accM b) ms k).length c'].toArray, .bool ((fnd ms k).map (fun x => decide (x.mt < (accM b x).mt)) |>.getD false)].toArray ∧ Sl H' p' c' 3 ((upd (accM b) ms k).map Mb.c) ∧ Hs = [H']) := by
  refine Ct.body Try.func47 rfl Try.ntmps47 rfl ?_
  intro E F
  have hmx := hS.len_le
  simp only [List.length_map, maxLen] at hmx
  have hbig := hK.len
  refine W.seq ?_
  refine W.region ?_
  refine RL.e (Eff.box 103 _ rfl rfl) rfl ?_
  rintro _ _ ⟨b3, rfl, rfl⟩
  refine RL.e (Eff.alloc 106 zc30) rfl ?_
  rintro _ _ ⟨b6, rfl, rfl⟩
  refine RL.q (Yld.assign rfl) rfl ?_
  refine RL.nil ?_
  refine N.next ?_
  refine W.seq ?_
  refine W.region ?_
  refine RL.q (Yld.loadW (c := 103) Try.underlying30 rfl sz30 rfl rfl (by first | exact single_self _ _ | exact pset_self _ _ _ | assumption) rfl) rfl ?_
  refine RL.q (Yld.move rfl) rfl ?_
  refine RL.e (Eff.call ent74 [1] [1] (.cons rfl (.cons rfl .nil)) (rfind_ct ms _ _ _ hS k) rfl rfl rfl rfl (by rintro _ _ ⟨_, rfl⟩; rfl)) rfl ?_
  rintro _ _ ⟨_, ⟨⟨r, rfl, hr⟩, rfl⟩, rfl⟩
  refine RL.q (Yld.assign rfl) rfl ?_
  refine RL.nil ?_
  refine N.next ?_
  refine W.keep (.cons (k := 1) rfl (.cons (k := 2) rfl (.cons (k := 3) rfl (.cons (k := 6) rfl (.cons (k := 8) rfl .nil))))) (.cons (k := 0) rfl (.cons (k := 1) rfl (.cons (k := 103) rfl (.cons (k := 106) rfl .nil)))) ?_
  refine W.seq ?_
  refine W.seq ?_
  refine W.region ?_
  refine RL.q (Yld.move rfl) rfl ?_
  refine RL.q (Yld.bin rfl rfl BinV.lss) rfl ?_
  refine RL.nil ?_
  refine N.next ?_
  first | refine W.condD rfl (fun hc16 => ?_) (fun hc16 => ?_) | (refine W.cond rfl (fun hc16 => ?_) (fun hc16 => ?_) <;> try simp only [Bool.or_eq_true, Bool.and_eq_true, Bool.not_eq_true', Bool.not_eq_false', decide_eq_true_eq, Bool.or_eq_false_iff, Bool.and_eq_false_iff, decide_eq_false_iff_not, beq_iff_eq, beq_eq_false_iff_ne, ne_eq, Decidable.not_not] at hc16)
  ·
    have hno : fnd ms k = none := by
      rcases hr with ⟨_, h⟩ | ⟨i, x, h, _⟩
      · exact h
      · omega
    refine W.seq ?_
    refine W.region ?_
    refine RL.q (Yld.loadW (c := 103) Try.underlying30 rfl sz30 rfl rfl (by first | exact single_self _ _ | exact pset_self _ _ _ | assumption) rfl) rfl ?_
    refine RL.e0 (Eff.storeS (c := 106) _ sz30 rfl rfl rfl rfl rfl rfl rfl (by (try simp only [putAt, List.take, List.drop, List.nil_append, List.cons_append, List.append_nil, List.length_cons, List.length_nil, Nat.add_zero, Nat.zero_add, Nat.reduceAdd]); rfl)) ?_
    rintro _ _ rfl
    refine RL.q (Yld.assign rfl) rfl ?_
    refine RL.nil ?_
    refine N.next ?_
    refine W.keep (.cons (k := 6) rfl (.cons (k := 7) rfl .nil)) (.cons (k := 0) rfl (.cons (k := 1) rfl (.cons (k := 103) rfl (.cons (k := 106) rfl .nil)))) ?_
    refine W.ret ?_
    refine N.then_ret ?_
    exact N.retBy [1] (.cons (by first | exact .cell (c := 106) rfl rfl (fun w hs => run_loadVarA Try.underlying30 rfl sz30 rfl (fun j u hj => by rw [Nat.zero_add, PH.sub.cell hs (by first | exact single_self _ _ | exact pset_self _ _ _ | assumption)]; exact hj))) (.cons (.tmp rfl) .nil)) rfl rfl rfl rfl ⟨H1, p, c, by rw [hno, upd_none hno]; rfl, by rw [upd_none hno]; exact hS, rfl⟩
  ·
    obtain ⟨i, x, rfl, hx, hfx⟩ : ∃ (i : Nat) (x : Mb), r = i ∧ ms[i]? = some x ∧ fnd ms k = some x := by
      rcases hr with ⟨h, _⟩ | h
      · omega
      · exact h
    have hil := (List.getElem?_eq_some_iff.1 hx).1
    have hlx : (ms.map Mb.c)[i]? = some [.int .i64 x.r, .int .i64 x.nx, .int .i64 x.mt] := by simp [hx, Mb.c]
    have hmt := hK.mt x (List.mem_of_getElem? hx)
    have hxb := hK.big x (List.mem_of_getElem? hx)
    refine W.skip ?_
    refine N.next ?_
    refine W.seq ?_
    refine W.region ?_
    refine RL.q (Yld.loadW (c := 103) Try.underlying30 rfl sz30 rfl rfl (by first | exact single_self _ _ | exact pset_self _ _ _ | assumption) rfl) rfl ?_
    refine RL.q (Yld.move rfl) rfl ?_
    refine RL.e (Eff.call ent44 [1] [1] (.cons rfl (.cons rfl .nil)) (rget_ct ms _ _ _ hS k) rfl rfl rfl rfl (by rintro _ _ ⟨_, rfl⟩; rfl)) rfl ?_
    rintro _ _ ⟨_, ⟨rfl, rfl⟩, rfl⟩
    rw [show Value.tuple [.int .i64 ((fnd ms k).map (·.nx) |>.getD 0), .int .i64 ((fnd ms k).map (·.mt) |>.getD 0)].toArray = .tuple [.int .i64 x.nx, .int .i64 x.mt].toArray by rw [hfx]; rfl]
    refine RL.q (Yld.move rfl) rfl ?_
    refine RL.q (Yld.extract rfl rfl) rfl ?_
    refine RL.q (Yld.extract rfl rfl) rfl ?_
    refine RL.q (Yld.assign rfl) rfl ?_
    refine RL.q (Yld.assign rfl) rfl ?_
    refine RL.nil ?_
    refine N.next ?_
    refine W.keep (.cons (k := 2) rfl (.cons (k := 3) rfl (.cons (k := 6) rfl (.cons (k := 8) rfl (.cons (k := 9) rfl (.cons (k := 10) rfl .nil)))))) (.cons (k := 0) rfl (.cons (k := 1) rfl (.cons (k := 103) rfl (.cons (k := 106) rfl .nil)))) ?_
    refine W.seq ?_
    refine W.region ?_
    refine RL.q (Yld.move rfl) rfl ?_
    refine RL.q (Yld.move rfl) rfl ?_
    refine RL.q (Yld.max2 rfl rfl) rfl ?_
    refine RL.q (Yld.assign rfl) rfl ?_
    refine RL.nil ?_
    refine N.next ?_
    refine W.keep (.cons (k := 3) rfl (.cons (k := 6) rfl (.cons (k := 8) rfl (.cons (k := 9) rfl (.cons (k := 10) rfl (.cons (k := 11) rfl .nil)))))) (.cons (k := 0) rfl (.cons (k := 1) rfl (.cons (k := 103) rfl (.cons (k := 106) rfl .nil)))) ?_
    refine W.seq ?_
    refine W.region ?_
    refine RL.q (Yld.loadW (c := 103) Try.underlying30 rfl sz30 rfl rfl (by first | exact single_self _ _ | exact pset_self _ _ _ | assumption) rfl) rfl ?_
    refine RL.q (Yld.move rfl) rfl ?_
    refine RL.q (Yld.move rfl) rfl ?_
    refine RL.q (Yld.move rfl) rfl ?_
    refine RL.q (Yld.bin rfl rfl (by first | exact BinV.add (by omega) (by omega) | exact BinV.addW)) rfl ?_
    refine RL.q (Yld.max2 rfl rfl) rfl ?_
    refine RL.q (Yld.move rfl) rfl ?_
    refine RL.e (Eff.call ent75 [1] [1] (.cons rfl (.cons rfl (.cons rfl (.cons rfl .nil)))) (rset39_ct ms _ _ _ hS (by omega) i x hx (max x.nx (max x.mt b + 1)) (max x.mt b)) rfl rfl rfl rfl (by rintro _ _ ⟨_, _, _, _, _, rfl⟩; rfl)) rfl ?_
    rintro _ _ ⟨_, ⟨Hn, pn, cn, rfl, hSn, rfl⟩, rfl⟩
    refine RL.q (Yld.move rfl) rfl ?_
    refine RL.q (Yld.move rfl) rfl ?_
    refine RL.q (Yld.bin rfl rfl BinV.gtr) rfl ?_
    refine RL.e0 (Eff.storeS (c := 106) _ sz30 rfl rfl rfl rfl rfl rfl rfl (by (try simp only [putAt, List.take, List.drop, List.nil_append, List.cons_append, List.append_nil, List.length_cons, List.length_nil, Nat.add_zero, Nat.zero_add, Nat.reduceAdd]); rfl)) ?_
    rintro _ _ rfl
    refine RL.q (Yld.assign rfl) rfl ?_
    refine RL.nil ?_
    refine N.next ?_
    refine W.keep (.cons (k := 6) rfl (.cons (k := 7) rfl .nil)) (.cons (k := 0) rfl (.cons (k := 1) rfl (.cons (k := 103) rfl (.cons (k := 106) rfl .nil)))) ?_
    refine W.ret ?_
    exact N.retBy [1] (.cons (by first | exact .cell (c := 106) rfl rfl (fun w hs => run_loadVarA Try.underlying30 rfl sz30 rfl (fun j u hj => by rw [Nat.zero_add, PH.sub.cell hs (by first | exact single_self _ _ | exact pset_self _ _ _ | assumption)]; exact hj))) (.cons (.tmp rfl) .nil)) rfl rfl rfl rfl ⟨_, _, _, by rw [hfx, upd_set hK.sorted hx (fnd_some hfx).2]; rfl, by rw [upd_set hK.sorted hx (fnd_some hfx).2]; exact hSn, rfl⟩

set_option maxRecDepth 100000 in
set_option maxHeartbeats 1600000 in
theorem rreject_ct (ms : List Mb) (H1 : PH) (p : Option Addr) (c : Nat) (hS : Sl H1 p c 3 (ms.map Mb.c)) (hK : MOK ms) (k b : Int) (hb : -1099511627776 ≤ b) : Ct Try.prog 48 [.agg [.int .i64 1, .slice p ms.length c].toArray, .int .i64 k, .int .i64 b] [H1] (fun v Hs => ∃ H' p' c', v = .tuple [.agg [.int .i64 1, .slice p' (upd (rejM b) ms k).length c'].toArray, .bool ((fnd ms k).map (fun x => decide ((rejM b x).nx < x.nx)) |>.getD false)].toArray ∧ Sl H' p' c' 3 ((upd (rejM b) ms k).map Mb.c) ∧ Hs = [H']) := by
  refine Ct.body Try.func48 rfl Try.ntmps48 rfl ?_
  intro E F
  have hmx := hS.len_le
  simp only [List.length_map, maxLen] at hmx
  have hbig := hK.len
  refine W.seq ?_
  refine W.region ?_
  refine RL.e (Eff.box 103 _ rfl rfl) rfl ?_
  rintro _ _ ⟨b3, rfl, rfl⟩
  refine RL.e (Eff.alloc 106 zc30) rfl ?_
  rintro _ _ ⟨b6, rfl, rfl⟩
  refine RL.q (Yld.assign rfl) rfl ?_
  refine RL.nil ?_
  refine N.next ?_
  refine W.seq ?_
  refine W.region ?_
  refine RL.q (Yld.loadW (c := 103) Try.underlying30 rfl sz30 rfl rfl (by first | exact single_self _ _ | exact pset_self _ _ _ | assumption) rfl) rfl ?_
  refine RL.q (Yld.move rfl) rfl ?_
  refine RL.e (Eff.call ent74 [1] [1] (.cons rfl (.cons rfl .nil)) (rfind_ct ms _ _ _ hS k) rfl rfl rfl rfl (by rintro _ _ ⟨_, rfl⟩; rfl)) rfl ?_
  rintro _ _ ⟨_, ⟨⟨r, rfl, hr⟩, rfl⟩, rfl⟩
  refine RL.q (Yld.assign rfl) rfl ?_
  refine RL.nil ?_
  refine N.next ?_
  refine W.keep (.cons (k := 1) rfl (.cons (k := 2) rfl (.cons (k := 3) rfl (.cons (k := 6) rfl (.cons (k := 8) rfl .nil))))) (.cons (k := 0) rfl (.cons (k := 1) rfl (.cons (k := 103) rfl (.cons (k := 106) rfl .nil)))) ?_
  refine W.seq ?_
  refine W.seq ?_
  refine W.region ?_
  refine RL.q (Yld.move rfl) rfl ?_
  refine RL.q (Yld.bin rfl rfl BinV.lss) rfl ?_
  refine RL.nil ?_
  refine N.next ?_
  first | refine W.condD rfl (fun hc16 => ?_) (fun hc16 => ?_) | (refine W.cond rfl (fun hc16 => ?_) (fun hc16 => ?_) <;> try simp only [Bool.or_eq_true, Bool.and_eq_true, Bool.not_eq_true', Bool.not_eq_false', decide_eq_true_eq, Bool.or_eq_false_iff, Bool.and_eq_false_iff, decide_eq_false_iff_not, beq_iff_eq, beq_eq_false_iff_ne, ne_eq, Decidable.not_not] at hc16)
  ·
    have hno : fnd ms k = none := by
      rcases hr with ⟨_, h⟩ | ⟨i, x, h, _⟩
      · exact h
      · omega
    refine W.seq ?_
    refine W.region ?_
    refine RL.q (Yld.loadW (c := 103) Try.underlying30 rfl sz30 rfl rfl (by first | exact single_self _ _ | exact pset_self _ _ _ | assumption) rfl) rfl ?_
    refine RL.e0 (Eff.storeS (c := 106) _ sz30 rfl rfl rfl rfl rfl rfl rfl (by (try simp only [putAt, List.take, List.drop, List.nil_append, List.cons_append, List.append_nil, List.length_cons, List.length_nil, Nat.add_zero, Nat.zero_add, Nat.reduceAdd]); rfl)) ?_
    rintro _ _ rfl
    refine RL.q (Yld.assign rfl) rfl ?_
    refine RL.nil ?_
    refine N.next ?_
    refine W.keep (.cons (k := 6) rfl (.cons (k := 7) rfl .nil)) (.cons (k := 0) rfl (.cons (k := 1) rfl (.cons (k := 103) rfl (.cons (k := 106) rfl .nil)))) ?_
    refine W.ret ?_
    refine N.then_ret ?_
    exact N.retBy [1] (.cons (by first | exact .cell (c := 106) rfl rfl (fun w hs => run_loadVarA Try.underlying30 rfl sz30 rfl (fun j u hj => by rw [Nat.zero_add, PH.sub.cell hs (by first | exact single_self _ _ | exact pset_self _ _ _ | assumption)]; exact hj))) (.cons (.tmp rfl) .nil)) rfl rfl rfl rfl ⟨H1, p, c, by rw [hno, upd_none hno]; rfl, by rw [upd_none hno]; exact hS, rfl⟩
  ·
    obtain ⟨i, x, rfl, hx, hfx⟩ : ∃ (i : Nat) (x : Mb), r = i ∧ ms[i]? = some x ∧ fnd ms k = some x := by
      rcases hr with ⟨h, _⟩ | h
      · omega
      · exact h
    have hil := (List.getElem?_eq_some_iff.1 hx).1
    have hlx : (ms.map Mb.c)[i]? = some [.int .i64 x.r, .int .i64 x.nx, .int .i64 x.mt] := by simp [hx, Mb.c]
    have hmt := hK.mt x (List.mem_of_getElem? hx)
    have hxb := hK.big x (List.mem_of_getElem? hx)
    refine W.skip ?_
    refine N.next ?_
    refine W.seq ?_
    refine W.region ?_
    refine RL.q (Yld.loadW (c := 103) Try.underlying30 rfl sz30 rfl rfl (by first | exact single_self _ _ | exact pset_self _ _ _ | assumption) rfl) rfl ?_
    refine RL.q (Yld.move rfl) rfl ?_
    refine RL.e (Eff.call ent44 [1] [1] (.cons rfl (.cons rfl .nil)) (rget_ct ms _ _ _ hS k) rfl rfl rfl rfl (by rintro _ _ ⟨_, rfl⟩; rfl)) rfl ?_
    rintro _ _ ⟨_, ⟨rfl, rfl⟩, rfl⟩
    rw [show Value.tuple [.int .i64 ((fnd ms k).map (·.nx) |>.getD 0), .int .i64 ((fnd ms k).map (·.mt) |>.getD 0)].toArray = .tuple [.int .i64 x.nx, .int .i64 x.mt].toArray by rw [hfx]; rfl]
    refine RL.q (Yld.move rfl) rfl ?_
    refine RL.q (Yld.extract rfl rfl) rfl ?_
    refine RL.q (Yld.extract rfl rfl) rfl ?_
    refine RL.q (Yld.assign rfl) rfl ?_
    refine RL.q (Yld.assign rfl) rfl ?_
    refine RL.nil ?_
    refine N.next ?_
    refine W.keep (.cons (k := 2) rfl (.cons (k := 3) rfl (.cons (k := 6) rfl (.cons (k := 8) rfl (.cons (k := 9) rfl (.cons (k := 10) rfl .nil)))))) (.cons (k := 0) rfl (.cons (k := 1) rfl (.cons (k := 103) rfl (.cons (k := 106) rfl .nil)))) ?_
    refine W.seq ?_
    refine W.region ?_
    refine RL.q (Yld.move rfl) rfl ?_
    refine RL.q (Yld.bin rfl rfl (by first | exact BinV.sub (by omega) (by omega) | exact BinV.subW)) rfl ?_
    refine RL.q (Yld.assign rfl) rfl ?_
    refine RL.nil ?_
    refine N.next ?_
    refine W.cutK (ι := Int) (fun n => (n = min (x.nx - 1) (min b x.nx + 1))) (fun n => [(11, .int .i64 n)]) (fun n => []) (.cons (k := 3) rfl (.cons (k := 6) rfl (.cons (k := 8) rfl (.cons (k := 9) rfl (.cons (k := 10) rfl .nil))))) (.cons (k := 0) rfl (.cons (k := 1) rfl (.cons (k := 103) rfl (.cons (k := 106) rfl .nil)))) ?_ ?_
    ·
      refine W.seq ?_
      refine W.region ?_
      refine RL.q (Yld.move rfl) rfl ?_
      refine RL.q (Yld.move rfl) rfl ?_
      refine RL.q (Yld.bin rfl rfl BinV.lss) rfl ?_
      refine RL.nil ?_
      refine N.next ?_
      refine W.keep (.cons (k := 2) rfl (.cons (k := 3) rfl (.cons (k := 6) rfl (.cons (k := 8) rfl (.cons (k := 9) rfl (.cons (k := 10) rfl (.cons (k := 11) rfl (.cons (k := 28) rfl .nil)))))))) (.cons (k := 0) rfl (.cons (k := 1) rfl (.cons (k := 103) rfl (.cons (k := 106) rfl .nil)))) ?_
      first | refine W.condD rfl (fun hc28 => ?_) (fun hc28 => ?_) | (refine W.cond rfl (fun hc28 => ?_) (fun hc28 => ?_) <;> try simp only [Bool.or_eq_true, Bool.and_eq_true, Bool.not_eq_true', Bool.not_eq_false', decide_eq_true_eq, Bool.or_eq_false_iff, Bool.and_eq_false_iff, decide_eq_false_iff_not, beq_iff_eq, beq_eq_false_iff_ne, ne_eq, Decidable.not_not] at hc28)
      ·
        refine W.region ?_
        refine RL.q (Yld.move rfl) rfl ?_
        refine RL.q (Yld.move rfl) rfl ?_
        refine RL.q (Yld.bin rfl rfl (by first | exact BinV.add (by omega) (by omega) | exact BinV.addW)) rfl ?_
        refine RL.q (Yld.min2 rfl rfl) rfl ?_
        refine RL.q (Yld.assign rfl) rfl ?_
        refine RL.nil ?_
        exact N.famK (min (x.nx - 1) (b + 1)) (by omega) (.as rfl (by first | rfl | (simp; done) | (congr 1; simp; done) | (congr 1; omega)) .nil) (.cons rfl (.cons rfl (.cons rfl (.cons rfl (.cons rfl .nil))))) .nil (.cons rfl (.cons rfl (.cons rfl (.cons rfl .nil))))
      ·
        refine W.skip ?_
        exact N.famK (x.nx - 1) (by omega) (.as rfl (by first | rfl | (simp; done) | (congr 1; simp; done) | (congr 1; omega)) .nil) (.cons rfl (.cons rfl (.cons rfl (.cons rfl (.cons rfl .nil))))) .nil (.cons rfl (.cons rfl (.cons rfl (.cons rfl .nil))))
    rintro n hn
    refine W.keep (.cons (k := 11) rfl (.cons (k := 3) rfl (.cons (k := 6) rfl (.cons (k := 8) rfl (.cons (k := 9) rfl (.cons (k := 10) rfl .nil)))))) (.cons (k := 0) rfl (.cons (k := 1) rfl (.cons (k := 103) rfl (.cons (k := 106) rfl .nil)))) ?_
    refine W.seq ?_
    refine W.region ?_
    refine RL.q (Yld.move rfl) rfl ?_
    refine RL.q (Yld.move rfl) rfl ?_
    refine RL.q (Yld.bin rfl rfl (by first | exact BinV.add (by omega) (by omega) | exact BinV.addW)) rfl ?_
    refine RL.q (Yld.max2 rfl rfl) rfl ?_
    refine RL.q (Yld.assign rfl) rfl ?_
    refine RL.nil ?_
    refine N.next ?_
    refine W.keep (.cons (k := 3) rfl (.cons (k := 6) rfl (.cons (k := 8) rfl (.cons (k := 9) rfl (.cons (k := 10) rfl (.cons (k := 11) rfl .nil)))))) (.cons (k := 0) rfl (.cons (k := 1) rfl (.cons (k := 103) rfl (.cons (k := 106) rfl .nil)))) ?_
    refine W.seq ?_
    refine W.region ?_
    refine RL.q (Yld.loadW (c := 103) Try.underlying30 rfl sz30 rfl rfl (by first | exact single_self _ _ | exact pset_self _ _ _ | assumption) rfl) rfl ?_
    refine RL.q (Yld.move rfl) rfl ?_
    refine RL.q (Yld.move rfl) rfl ?_
    refine RL.q (Yld.move rfl) rfl ?_
    refine RL.e (Eff.call ent75 [1] [1] (.cons rfl (.cons rfl (.cons rfl (.cons rfl .nil)))) (rset39_ct ms _ _ _ hS (by omega) i x hx (max n (x.mt + 1)) x.mt) rfl rfl rfl rfl (by rintro _ _ ⟨_, _, _, _, _, rfl⟩; rfl)) rfl ?_
    rintro _ _ ⟨_, ⟨Hn, pn, cn, rfl, hSn, rfl⟩, rfl⟩
    refine RL.q (Yld.move rfl) rfl ?_
    refine RL.q (Yld.move rfl) rfl ?_
    refine RL.q (Yld.bin rfl rfl BinV.lss) rfl ?_
    refine RL.e0 (Eff.storeS (c := 106) _ sz30 rfl rfl rfl rfl rfl rfl rfl (by (try simp only [putAt, List.take, List.drop, List.nil_append, List.cons_append, List.append_nil, List.length_cons, List.length_nil, Nat.add_zero, Nat.zero_add, Nat.reduceAdd]); rfl)) ?_
    rintro _ _ rfl
    refine RL.q (Yld.assign rfl) rfl ?_
    refine RL.nil ?_
    refine N.next ?_
    refine W.keep (.cons (k := 6) rfl (.cons (k := 7) rfl .nil)) (.cons (k := 0) rfl (.cons (k := 1) rfl (.cons (k := 103) rfl (.cons (k := 106) rfl .nil)))) ?_
    refine W.ret ?_
    exact N.retBy [1] (.cons (by first | exact .cell (c := 106) rfl rfl (fun w hs => run_loadVarA Try.underlying30 rfl sz30 rfl (fun j u hj => by rw [Nat.zero_add, PH.sub.cell hs (by first | exact single_self _ _ | exact pset_self _ _ _ | assumption)]; exact hj))) (.cons (.tmp rfl) .nil)) rfl rfl rfl rfl ⟨_, _, _, by rw [hfx, upd_set hK.sorted hx (fnd_some hfx).2, show rejM b x = ⟨x.r, max n (x.mt + 1), x.mt⟩ by unfold rejM; congr 1; omega]; simp only [Option.map_some, Option.getD_some, show (rejM b x).nx = max n (x.mt + 1) by unfold rejM; dsimp only; omega]; rfl, by rw [upd_set hK.sorted hx (fnd_some hfx).2, show rejM b x = ⟨x.r, max n (x.mt + 1), x.mt⟩ by unfold rejM; congr 1; omega]; exact hSn, rfl⟩

set_option maxRecDepth 100000 in
set_option maxHeartbeats 3200000 in
theorem rchange_ct (ms : List Mb) (H1 : PH) (p : Option Addr) (c : Nat) (hS : Sl H1 p c 3 (ms.map Mb.c)) (last : Int) (hlast : last ≤ 1099511627776) (l : List Int) (H3 : PH) (q : Option Addr) (d : Nat) (hl : Sl H3 q d 1 (iz l)) (hb : l.length ≤ 1000000) : Ct Try.prog 43 [.agg [.int .i64 1, .slice p ms.length c].toArray, .int .i64 last, .slice q l.length d] [H1, H3] (fun v Hs => ∃ H' p' c', v = .agg [.int .i64 1, .slice p' (chg 1 last ms l).length c'].toArray ∧ Sl H' p' c' 3 ((chg 1 last ms l).map Mb.c) ∧ Hs = [H', H3]) := by
  refine Ct.body Try.func43 rfl Try.ntmps43 rfl ?_
  intro E F
  have hmx := hS.len_le
  simp only [List.length_map, maxLen] at hmx
  refine W.seq ?_
  refine W.region ?_
  refine RL.e (Eff.box 103 _ rfl rfl) rfl ?_
  rintro _ _ ⟨b3, rfl, rfl⟩
  refine RL.e (Eff.alloc 106 zc30) rfl ?_
  rintro _ _ ⟨b6, rfl, rfl⟩
  refine RL.nil ?_
  refine N.next ?_
  refine W.seq ?_
  refine W.imp (Imp.empty _ 60) ?_
  refine W.region ?_
  refine RL.q (Yld.fieldAddr fo30_0 rfl) rfl ?_
  refine RL.q (Yld.load1 (c := 103) Try.underlying3 rfl rfl rfl (by first | exact single_self _ _ | exact pset_self _ _ _ | assumption) rfl) rfl ?_
  refine RL.q (Yld.buildP lay30 (.cons rfl rfl .nil) rfl) rfl ?_
  refine RL.e (Eff.alloc 107 zc30) rfl ?_
  rintro _ _ ⟨b7, rfl, rfl⟩
  refine RL.e0 (Eff.storeS (c := 107) _ sz30 rfl rfl rfl rfl rfl rfl rfl (by (try simp only [putAt, List.take, List.drop, List.nil_append, List.cons_append, List.append_nil, List.length_cons, List.length_nil, Nat.add_zero, Nat.zero_add, Nat.reduceAdd]); rfl)) ?_
  rintro _ _ rfl
  refine RL.nil ?_
  refine N.next ?_
  refine W.keep (.cons (k := 1) rfl (.cons (k := 2) rfl (.cons (k := 3) rfl (.cons (k := 6) rfl (.cons (k := 7) rfl .nil))))) (.cons (k := 0) rfl (.cons (k := 1) rfl (.cons (k := 2) rfl (.cons (k := 60) rfl (.cons (k := 103) rfl (.cons (k := 106) rfl (.cons (k := 107) rfl .nil))))))) ?_
  refine W.seq ?_
  refine W.region ?_
  refine RL.q (Yld.move rfl) rfl ?_
  refine RL.e (Eff.call ent36 [2] [2, 131] (.cons rfl .nil) (rset_ct l _ _ _ hl (by omega)) rfl rfl rfl rfl (by rintro _ _ ⟨_, _, _, _, _, rfl⟩; rfl)) rfl ?_
  rintro _ _ ⟨_, ⟨Hv, pv, cv, rfl, hOv, rfl⟩, rfl⟩
  have hvl := setL_len l
  refine RL.q (Yld.assign rfl) rfl ?_
  refine RL.nil ?_
  refine N.next ?_
  refine W.seq ?_
  refine W.seq ?_
  refine W.region ?_
  refine RL.q (Yld.assign rfl) rfl ?_
  refine RL.nil ?_
  refine N.next ?_
  refine W.block ?_
  refine W.loopK (ι := WI) (fun x => (x.i ≤ (setL l).length ∧ Own x.H x.p x.c 94 3 (x.s.map Mb.c) ∧ x.s = chgR last ms ((setL l).take x.i))) (fun x => [(9, .int .i64 (x.i : Nat))]) (fun x => [(60, x.H), (107, single b7 (.cells [.int .i64 1, .slice x.p x.s.length x.c].toArray 30 (0, 0)))]) (fun x => (setL l).length - x.i) (.cons (k := 1) rfl (.cons (k := 3) rfl (.cons (k := 6) rfl (.cons (k := 7) rfl (.cons (k := 8) rfl .nil))))) (.cons (k := 0) rfl (.cons (k := 1) rfl (.cons (k := 2) rfl (.cons (k := 103) rfl (.cons (k := 106) rfl (.cons (k := 131) rfl .nil)))))) ⟨0, emp, none, 0, []⟩ ?_ ?_ ?_ ?_
  · exact ⟨Nat.zero_le _, Own.nil _ _, rfl⟩
  · exact (.as rfl (by first | rfl | (simp; done) | (congr 1; simp; done) | (congr 1; omega)) .nil)
  · exact (.cons rfl (.cons rfl .nil))
  rintro x ⟨hi, hO, hs⟩
  refine W.keep (.cons (k := 9) rfl (.cons (k := 1) rfl (.cons (k := 3) rfl (.cons (k := 6) rfl (.cons (k := 7) rfl (.cons (k := 8) rfl .nil)))))) (.cons (k := 60) rfl (.cons (k := 107) rfl (.cons (k := 0) rfl (.cons (k := 1) rfl (.cons (k := 2) rfl (.cons (k := 103) rfl (.cons (k := 106) rfl (.cons (k := 131) rfl .nil)))))))) ?_
  refine W.seq ?_
  refine W.seq ?_
  refine W.region ?_
  refine RL.q (Yld.move rfl) rfl ?_
  refine RL.q (Yld.move rfl) rfl ?_
  refine RL.q (Yld.lenSl Try.underlying22 rfl) rfl ?_
  refine RL.q (Yld.bin rfl rfl BinV.lss) rfl ?_
  refine RL.nil ?_
  refine N.next ?_
  first | refine W.condD rfl (fun hc20 => ?_) (fun hc20 => ?_) | (refine W.cond rfl (fun hc20 => ?_) (fun hc20 => ?_) <;> try simp only [Bool.or_eq_true, Bool.and_eq_true, Bool.not_eq_true', Bool.not_eq_false', decide_eq_true_eq, Bool.or_eq_false_iff, Bool.and_eq_false_iff, decide_eq_false_iff_not, beq_iff_eq, beq_eq_false_iff_ne, ne_eq, Decidable.not_not] at hc20)
  ·
    obtain ⟨z, hz, hlz⟩ := iz_at (show x.i < (setL l).length by omega)
    have hsl : x.s.length ≤ x.i := by rw [hs]; exact Nat.le_trans chgR_len (by rw [List.length_take]; omega)
    refine W.skip ?_
    refine N.next ?_
    refine W.keep (.cons (k := 1) rfl (.cons (k := 3) rfl (.cons (k := 6) rfl (.cons (k := 7) rfl (.cons (k := 8) rfl (.cons (k := 9) rfl .nil)))))) (.cons (k := 0) rfl (.cons (k := 1) rfl (.cons (k := 2) rfl (.cons (k := 60) rfl (.cons (k := 103) rfl (.cons (k := 106) rfl (.cons (k := 107) rfl (.cons (k := 131) rfl .nil)))))))) ?_
    refine W.seq ?_
    refine W.block ?_
    refine W.seq ?_
    refine W.seq ?_
    refine W.draw (.q 0 (.q 1 (.q 2 (.q 3 (.q 4 (.q 5 (.q 6 .done))))))) (.cons (k := 0) rfl (.cons (k := 1) rfl (.cons (k := 2) rfl (.cons (k := 60) rfl (.cons (k := 103) rfl (.cons (k := 106) rfl (.cons (k := 107) rfl (.cons (k := 131) rfl .nil)))))))) mix (by kernel_rfl) (by kernel_rfl) ?_
    refine DL.q rfl (Yld.move rfl) rfl ?_
    refine DL.q rfl (Yld.move rfl) rfl ?_
    refine DL.q rfl (Yld.indexRow Try.underlying22 sz3 rfl rfl (by first | assumption | exact Own.sl (by assumption)) (by first | rfl | omega | (simp; done) | (simp; omega)) (by omega) (by first | omega | (simp; done) | (simp; omega))) rfl ?_
    refine DL.q rfl (by first | exact (by first | exact Yld.loadRow1 (cl := 1) Try.underlying3 rfl rfl rfl (by first | assumption | exact Own.sl (by assumption)) (by assumption) | exact Yld.loadRow1 (cl := 2) Try.underlying3 rfl rfl rfl (by first | assumption | exact Own.sl (by assumption)) (by assumption) | exact Yld.loadRow1 (cl := 103) Try.underlying3 rfl rfl rfl (by first | assumption | exact Own.sl (by assumption)) (by assumption) | exact Yld.loadRow1 (cl := 106) Try.underlying3 rfl rfl rfl (by first | assumption | exact Own.sl (by assumption)) (by assumption) | exact Yld.loadRow1 (cl := 131) Try.underlying3 rfl rfl rfl (by first | assumption | exact Own.sl (by assumption)) (by assumption) | exact Yld.loadRow1 (cl := 60) Try.underlying3 rfl rfl rfl (by first | assumption | exact Own.sl (by assumption)) (by assumption) | exact Yld.loadRow1 (cl := 107) Try.underlying3 rfl rfl rfl (by first | assumption | exact Own.sl (by assumption)) (by assumption)) | exact (by first | exact Yld.loadRowF (cl := 1) (j := 0) Try.underlying3 rfl rfl rfl (by first | assumption | exact Own.sl (by assumption)) (by assumption) rfl | exact Yld.loadRowF (cl := 2) (j := 0) Try.underlying3 rfl rfl rfl (by first | assumption | exact Own.sl (by assumption)) (by assumption) rfl | exact Yld.loadRowF (cl := 103) (j := 0) Try.underlying3 rfl rfl rfl (by first | assumption | exact Own.sl (by assumption)) (by assumption) rfl | exact Yld.loadRowF (cl := 106) (j := 0) Try.underlying3 rfl rfl rfl (by first | assumption | exact Own.sl (by assumption)) (by assumption) rfl | exact Yld.loadRowF (cl := 131) (j := 0) Try.underlying3 rfl rfl rfl (by first | assumption | exact Own.sl (by assumption)) (by assumption) rfl | exact Yld.loadRowF (cl := 60) (j := 0) Try.underlying3 rfl rfl rfl (by first | assumption | exact Own.sl (by assumption)) (by assumption) rfl | exact Yld.loadRowF (cl := 107) (j := 0) Try.underlying3 rfl rfl rfl (by first | assumption | exact Own.sl (by assumption)) (by assumption) rfl)) rfl ?_
    refine DL.q rfl (Yld.fieldAddr fo30_0 rfl) rfl ?_
    refine DL.q rfl (Yld.load1 (c := 103) Try.underlying3 rfl rfl rfl (by first | exact single_self _ _ | exact pset_self _ _ _ | assumption) rfl) rfl ?_
    refine DL.q rfl (Yld.bin rfl rfl BinV.eql) rfl ?_
    refine DL.done ?_
    refine N.next ?_
    refine W.keep (.cons (k := 1) rfl (.cons (k := 3) rfl (.cons (k := 6) rfl (.cons (k := 7) rfl (.cons (k := 8) rfl (.cons (k := 9) rfl (.cons (k := 29) rfl .nil))))))) (.cons (k := 0) rfl (.cons (k := 1) rfl (.cons (k := 2) rfl (.cons (k := 60) rfl (.cons (k := 103) rfl (.cons (k := 106) rfl (.cons (k := 107) rfl (.cons (k := 131) rfl .nil)))))))) ?_
    first | refine W.condD rfl (fun hc29 => ?_) (fun hc29 => ?_) | (refine W.cond rfl (fun hc29 => ?_) (fun hc29 => ?_) <;> try simp only [Bool.or_eq_true, Bool.and_eq_true, Bool.not_eq_true', Bool.not_eq_false', decide_eq_true_eq, Bool.or_eq_false_iff, Bool.and_eq_false_iff, decide_eq_false_iff_not, beq_iff_eq, beq_eq_false_iff_ne, ne_eq, Decidable.not_not] at hc29)
    ·
      refine W.exit ?_
      refine N.then_exit ?_
      refine N.block_eq ?_
      refine N.next ?_
      refine W.region ?_
      refine RL.q (Yld.move rfl) rfl ?_
      refine RL.q (Yld.bin rfl rfl (by first | exact BinV.add (by omega) (by omega) | exact BinV.addW)) rfl ?_
      refine RL.q (Yld.assign rfl) rfl ?_
      refine RL.nil ?_
      exact N.famK ⟨x.i + 1, x.H, x.p, x.c, x.s⟩ ⟨⟨by dsimp only; omega, hO, by dsimp only; rw [chgR_take hz, if_pos hc29]; exact hs⟩, by dsimp only; omega⟩ (.as rfl (by first | rfl | (simp; done) | (congr 1; simp; done) | (congr 1; omega)) .nil) (.cons rfl (.cons rfl (.cons rfl (.cons rfl (.cons rfl .nil))))) (.cons rfl (.cons rfl .nil)) (.cons rfl (.cons rfl (.cons rfl (.cons rfl (.cons rfl (.cons rfl .nil))))))
    ·
      refine W.skip ?_
      refine N.next ?_
      refine W.seq ?_
      refine W.region ?_
      refine RL.q (Yld.move rfl) rfl ?_
      refine RL.q (Yld.move rfl) rfl ?_
      refine RL.q (Yld.indexRow Try.underlying22 sz3 rfl rfl (by first | assumption | exact Own.sl (by assumption)) (by first | rfl | omega | (simp; done) | (simp; omega)) (by omega) (by first | omega | (simp; done) | (simp; omega))) rfl ?_
      refine RL.q (by first | exact (by first | exact Yld.loadRow1 (cl := 1) Try.underlying3 rfl rfl rfl (by first | assumption | exact Own.sl (by assumption)) (by assumption) | exact Yld.loadRow1 (cl := 2) Try.underlying3 rfl rfl rfl (by first | assumption | exact Own.sl (by assumption)) (by assumption) | exact Yld.loadRow1 (cl := 103) Try.underlying3 rfl rfl rfl (by first | assumption | exact Own.sl (by assumption)) (by assumption) | exact Yld.loadRow1 (cl := 106) Try.underlying3 rfl rfl rfl (by first | assumption | exact Own.sl (by assumption)) (by assumption) | exact Yld.loadRow1 (cl := 131) Try.underlying3 rfl rfl rfl (by first | assumption | exact Own.sl (by assumption)) (by assumption) | exact Yld.loadRow1 (cl := 60) Try.underlying3 rfl rfl rfl (by first | assumption | exact Own.sl (by assumption)) (by assumption) | exact Yld.loadRow1 (cl := 107) Try.underlying3 rfl rfl rfl (by first | assumption | exact Own.sl (by assumption)) (by assumption)) | exact (by first | exact Yld.loadRowF (cl := 1) (j := 0) Try.underlying3 rfl rfl rfl (by first | assumption | exact Own.sl (by assumption)) (by assumption) rfl | exact Yld.loadRowF (cl := 2) (j := 0) Try.underlying3 rfl rfl rfl (by first | assumption | exact Own.sl (by assumption)) (by assumption) rfl | exact Yld.loadRowF (cl := 103) (j := 0) Try.underlying3 rfl rfl rfl (by first | assumption | exact Own.sl (by assumption)) (by assumption) rfl | exact Yld.loadRowF (cl := 106) (j := 0) Try.underlying3 rfl rfl rfl (by first | assumption | exact Own.sl (by assumption)) (by assumption) rfl | exact Yld.loadRowF (cl := 131) (j := 0) Try.underlying3 rfl rfl rfl (by first | assumption | exact Own.sl (by assumption)) (by assumption) rfl | exact Yld.loadRowF (cl := 60) (j := 0) Try.underlying3 rfl rfl rfl (by first | assumption | exact Own.sl (by assumption)) (by assumption) rfl | exact Yld.loadRowF (cl := 107) (j := 0) Try.underlying3 rfl rfl rfl (by first | assumption | exact Own.sl (by assumption)) (by assumption) rfl)) rfl ?_
      refine RL.q (Yld.move rfl) rfl ?_
      refine RL.q (Yld.max2 rfl rfl) rfl ?_
      refine RL.q (Yld.bin rfl rfl (by first | exact BinV.add (by omega) (by omega) | exact BinV.addW)) rfl ?_
      refine RL.q (Yld.buildP lay94 (.cons rfl rfl (.cons rfl rfl (.cons rfl rfl .nil))) rfl) rfl ?_
      refine RL.e (Eff.alloc 110 zc94) rfl ?_
      rintro _ _ ⟨b10, rfl, rfl⟩
      refine RL.e0 (Eff.storeS (c := 110) _ sz94 rfl rfl rfl rfl rfl rfl rfl (by (try simp only [putAt, List.take, List.drop, List.nil_append, List.cons_append, List.append_nil, List.length_cons, List.length_nil, Nat.add_zero, Nat.zero_add, Nat.reduceAdd]); rfl)) ?_
      rintro _ _ rfl
      refine RL.nil ?_
      refine N.next ?_
      refine W.keep (.cons (k := 1) rfl (.cons (k := 3) rfl (.cons (k := 6) rfl (.cons (k := 7) rfl (.cons (k := 8) rfl (.cons (k := 9) rfl (.cons (k := 10) rfl .nil))))))) (.cons (k := 0) rfl (.cons (k := 1) rfl (.cons (k := 2) rfl (.cons (k := 60) rfl (.cons (k := 103) rfl (.cons (k := 106) rfl (.cons (k := 107) rfl (.cons (k := 110) rfl (.cons (k := 131) rfl .nil))))))))) ?_
      refine W.cutK (ι := Unit) (fun y => True) (fun y => []) (fun y => [(110, single b10 (.cells [.int .i64 (gM last ms z).r, .int .i64 (gM last ms z).nx, .int .i64 (gM last ms z).mt].toArray 94 (0, 0)))]) (.cons (k := 1) rfl (.cons (k := 3) rfl (.cons (k := 6) rfl (.cons (k := 7) rfl (.cons (k := 8) rfl (.cons (k := 9) rfl (.cons (k := 10) rfl .nil))))))) (.cons (k := 0) rfl (.cons (k := 1) rfl (.cons (k := 2) rfl (.cons (k := 60) rfl (.cons (k := 103) rfl (.cons (k := 106) rfl (.cons (k := 107) rfl (.cons (k := 131) rfl .nil)))))))) ?_ ?_
      ·
        refine W.seq ?_
        refine W.draw (.q 0 (.q 1 (.q 2 (.q 3 (.q 4 (.one 5 (.q 6 .done))))))) (.cons (k := 0) rfl (.cons (k := 2) rfl (.cons (k := 60) rfl (.cons (k := 103) rfl (.cons (k := 106) rfl (.cons (k := 107) rfl (.cons (k := 110) rfl (.cons (k := 131) rfl .nil)))))))) mix (by kernel_rfl) (by kernel_rfl) ?_
        refine DL.q rfl (Yld.loadW (c := 103) Try.underlying30 rfl sz30 rfl rfl (by first | exact single_self _ _ | exact pset_self _ _ _ | assumption) rfl) rfl ?_
        refine DL.q rfl (Yld.move rfl) rfl ?_
        refine DL.q rfl (Yld.move rfl) rfl ?_
        refine DL.q rfl (Yld.indexRow Try.underlying22 sz3 rfl rfl (by first | assumption | exact Own.sl (by assumption)) (by first | rfl | omega | (simp; done) | (simp; omega)) (by omega) (by first | omega | (simp; done) | (simp; omega))) rfl ?_
        refine DL.q rfl (by first | exact (by first | exact Yld.loadRow1 (cl := 110) Try.underlying3 rfl rfl rfl (by first | assumption | exact Own.sl (by assumption)) (by assumption) | exact Yld.loadRow1 (cl := 1) Try.underlying3 rfl rfl rfl (by first | assumption | exact Own.sl (by assumption)) (by assumption) | exact Yld.loadRow1 (cl := 2) Try.underlying3 rfl rfl rfl (by first | assumption | exact Own.sl (by assumption)) (by assumption) | exact Yld.loadRow1 (cl := 103) Try.underlying3 rfl rfl rfl (by first | assumption | exact Own.sl (by assumption)) (by assumption) | exact Yld.loadRow1 (cl := 106) Try.underlying3 rfl rfl rfl (by first | assumption | exact Own.sl (by assumption)) (by assumption) | exact Yld.loadRow1 (cl := 131) Try.underlying3 rfl rfl rfl (by first | assumption | exact Own.sl (by assumption)) (by assumption) | exact Yld.loadRow1 (cl := 60) Try.underlying3 rfl rfl rfl (by first | assumption | exact Own.sl (by assumption)) (by assumption) | exact Yld.loadRow1 (cl := 107) Try.underlying3 rfl rfl rfl (by first | assumption | exact Own.sl (by assumption)) (by assumption)) | exact (by first | exact Yld.loadRowF (cl := 110) (j := 0) Try.underlying3 rfl rfl rfl (by first | assumption | exact Own.sl (by assumption)) (by assumption) rfl | exact Yld.loadRowF (cl := 1) (j := 0) Try.underlying3 rfl rfl rfl (by first | assumption | exact Own.sl (by assumption)) (by assumption) rfl | exact Yld.loadRowF (cl := 2) (j := 0) Try.underlying3 rfl rfl rfl (by first | assumption | exact Own.sl (by assumption)) (by assumption) rfl | exact Yld.loadRowF (cl := 103) (j := 0) Try.underlying3 rfl rfl rfl (by first | assumption | exact Own.sl (by assumption)) (by assumption) rfl | exact Yld.loadRowF (cl := 106) (j := 0) Try.underlying3 rfl rfl rfl (by first | assumption | exact Own.sl (by assumption)) (by assumption) rfl | exact Yld.loadRowF (cl := 131) (j := 0) Try.underlying3 rfl rfl rfl (by first | assumption | exact Own.sl (by assumption)) (by assumption) rfl | exact Yld.loadRowF (cl := 60) (j := 0) Try.underlying3 rfl rfl rfl (by first | assumption | exact Own.sl (by assumption)) (by assumption) rfl | exact Yld.loadRowF (cl := 107) (j := 0) Try.underlying3 rfl rfl rfl (by first | assumption | exact Own.sl (by assumption)) (by assumption) rfl)) rfl ?_
        refine DL.one rfl (Eff.call ent74 [1] [1] (.cons rfl (.cons rfl .nil)) (rfind_ct ms _ _ _ hS z) rfl rfl rfl rfl (by rintro _ _ ⟨_, rfl⟩; rfl)) rfl (by rintro _ _ ⟨_, ⟨⟨r, rfl, hr⟩, rfl⟩, rfl⟩; repeat (first | exact .nil | refine .cons rfl ?_)) ?_
        rintro _ _ ⟨_, ⟨⟨r, rfl, hr⟩, rfl⟩, rfl⟩
        refine DL.q rfl (Yld.assign rfl) rfl ?_
        refine DL.done ?_
        refine N.next ?_
        refine W.keep (.cons (k := 1) rfl (.cons (k := 3) rfl (.cons (k := 6) rfl (.cons (k := 7) rfl (.cons (k := 8) rfl (.cons (k := 9) rfl (.cons (k := 10) rfl (.cons (k := 11) rfl .nil)))))))) (.cons (k := 0) rfl (.cons (k := 1) rfl (.cons (k := 2) rfl (.cons (k := 60) rfl (.cons (k := 103) rfl (.cons (k := 106) rfl (.cons (k := 107) rfl (.cons (k := 110) rfl (.cons (k := 131) rfl .nil))))))))) ?_
        refine W.seq ?_
        refine W.region ?_
        refine RL.q (Yld.move rfl) rfl ?_
        refine RL.q (Yld.bin rfl rfl BinV.geq) rfl ?_
        refine RL.nil ?_
        refine N.next ?_
        first | refine W.condD rfl (fun hc45 => ?_) (fun hc45 => ?_) | (refine W.cond rfl (fun hc45 => ?_) (fun hc45 => ?_) <;> try simp only [Bool.or_eq_true, Bool.and_eq_true, Bool.not_eq_true', Bool.not_eq_false', decide_eq_true_eq, Bool.or_eq_false_iff, Bool.and_eq_false_iff, decide_eq_false_iff_not, beq_iff_eq, beq_eq_false_iff_ne, ne_eq, Decidable.not_not] at hc45)
        ·
          obtain ⟨i, w, rfl, hw, hfw⟩ : ∃ (i : Nat) (w : Mb), r = i ∧ ms[i]? = some w ∧ fnd ms z = some w := by
            rcases hr with ⟨h, _⟩ | h
            · omega
            · exact h
          have hil := (List.getElem?_eq_some_iff.1 hw).1
          have hlw : (ms.map Mb.c)[i]? = some [.int .i64 w.r, .int .i64 w.nx, .int .i64 w.mt] := by simp [hw, Mb.c]
          refine W.region ?_
          refine RL.q (Yld.fieldAddr fo30_1 rfl) rfl ?_
          refine RL.q (Yld.load1 (c := 103) Try.underlying28 rfl rfl rfl (by first | exact single_self _ _ | exact pset_self _ _ _ | assumption) rfl) rfl ?_
          refine RL.q (Yld.move rfl) rfl ?_
          refine RL.q (Yld.indexRow Try.underlying28 sz94 rfl rfl (by first | assumption | exact Own.sl (by assumption)) (by first | rfl | omega | (simp; done) | (simp; omega)) (by omega) (by first | omega | (simp; done) | (simp; omega))) rfl ?_
          refine RL.q (by first | exact Yld.loadRow (cl := 1) Try.underlying94 rfl sz94 rfl rfl (by first | assumption | exact Own.sl (by assumption)) (by assumption) | exact Yld.loadRow (cl := 110) Try.underlying94 rfl sz94 rfl rfl (by first | assumption | exact Own.sl (by assumption)) (by assumption) | exact Yld.loadRow (cl := 2) Try.underlying94 rfl sz94 rfl rfl (by first | assumption | exact Own.sl (by assumption)) (by assumption) | exact Yld.loadRow (cl := 103) Try.underlying94 rfl sz94 rfl rfl (by first | assumption | exact Own.sl (by assumption)) (by assumption) | exact Yld.loadRow (cl := 106) Try.underlying94 rfl sz94 rfl rfl (by first | assumption | exact Own.sl (by assumption)) (by assumption) | exact Yld.loadRow (cl := 131) Try.underlying94 rfl sz94 rfl rfl (by first | assumption | exact Own.sl (by assumption)) (by assumption) | exact Yld.loadRow (cl := 60) Try.underlying94 rfl sz94 rfl rfl (by first | assumption | exact Own.sl (by assumption)) (by assumption) | exact Yld.loadRow (cl := 107) Try.underlying94 rfl sz94 rfl rfl (by first | assumption | exact Own.sl (by assumption)) (by assumption)) rfl ?_
          refine RL.e0 (Eff.storeS (c := 110) _ sz94 rfl rfl rfl rfl rfl rfl rfl (by (try simp only [putAt, List.take, List.drop, List.nil_append, List.cons_append, List.append_nil, List.length_cons, List.length_nil, Nat.add_zero, Nat.zero_add, Nat.reduceAdd]); rfl)) ?_
          rintro _ _ rfl
          refine RL.nil ?_
          rw [show gM last ms z = w by unfold gM; rw [hfw]]
          exact N.famK () trivial .nil (.cons rfl (.cons rfl (.cons rfl (.cons rfl (.cons rfl (.cons rfl (.cons rfl .nil))))))) (.cons rfl .nil) (.cons rfl (.cons rfl (.cons rfl (.cons rfl (.cons rfl (.cons rfl (.cons rfl (.cons rfl .nil))))))))
        ·
          have hno : fnd ms z = none := by
            rcases hr with ⟨_, h⟩ | ⟨i, w, h, _⟩
            · exact h
            · omega
          refine W.skip ?_
          rw [show gM last ms z = ⟨z, max 0 last + 1, 0⟩ by unfold gM; rw [hno]]
          exact N.famK () trivial .nil (.cons rfl (.cons rfl (.cons rfl (.cons rfl (.cons rfl (.cons rfl (.cons rfl .nil))))))) (.cons rfl .nil) (.cons rfl (.cons rfl (.cons rfl (.cons rfl (.cons rfl (.cons rfl (.cons rfl (.cons rfl .nil))))))))
      rintro _ _
      refine W.keep (.cons (k := 1) rfl (.cons (k := 3) rfl (.cons (k := 6) rfl (.cons (k := 7) rfl (.cons (k := 8) rfl (.cons (k := 9) rfl (.cons (k := 10) rfl .nil))))))) (.cons (k := 110) rfl (.cons (k := 0) rfl (.cons (k := 1) rfl (.cons (k := 2) rfl (.cons (k := 60) rfl (.cons (k := 103) rfl (.cons (k := 106) rfl (.cons (k := 107) rfl (.cons (k := 131) rfl .nil))))))))) ?_
      refine W.region ?_
      refine RL.q (Yld.fieldAddr fo30_1 rfl) rfl ?_
      refine RL.q (Yld.load1 (c := 107) Try.underlying28 rfl rfl rfl (by first | exact single_self _ _ | exact pset_self _ _ _ | assumption) rfl) rfl ?_
      refine RL.q (Yld.loadW (c := 110) Try.underlying94 rfl sz94 rfl rfl (by first | exact single_self _ _ | exact pset_self _ _ _ | assumption) rfl) rfl ?_
      refine RL.e (Eff.buildSlice 154 Try.underlying28 sz94 zc94 rfl rfl (.cons rfl rfl .nil) rfl) rfl ?_
      rintro _ _ ⟨b54, rfl, rfl⟩
      refine RL.e (Eff.appendE (tc := 60) (sc := 154) (ms := [gM last ms z]) Mb.c Try.underlying28 el94 rfl rfl rfl rfl hO rfl (mb_single rfl) rfl (fun a _ => a.c_one) (by decide) (by first | (simp; done) | (simp; omega)) (by first | (simp [maxLen]; done) | (simp [maxLen]; omega))) rfl ?_
      rintro _ _ ⟨Ha, pa, ca, rfl, hOa, rfl⟩
      refine RL.q (Yld.fieldAddr fo30_1 rfl) rfl ?_
      refine RL.e0 (Eff.storeS (c := 107) _ sz28 rfl rfl rfl rfl rfl rfl rfl (by (try simp only [putAt, List.take, List.drop, List.nil_append, List.cons_append, List.append_nil, List.length_cons, List.length_nil, Nat.add_zero, Nat.zero_add, Nat.reduceAdd]); rfl)) ?_
      rintro _ _ rfl
      refine RL.nil ?_
      refine N.block_normal ?_
      refine N.next ?_
      refine W.keep (.cons (k := 1) rfl (.cons (k := 3) rfl (.cons (k := 6) rfl (.cons (k := 7) rfl (.cons (k := 8) rfl (.cons (k := 9) rfl .nil)))))) (.cons (k := 0) rfl (.cons (k := 1) rfl (.cons (k := 2) rfl (.cons (k := 60) rfl (.cons (k := 103) rfl (.cons (k := 106) rfl (.cons (k := 107) rfl (.cons (k := 110) rfl (.cons (k := 131) rfl (.cons (k := 154) rfl .nil)))))))))) ?_
      refine W.region ?_
      refine RL.q (Yld.move rfl) rfl ?_
      refine RL.q (Yld.bin rfl rfl (by first | exact BinV.add (by omega) (by omega) | exact BinV.addW)) rfl ?_
      refine RL.q (Yld.assign rfl) rfl ?_
      refine RL.nil ?_
      exact N.famK ⟨x.i + 1, Ha, pa, ca, x.s ++ [gM last ms z]⟩ ⟨⟨by dsimp only; omega, hOa, by dsimp only; rw [chgR_take hz, if_neg hc29, ← hs]⟩, by dsimp only; omega⟩ (.as rfl (by first | rfl | (simp; done) | (congr 1; simp; done) | (congr 1; omega)) .nil) (.cons rfl (.cons rfl (.cons rfl (.cons rfl (.cons rfl .nil))))) (.cons rfl (.cons rfl .nil)) (.cons rfl (.cons rfl (.cons rfl (.cons rfl (.cons rfl (.cons rfl .nil))))))
  ·
    have hend : x.i = (setL l).length := by omega
    rw [hend, List.take_length, chgR_all] at hs
    refine W.exit ?_
    refine N.then_exit ?_
    refine N.then_exit ?_
    refine N.block_eq ?_
    refine N.next ?_
    refine W.keep (.cons (k := 6) rfl (.cons (k := 7) rfl .nil)) (.cons (k := 0) rfl (.cons (k := 1) rfl (.cons (k := 2) rfl (.cons (k := 60) rfl (.cons (k := 103) rfl (.cons (k := 106) rfl (.cons (k := 107) rfl (.cons (k := 131) rfl .nil)))))))) ?_
    refine W.seq ?_
    refine W.region ?_
    refine RL.q (Yld.loadW (c := 107) Try.underlying30 rfl sz30 rfl rfl (by first | exact single_self _ _ | exact pset_self _ _ _ | assumption) rfl) rfl ?_
    refine RL.e0 (Eff.storeS (c := 106) _ sz30 rfl rfl rfl rfl rfl rfl rfl (by (try simp only [putAt, List.take, List.drop, List.nil_append, List.cons_append, List.append_nil, List.length_cons, List.length_nil, Nat.add_zero, Nat.zero_add, Nat.reduceAdd]); rfl)) ?_
    rintro _ _ rfl
    refine RL.nil ?_
    refine N.next ?_
    refine W.ret ?_
    exact N.retBy [60, 2] (.cons (by first | exact .cell (c := 106) rfl rfl (fun w hs => run_loadVarA Try.underlying30 rfl sz30 rfl (fun j u hj => by rw [Nat.zero_add, PH.sub.cell hs (by first | exact single_self _ _ | exact pset_self _ _ _ | assumption)]; exact hj))) .nil) rfl rfl rfl rfl ⟨x.H, x.p, x.c, by rw [← hs]; rfl, by rw [← hs]; exact hO.sl, rfl⟩

set_option maxRecDepth 100000 in
set_option maxHeartbeats 400000 in
theorem rnew39_ct (last : Int) (hlast : last ≤ 1099511627776) (l : List Int) (H3 : PH) (q : Option Addr) (d : Nat) (hl : Sl H3 q d 1 (iz l)) (hb : l.length ≤ 1000000) : Ct Try.prog 12 [.int .i64 1, .int .i64 last, .slice q l.length d] [H3] (fun v Hs => ∃ H' p' c', v = .agg [.int .i64 1, .slice p' (chg 1 last [] l).length c'].toArray ∧ Sl H' p' c' 3 ((chg 1 last [] l).map Mb.c) ∧ Hs = [H', H3]) := by
  refine Ct.body Try.func12 rfl Try.ntmps12 rfl ?_
  intro E F
  refine W.seq ?_
  refine W.region ?_
  refine RL.e (Eff.alloc 106 zc30) rfl ?_
  rintro _ _ ⟨b6, rfl, rfl⟩
  refine RL.nil ?_
  refine N.next ?_
  refine W.seq ?_
  refine W.imp (Imp.empty _ 60) ?_
  refine W.region ?_
  refine RL.q (Yld.move rfl) rfl ?_
  refine RL.q (Yld.buildP lay30 (.cons rfl rfl .nil) rfl) rfl ?_
  refine RL.q (Yld.move rfl) rfl ?_
  refine RL.q (Yld.move rfl) rfl ?_
  refine RL.e (Eff.call ent43 [60, 1] [60, 1] (.cons rfl (.cons rfl (.cons rfl .nil))) (rchange_ct [] emp none 0 (Own.nil 0 3).sl last hlast l _ _ _ hl hb) rfl rfl rfl rfl (by rintro _ _ ⟨_, _, _, _, _, rfl⟩; rfl)) rfl ?_
  rintro _ _ ⟨_, ⟨Hn, pn, cn, rfl, hSn, rfl⟩, rfl⟩
  refine RL.e0 (Eff.storeS (c := 106) _ sz30 rfl rfl rfl rfl rfl rfl rfl (by (try simp only [putAt, List.take, List.drop, List.nil_append, List.cons_append, List.append_nil, List.length_cons, List.length_nil, Nat.add_zero, Nat.zero_add, Nat.reduceAdd]); rfl)) ?_
  rintro _ _ rfl
  refine RL.nil ?_
  refine N.next ?_
  refine W.keep (.cons (k := 6) rfl .nil) (.cons (k := 0) rfl (.cons (k := 1) rfl (.cons (k := 60) rfl (.cons (k := 106) rfl .nil)))) ?_
  refine W.ret ?_
  exact N.retBy [60, 1] (.cons (by first | exact .cell (c := 106) rfl rfl (fun w hs => run_loadVarA Try.underlying30 rfl sz30 rfl (fun j u hj => by rw [Nat.zero_add, PH.sub.cell hs (by first | exact single_self _ _ | exact pset_self _ _ _ | assumption)]; exact hj))) .nil) rfl rfl rfl rfl ⟨_, _, _, rfl, hSn, rfl⟩

set_option maxRecDepth 100000 in
set_option maxHeartbeats 400000 in
theorem rcaught_ct (ms : List Mb) (H1 : PH) (p : Option Addr) (c : Nat) (hS : Sl H1 p c 3 (ms.map Mb.c)) (hb : ms.length ≤ 1000) (k : Int) : Ct Try.prog 46 [.agg [.int .i64 1, .slice p ms.length c].toArray, .int .i64 k] [H1] (fun v Hs => ∃ H' p' c', v = .slice p' (caught 1 k ms).length c' ∧ Own H' p' c' 3 1 (iz (caught 1 k ms)) ∧ Hs = [H1, H']) := by
  refine Ct.body Try.func46 rfl Try.ntmps46 rfl ?_
  intro E F
  have hmx := hS.len_le
  simp only [List.length_map, maxLen] at hmx
  refine W.seq ?_
  refine W.region ?_
  refine RL.e (Eff.box 102 _ rfl rfl) rfl ?_
  rintro _ _ ⟨b2, rfl, rfl⟩
  refine RL.q (Yld.assign rfl) rfl ?_
  refine RL.nil ?_
  refine N.next ?_
  refine W.seq ?_
  refine W.region ?_
  refine RL.q (Yld.fieldAddr fo30_0 rfl) rfl ?_
  refine RL.q (Yld.load1 (c := 102) Try.underlying3 rfl rfl rfl (by first | exact single_self _ _ | exact pset_self _ _ _ | assumption) rfl) rfl ?_
  refine RL.e (Eff.buildSlice 109 Try.underlying22 sz3 zc3 rfl rfl (.cons rfl rfl .nil) rfl) rfl ?_
  rintro _ _ ⟨b9, rfl, rfl⟩
  refine RL.q (Yld.assign rfl) rfl ?_
  refine RL.nil ?_
  refine N.next ?_
  refine W.keep (.cons (k := 1) rfl (.cons (k := 2) rfl (.cons (k := 5) rfl .nil))) (.cons (k := 0) rfl (.cons (k := 1) rfl (.cons (k := 102) rfl (.cons (k := 109) rfl .nil)))) ?_
  refine W.seq ?_
  refine W.seq ?_
  refine W.region ?_
  refine RL.q (Yld.assign rfl) rfl ?_
  refine RL.nil ?_
  refine N.next ?_
  refine W.block ?_
  refine W.loopK (ι := CI) (fun y => (y.i ≤ ms.length ∧ Own y.H y.p y.c 3 1 (iz (cts k ms y.i)))) (fun y => [(5, .slice y.p (cts k ms y.i).length y.c), (6, .int .i64 (y.i : Nat))]) (fun y => [(109, y.H)]) (fun y => ms.length - y.i) (.cons (k := 1) rfl (.cons (k := 2) rfl .nil)) (.cons (k := 0) rfl (.cons (k := 1) rfl (.cons (k := 102) rfl .nil))) ⟨0, single b9 (.cells [.int .i64 1].toArray 3 (0, 0)), some ⟨b9, 0, none⟩, 1⟩ ?_ ?_ ?_ ?_
  · exact ⟨Nat.zero_le _, Own.one (l := [Value.int .i64 1]) rfl (by simp [Value.oneCell']) rfl⟩
  · exact (.as rfl (by first | rfl | (simp; done) | (congr 1; simp; done) | (congr 1; omega)) (.as rfl (by first | rfl | (simp; done) | (congr 1; simp; done) | (congr 1; omega)) .nil))
  · exact (.cons rfl .nil)
  rintro y ⟨hi, hO⟩
  refine W.keep (.cons (k := 5) rfl (.cons (k := 6) rfl (.cons (k := 1) rfl (.cons (k := 2) rfl .nil)))) (.cons (k := 109) rfl (.cons (k := 0) rfl (.cons (k := 1) rfl (.cons (k := 102) rfl .nil)))) ?_
  refine W.seq ?_
  refine W.seq ?_
  refine W.region ?_
  refine RL.q (Yld.move rfl) rfl ?_
  refine RL.q (Yld.fieldAddr fo30_1 rfl) rfl ?_
  refine RL.q (Yld.load1 (c := 102) Try.underlying28 rfl rfl rfl (by first | exact single_self _ _ | exact pset_self _ _ _ | assumption) rfl) rfl ?_
  refine RL.q (Yld.lenSl Try.underlying28 rfl) rfl ?_
  refine RL.q (Yld.bin rfl rfl BinV.lss) rfl ?_
  refine RL.nil ?_
  refine N.next ?_
  refine W.keep (.cons (k := 1) rfl (.cons (k := 2) rfl (.cons (k := 5) rfl (.cons (k := 6) rfl (.cons (k := 14) rfl .nil))))) (.cons (k := 0) rfl (.cons (k := 1) rfl (.cons (k := 102) rfl (.cons (k := 109) rfl .nil)))) ?_
  first | refine W.condD rfl (fun hc14 => ?_) (fun hc14 => ?_) | (refine W.cond rfl (fun hc14 => ?_) (fun hc14 => ?_) <;> try simp only [Bool.or_eq_true, Bool.and_eq_true, Bool.not_eq_true', Bool.not_eq_false', decide_eq_true_eq, Bool.or_eq_false_iff, Bool.and_eq_false_iff, decide_eq_false_iff_not, beq_iff_eq, beq_eq_false_iff_ne, ne_eq, Decidable.not_not] at hc14)
  ·
    obtain ⟨x, hx⟩ : ∃ x, ms[y.i]? = some x := ⟨_, List.getElem?_eq_getElem (show y.i < ms.length by omega)⟩
    have hlx : (ms.map Mb.c)[y.i]? = some [.int .i64 x.r, .int .i64 x.nx, .int .i64 x.mt] := by simp [hx, Mb.c]
    have hcs := cts_succ (c := k) hx
    have hcl := cts_len (c := k) (ms := ms) (j := y.i)
    refine W.skip ?_
    refine N.next ?_
    refine W.seq ?_
    refine W.block ?_
    refine W.seq ?_
    refine W.region ?_
    refine RL.q (Yld.fieldAddr fo30_1 rfl) rfl ?_
    refine RL.q (Yld.load1 (c := 102) Try.underlying28 rfl rfl rfl (by first | exact single_self _ _ | exact pset_self _ _ _ | assumption) rfl) rfl ?_
    refine RL.q (Yld.move rfl) rfl ?_
    refine RL.q (Yld.indexRow Try.underlying28 sz94 rfl rfl (by first | assumption | exact Own.sl (by assumption)) (by first | rfl | omega | (simp; done) | (simp; omega)) (by omega) (by first | omega | (simp; done) | (simp; omega))) rfl ?_
    refine RL.q (Yld.fieldAddr fo94_2 rfl) rfl ?_
    refine RL.q (by first | exact Yld.loadRowF (cl := 1) (j := 2) Try.underlying3 rfl rfl rfl (by first | assumption | exact Own.sl (by assumption)) (by assumption) rfl | exact Yld.loadRowF (cl := 102) (j := 2) Try.underlying3 rfl rfl rfl (by first | assumption | exact Own.sl (by assumption)) (by assumption) rfl | exact Yld.loadRowF (cl := 109) (j := 2) Try.underlying3 rfl rfl rfl (by first | assumption | exact Own.sl (by assumption)) (by assumption) rfl) rfl ?_
    refine RL.q (Yld.move rfl) rfl ?_
    refine RL.q (Yld.bin rfl rfl BinV.geq) rfl ?_
    refine RL.nil ?_
    refine N.next ?_
    refine W.keep (.cons (k := 1) rfl (.cons (k := 2) rfl (.cons (k := 5) rfl (.cons (k := 6) rfl (.cons (k := 24) rfl .nil))))) (.cons (k := 0) rfl (.cons (k := 1) rfl (.cons (k := 102) rfl (.cons (k := 109) rfl .nil)))) ?_
    first | refine W.condD rfl (fun hc24 => ?_) (fun hc24 => ?_) | (refine W.cond rfl (fun hc24 => ?_) (fun hc24 => ?_) <;> try simp only [Bool.or_eq_true, Bool.and_eq_true, Bool.not_eq_true', Bool.not_eq_false', decide_eq_true_eq, Bool.or_eq_false_iff, Bool.and_eq_false_iff, decide_eq_false_iff_not, beq_iff_eq, beq_eq_false_iff_ne, ne_eq, Decidable.not_not] at hc24)
    ·
      rw [if_pos hc24] at hcs
      refine W.region ?_
      refine RL.q (Yld.move rfl) rfl ?_
      refine RL.q (Yld.fieldAddr fo30_1 rfl) rfl ?_
      refine RL.q (Yld.load1 (c := 102) Try.underlying28 rfl rfl rfl (by first | exact single_self _ _ | exact pset_self _ _ _ | assumption) rfl) rfl ?_
      refine RL.q (Yld.move rfl) rfl ?_
      refine RL.q (Yld.indexRow Try.underlying28 sz94 rfl rfl (by first | assumption | exact Own.sl (by assumption)) (by first | rfl | omega | (simp; done) | (simp; omega)) (by omega) (by first | omega | (simp; done) | (simp; omega))) rfl ?_
      refine RL.q (Yld.fieldAddr fo94_0 rfl) rfl ?_
      refine RL.q (by first | exact (by first | exact Yld.loadRow1 (cl := 1) Try.underlying3 rfl rfl rfl (by first | assumption | exact Own.sl (by assumption)) (by assumption) | exact Yld.loadRow1 (cl := 102) Try.underlying3 rfl rfl rfl (by first | assumption | exact Own.sl (by assumption)) (by assumption) | exact Yld.loadRow1 (cl := 109) Try.underlying3 rfl rfl rfl (by first | assumption | exact Own.sl (by assumption)) (by assumption)) | exact (by first | exact Yld.loadRowF (cl := 1) (j := 0) Try.underlying3 rfl rfl rfl (by first | assumption | exact Own.sl (by assumption)) (by assumption) rfl | exact Yld.loadRowF (cl := 102) (j := 0) Try.underlying3 rfl rfl rfl (by first | assumption | exact Own.sl (by assumption)) (by assumption) rfl | exact Yld.loadRowF (cl := 109) (j := 0) Try.underlying3 rfl rfl rfl (by first | assumption | exact Own.sl (by assumption)) (by assumption) rfl)) rfl ?_
      refine RL.e (Eff.buildSlice 132 Try.underlying22 sz3 zc3 rfl rfl (.cons rfl rfl .nil) rfl) rfl ?_
      rintro _ _ ⟨b32, rfl, rfl⟩
      refine RL.e (Eff.appendE (tc := 109) (sc := 132) (fun z : Int => [Value.int .i64 z]) Try.underlying22 el3 rfl rfl rfl rfl hO rfl (iz_single rfl) rfl (iz_one1 _) (by decide) (by first | (simp; done) | (simp; omega)) (by first | (simp [maxLen]; done) | (simp [maxLen]; omega))) rfl ?_
      rintro _ _ ⟨Ha, pa, ca, rfl, hOa, rfl⟩
      refine RL.q (Yld.assign rfl) rfl ?_
      refine RL.nil ?_
      refine N.block_normal ?_
      refine N.next ?_
      refine W.keep (.cons (k := 1) rfl (.cons (k := 2) rfl (.cons (k := 5) rfl (.cons (k := 6) rfl .nil)))) (.cons (k := 0) rfl (.cons (k := 1) rfl (.cons (k := 102) rfl (.cons (k := 109) rfl (.cons (k := 132) rfl .nil))))) ?_
      refine W.region ?_
      refine RL.q (Yld.move rfl) rfl ?_
      refine RL.q (Yld.bin rfl rfl (by first | exact BinV.add (by omega) (by omega) | exact BinV.addW)) rfl ?_
      refine RL.q (Yld.assign rfl) rfl ?_
      refine RL.nil ?_
      exact N.famK ⟨y.i + 1, Ha, pa, ca⟩ ⟨⟨by dsimp only; omega, by dsimp only; rw [hcs]; exact hOa⟩, by dsimp only; omega⟩ (.as rfl (by show Value.slice _ _ _ = Value.slice _ _ _; rw [hcs]) (.as rfl (by first | rfl | (simp; done) | (congr 1; simp; done) | (congr 1; omega)) .nil)) (.cons rfl (.cons rfl .nil)) (.cons rfl .nil) (.cons rfl (.cons rfl (.cons rfl .nil)))
    ·
      rw [if_neg hc24] at hcs
      refine W.skip ?_
      refine N.block_normal ?_
      refine N.next ?_
      refine W.region ?_
      refine RL.q (Yld.move rfl) rfl ?_
      refine RL.q (Yld.bin rfl rfl (by first | exact BinV.add (by omega) (by omega) | exact BinV.addW)) rfl ?_
      refine RL.q (Yld.assign rfl) rfl ?_
      refine RL.nil ?_
      exact N.famK ⟨y.i + 1, y.H, y.p, y.c⟩ ⟨⟨by dsimp only; omega, by dsimp only; rw [hcs]; exact hO⟩, by dsimp only; omega⟩ (.as rfl (by show Value.slice _ _ _ = Value.slice _ _ _; rw [hcs]) (.as rfl (by first | rfl | (simp; done) | (congr 1; simp; done) | (congr 1; omega)) .nil)) (.cons rfl (.cons rfl .nil)) (.cons rfl .nil) (.cons rfl (.cons rfl (.cons rfl .nil)))
  ·
    have hend : y.i = ms.length := by omega
    have hcl := cts_len (c := k) (ms := ms) (j := y.i)
    have hca := cts_all (c := k) hend
    refine W.exit ?_
    refine N.then_exit ?_
    refine N.then_exit ?_
    refine N.block_eq ?_
    refine N.next ?_
    refine W.keep (.cons (k := 5) rfl .nil) (.cons (k := 0) rfl (.cons (k := 1) rfl (.cons (k := 102) rfl (.cons (k := 109) rfl .nil)))) ?_
    refine W.seq ?_
    refine W.region ?_
    refine RL.q (Yld.move rfl) rfl ?_
    refine RL.e (Eff.call ent36 [109] [109, 131] (.cons rfl .nil) (rset_ct _ _ _ _ hO.sl (by omega)) rfl rfl rfl rfl (by rintro _ _ ⟨_, _, _, _, _, rfl⟩; rfl)) rfl ?_
    rintro _ _ ⟨_, ⟨Hs1, ps, cs, rfl, hOs, rfl⟩, rfl⟩
    refine RL.q (Yld.assign rfl) rfl ?_
    refine RL.nil ?_
    refine N.next ?_
    refine W.ret ?_
    exact N.retBy [1, 131] (.cons (.tmp rfl) .nil) rfl rfl rfl rfl ⟨_, _, _, by rw [hca]; rfl, by rw [← hca]; exact hOs, rfl⟩

theorem Rep.len_eq {enc : Int → Value} {es : Array MapEntry} {ck : Nat} {m : List (Int × Value)} {ms : List Mb} (hM : MapP enc es ck m) (hR : MR m ms) (hK : MOK ms) : m.length = ms.length := by
  have h1 : (m.map (·.1)).Perm (ms.map (·.r)) := (List.perm_ext_iff_of_nodup hM.nodup (hK.sorted.imp (fun h => by omega))).2 fun k => by
    have h2 : (mget m k).isSome = (fnd ms k).isSome := hR.ok k
    constructor
    · intro hk
      obtain ⟨p, hp, rfl⟩ := List.mem_map.1 hk
      obtain ⟨i, hi⟩ := List.getElem?_of_mem hp
      rw [mget_at hM.nodup hi] at h2
      obtain ⟨x, hx⟩ := Option.isSome_iff_exists.1 h2.symm
      exact List.mem_map.2 ⟨x, (fnd_some hx).1, (fnd_some hx).2⟩
    · intro hk
      obtain ⟨x, hx, rfl⟩ := List.mem_map.1 hk
      rw [fnd_mem hK.sorted hx] at h2
      obtain ⟨v, hv⟩ := Option.isSome_iff_exists.1 h2
      exact List.mem_map.2 ⟨_, mget_mem hv, rfl⟩
  simpa using h1.length_eq
theorem Rep.caught_srt {m : List (Int × Value)} {ms : List Mb} {c : Int} {s done : List Int} (hR : MR m ms) (hK : MOK ms) (hall : ∀ p ∈ m, p.1 ∈ done) (hn : s.Nodup) (hm : ∀ z, z ∈ s ↔ z = 1 ∨ (z ∈ done ∧ ∃ x, fnd ms z = some x ∧ c ≤ x.mt)) : srt s = caught 1 c ms := by
  have hm2 : ∀ z, z ∈ s ↔ z ∈ (1 :: (ms.filter fun x => decide (c ≤ x.mt)).map (·.r)) := fun z => by
    rw [hm, mem_caught hK]
    constructor
    · exact fun h => h.imp id (fun h => h.2)
    · rintro (h | ⟨x, hx, h⟩)
      · exact .inl h
      · have h3 := hR z
        rw [hx] at h3
        exact .inr ⟨hall _ (mget_mem h3), x, hx, h⟩
  refine srt_set hn (fun z hz => ?_) hm2
  rcases (hm z).1 hz with h | ⟨_, x, hx, _⟩
  · omega
  · have := hK.pos x (fnd_some hx).1
    rw [(fnd_some hx).2] at this; exact this.1
theorem srt_nd {l : List Int} : True := trivial

theorem Rep.nodup_snoc {l : List Int} {a : Int} (h : l.Nodup) (ha : a ∉ l) : (l ++ [a]).Nodup := by
  rw [List.nodup_append]
  exact ⟨h, by simp, fun x hx y hy e => by simp at hy; subst hy; subst e; exact ha hx⟩
theorem Rep.snoc_iff {ms : List Mb} {kk k z : Int} {y : Mb} {done : List Int} (hy : fnd ms kk = some y) (h : k ≤ y.mt) : ((z = 1 ∨ (z ∈ done ∧ ∃ y, fnd ms z = some y ∧ k ≤ y.mt)) ∨ z = kk) ↔ z = 1 ∨ (z ∈ kk :: done ∧ ∃ y, fnd ms z = some y ∧ k ≤ y.mt) := by
  rw [List.mem_cons]
  constructor
  · rintro ((h1 | ⟨h1, h2⟩) | rfl)
    · exact .inl h1
    · exact .inr ⟨.inr h1, h2⟩
    · exact .inr ⟨.inl rfl, y, hy, h⟩
  · rintro (h1 | ⟨h1 | h1, h2⟩)
    · exact .inl (.inl h1)
    · exact .inr h1
    · exact .inl (.inr ⟨h1, h2⟩)
theorem Rep.skip_iff {ms : List Mb} {kk k z : Int} {y : Mb} {done : List Int} (hy : fnd ms kk = some y) (h : ¬ k ≤ y.mt) : (z = 1 ∨ (z ∈ done ∧ ∃ y, fnd ms z = some y ∧ k ≤ y.mt)) ↔ z = 1 ∨ (z ∈ kk :: done ∧ ∃ y, fnd ms z = some y ∧ k ≤ y.mt) := by
  rw [List.mem_cons]
  constructor
  · exact fun h1 => h1.imp id (fun h2 => ⟨.inr h2.1, h2.2⟩)
  · rintro (h1 | ⟨h1 | h1, y2, h2, h3⟩)
    · exact .inl h1
    · subst h1; rw [hy] at h2; cases h2; exact absurd h3 h
    · exact .inr ⟨h1, y2, h2, h3⟩

set_option maxRecDepth 100000 in
set_option maxHeartbeats 1600000 in
theorem pcaught_ct (bp bm : Nat) (es : Array MapEntry) (ck : Nat) (m : List (Int × Value)) (ms : List Mb) (hM : MapP (fun a : Int => Value.int .i64 a) es ck m) (hR : MR m ms) (hK : MOK ms) (k : Int) : Ct Try.prog 34 [.pointer (some ⟨bp, 0, none⟩), .int .i64 k] [single bp (.cells [.int .i64 1, .map (some bm)].toArray 90 (0, 0)), single bm (.map es ck)] (fun v Hs => ∃ H' p' c', v = .slice p' (caught 1 k ms).length c' ∧ Own H' p' c' 3 1 (iz (caught 1 k ms)) ∧ Hs = [single bp (.cells [.int .i64 1, .map (some bm)].toArray 90 (0, 0)), single bm (.map es ck), H']) := by
  refine Ct.body Try.func34 rfl Try.ntmps34 rfl ?_
  intro E F
  have hle := len_eq hM hR hK
  have hlm := hK.len
  refine W.seq ?_
  refine W.region ?_
  refine RL.q (Yld.assign rfl) rfl ?_
  refine RL.nil ?_
  refine N.next ?_
  refine W.seq ?_
  refine W.region ?_
  refine RL.q (Yld.move rfl) rfl ?_
  refine RL.q (Yld.nilP rfl) rfl ?_
  refine RL.q (Yld.fieldAddr fo90_0 rfl) rfl ?_
  refine RL.q (Yld.load1 (c := 1) Try.underlying3 rfl rfl rfl (by first | exact single_self _ _ | exact pset_self _ _ _ | assumption) rfl) rfl ?_
  refine RL.e (Eff.buildSlice 112 Try.underlying22 sz3 zc3 rfl rfl (.cons rfl rfl .nil) rfl) rfl ?_
  rintro _ _ ⟨b12, rfl, rfl⟩
  refine RL.q (Yld.assign rfl) rfl ?_
  refine RL.nil ?_
  refine N.next ?_
  refine W.keep (.cons (k := 0) rfl (.cons (k := 1) rfl (.cons (k := 5) rfl .nil))) (.cons (k := 0) rfl (.cons (k := 1) rfl (.cons (k := 2) rfl (.cons (k := 112) rfl .nil)))) ?_
  refine W.seq ?_
  refine W.seq ?_
  refine W.region ?_
  refine RL.q (Yld.move rfl) rfl ?_
  refine RL.q (Yld.nilP rfl) rfl ?_
  refine RL.q (Yld.fieldAddr fo90_1 rfl) rfl ?_
  refine RL.q (Yld.load1 (c := 1) Try.underlying88 rfl rfl rfl (by first | exact single_self _ _ | exact pset_self _ _ _ | assumption) rfl) rfl ?_
  refine RL.e (Eff.range 117 (c := 2) Try.underlying88 rfl rfl) rfl ?_
  rintro _ _ ⟨r17, rfl, rfl⟩
  refine RL.nil ?_
  refine N.next ?_
  refine W.keep (.cons (k := 1) rfl (.cons (k := 5) rfl (.cons (k := 17) rfl .nil))) (.cons (k := 0) rfl (.cons (k := 1) rfl (.cons (k := 2) rfl (.cons (k := 112) rfl (.cons (k := 117) rfl .nil))))) ?_
  refine W.block ?_
  refine W.loopK (ι := ZI) (fun x => (ItP es ck ck x.last x.seen m x.done ∧ Own x.H x.p x.c 3 1 (iz x.s) ∧ x.s.Nodup ∧ x.s.length + leftN m x.done ≤ m.length + 1 ∧ ∀ z, z ∈ x.s ↔ z = 1 ∨ (z ∈ x.done ∧ ∃ y, fnd ms z = some y ∧ k ≤ y.mt))) (fun x => [(5, .slice x.p x.s.length x.c)]) (fun x => [(112, x.H), (117, single r17 (.mapIter (some bm) ck x.seen x.last))]) (fun x => leftN m x.done) (.cons (k := 1) rfl (.cons (k := 17) rfl .nil)) (.cons (k := 0) rfl (.cons (k := 1) rfl (.cons (k := 2) rfl .nil))) ⟨#[], ck, [], single b12 (.cells [.int .i64 1].toArray 3 (0, 0)), some ⟨b12, 0, none⟩, 1, [1]⟩ ?_ ?_ ?_ ?_
  · exact ⟨ItP.start hM, Own.one (l := [Value.int .i64 1]) rfl (by simp [Value.oneCell']) rfl, by simp, by dsimp only; unfold leftN; have := List.length_filter_le (fun p : Int × Value => !decide (p.1 ∈ ([] : List Int))) m; simp only [List.length_singleton]; omega, fun z => by simp⟩
  · exact (.as rfl (by first | rfl | (simp; done) | (congr 1; simp; done) | (congr 1; omega)) .nil)
  · exact (.cons rfl (.cons rfl .nil))
  rintro x ⟨hIx, hO, hnd, hln, hmm⟩
  refine W.keep (.cons (k := 5) rfl (.cons (k := 1) rfl (.cons (k := 17) rfl .nil))) (.cons (k := 112) rfl (.cons (k := 117) rfl (.cons (k := 0) rfl (.cons (k := 1) rfl (.cons (k := 2) rfl .nil))))) ?_
  refine W.seq ?_
  refine W.region ?_
  refine RL.e (Eff.next (c := 2) (c2 := 117) rfl rfl rfl hM hIx) rfl ?_
  rintro _ _ ⟨nx18, sn18, ls18, rfl, hN18, rfl⟩
  refine RL.q (Yld.extract rfl (nxV_ok _ nx18)) rfl ?_
  refine RL.nil ?_
  refine N.next ?_
  refine W.seq ?_
  refine W.cond rfl (fun hc19 => ?_) (fun hc19 => ?_)
  ·
    obtain ⟨⟨kk, u⟩, rfl⟩ := Option.isSome_iff_exists.1 hc19
    obtain ⟨hku, hkd, hI2, hE0, hls⟩ := hN18
    obtain rfl := hls.symm
    have hlt := leftN_next hku hkd
    obtain ⟨y, hy⟩ : ∃ y, fnd ms kk = some y := Option.isSome_iff_exists.1 (by rw [← hR.ok, hku]; rfl)
    obtain rfl : u = mv y := by have := hR kk; rw [hku, hy] at this; exact Option.some.inj this
    have hE : LastE es sn18 (.int .i64 kk) (.agg [.int .i64 y.nx, .int .i64 y.mt].toArray) := hE0
    refine W.skip ?_
    refine N.next ?_
    refine W.block ?_
    refine W.seq ?_
    refine W.region ?_
    refine RL.q (Yld.entry (c := 2) (c2 := 117) rfl rfl rfl hM hE) rfl ?_
    refine RL.q (Yld.extract rfl rfl) rfl ?_
    refine RL.q (Yld.extract rfl rfl) rfl ?_
    refine RL.e (Eff.alloc 107 zc103) rfl ?_
    rintro _ _ ⟨b7, rfl, rfl⟩
    refine RL.q (Yld.assign rfl) rfl ?_
    refine RL.e0 (Eff.storeS (c := 107) _ sz103 rfl rfl rfl rfl rfl rfl rfl (by (try simp only [putAt, List.take, List.drop, List.nil_append, List.cons_append, List.append_nil, List.length_cons, List.length_nil, Nat.add_zero, Nat.zero_add, Nat.reduceAdd]); rfl)) ?_
    rintro _ _ rfl
    refine RL.nil ?_
    refine N.next ?_
    refine W.keep (.cons (k := 1) rfl (.cons (k := 5) rfl (.cons (k := 6) rfl (.cons (k := 7) rfl (.cons (k := 17) rfl .nil))))) (.cons (k := 0) rfl (.cons (k := 1) rfl (.cons (k := 2) rfl (.cons (k := 107) rfl (.cons (k := 112) rfl (.cons (k := 117) rfl .nil)))))) ?_
    refine W.seq ?_
    refine W.region ?_
    refine RL.q (Yld.fieldAddr fo103_1 rfl) rfl ?_
    refine RL.q (Yld.load1 (c := 107) Try.underlying3 rfl rfl rfl (by first | exact single_self _ _ | exact pset_self _ _ _ | assumption) rfl) rfl ?_
    refine RL.q (Yld.move rfl) rfl ?_
    refine RL.q (Yld.bin rfl rfl BinV.geq) rfl ?_
    refine RL.nil ?_
    refine N.next ?_
    refine W.keep (.cons (k := 1) rfl (.cons (k := 5) rfl (.cons (k := 6) rfl (.cons (k := 17) rfl (.cons (k := 26) rfl .nil))))) (.cons (k := 0) rfl (.cons (k := 1) rfl (.cons (k := 2) rfl (.cons (k := 107) rfl (.cons (k := 112) rfl (.cons (k := 117) rfl .nil)))))) ?_
    first | refine W.condD rfl (fun hc26 => ?_) (fun hc26 => ?_) | (refine W.cond rfl (fun hc26 => ?_) (fun hc26 => ?_) <;> try simp only [Bool.or_eq_true, Bool.and_eq_true, Bool.not_eq_true', Bool.not_eq_false', decide_eq_true_eq, Bool.or_eq_false_iff, Bool.and_eq_false_iff, decide_eq_false_iff_not, beq_iff_eq, beq_eq_false_iff_ne, ne_eq, Decidable.not_not] at hc26)
    ·
      refine W.region ?_
      refine RL.q (Yld.move rfl) rfl ?_
      refine RL.q (Yld.move rfl) rfl ?_
      refine RL.e (Eff.buildSlice 129 Try.underlying22 sz3 zc3 rfl rfl (.cons rfl rfl .nil) rfl) rfl ?_
      rintro _ _ ⟨b29, rfl, rfl⟩
      refine RL.e (Eff.appendE (tc := 112) (sc := 129) (fun z : Int => [Value.int .i64 z]) Try.underlying22 el3 rfl rfl rfl rfl hO rfl (iz_single rfl) rfl (iz_one1 _) (by decide) (by first | (simp; done) | (simp; omega)) (by first | (simp [maxLen]; done) | (simp [maxLen]; omega))) rfl ?_
      rintro _ _ ⟨Ha, pa, ca, rfl, hOa, rfl⟩
      refine RL.q (Yld.assign rfl) rfl ?_
      refine RL.nil ?_
      refine N.block_normal ?_
      exact N.famK ⟨sn18, ck, kk :: x.done, Ha, pa, ca, x.s ++ [kk]⟩ ⟨⟨hI2, hOa, nodup_snoc hnd (fun h => ((hmm kk).1 h).elim (fun e => by have := (hK.pos y (fnd_some hy).1).2; rw [(fnd_some hy).2] at this; exact this e) (fun h => hkd h.1)), by dsimp only; rw [List.length_append, List.length_singleton]; omega, fun z => by dsimp only; rw [List.mem_append, List.mem_singleton, hmm z]; exact snoc_iff hy hc26⟩, by dsimp only; omega⟩ (.as rfl (by first | rfl | (simp; done) | (congr 1; simp; done) | (congr 1; omega)) .nil) (.cons rfl (.cons rfl .nil)) (.cons rfl (.cons rfl .nil)) (.cons rfl (.cons rfl (.cons rfl .nil)))
    ·
      refine W.skip ?_
      refine N.block_normal ?_
      exact N.famK ⟨sn18, ck, kk :: x.done, x.H, x.p, x.c, x.s⟩ ⟨⟨hI2, hO, hnd, by dsimp only; omega, fun z => by dsimp only; rw [hmm z]; exact skip_iff hy hc26⟩, by dsimp only; omega⟩ (.as rfl (by first | rfl | (simp; done) | (congr 1; simp; done) | (congr 1; omega)) .nil) (.cons rfl (.cons rfl .nil)) (.cons rfl (.cons rfl .nil)) (.cons rfl (.cons rfl (.cons rfl .nil)))
  ·
    have hn0 : nx18 = none := by cases nx18 with | none => rfl | some p => cases hc19
    subst hn0
    have hall := hN18
    have hcs := caught_srt hR hK hall hnd hmm
    refine W.exit ?_
    refine N.then_exit ?_
    refine N.then_exit ?_
    refine N.block_eq ?_
    refine N.next ?_
    refine W.keep (.cons (k := 5) rfl .nil) (.cons (k := 0) rfl (.cons (k := 1) rfl (.cons (k := 2) rfl (.cons (k := 112) rfl (.cons (k := 117) rfl .nil))))) ?_
    refine W.seq ?_
    refine W.region ?_
    refine RL.q (Yld.move rfl) rfl ?_
    refine RL.e (Eff.call ent66 [112] [112] (.cons rfl .nil) (sort_ct _ _ _ _ hO (by omega)) rfl rfl rfl rfl (by rintro _ _ ⟨_, _, _, rfl⟩; rfl)) rfl ?_
    rintro _ _ ⟨_, ⟨rfl, Hs1, hOs, rfl⟩, rfl⟩
    refine RL.nil ?_
    refine N.next ?_
    refine W.seq ?_
    refine W.region ?_
    refine RL.q (Yld.move rfl) rfl ?_
    refine RL.q (Yld.assign rfl) rfl ?_
    refine RL.nil ?_
    refine N.next ?_
    refine W.keep (.cons (k := 4) rfl .nil) (.cons (k := 0) rfl (.cons (k := 1) rfl (.cons (k := 2) rfl (.cons (k := 112) rfl (.cons (k := 117) rfl .nil))))) ?_
    refine W.ret ?_
    exact N.retBy [1, 2, 112] (.cons (.tmp rfl) .nil) rfl rfl rfl rfl ⟨Hs1, x.p, x.c, by rw [← hcs, srt_len]; rfl, by rw [← hcs]; exact hOs, rfl⟩

set_option maxRecDepth 100000 in
set_option maxHeartbeats 400000 in
theorem pnew_ct (last : Int) (hlast : last ≤ 1099511627776) (l : List Int) (H3 : PH) (q : Option Addr) (d : Nat) (hl : Sl H3 q d 1 (iz l)) : Ct Try.prog 11 [.int .i64 1, .int .i64 last, .slice q l.length d] [H3] (fun v Hs => ∃ bp bm es ck m, v = .pointer (some ⟨bp, 0, none⟩) ∧ MapP (fun a : Int => Value.int .i64 a) es ck m ∧ MR m (chg 1 last [] l) ∧ Hs = [H3, single bp (.cells [.int .i64 1, .map (some bm)].toArray 90 (0, 0)), single bm (.map es ck)]) := by
  refine Ct.body Try.func11 rfl Try.ntmps11 rfl ?_
  intro E F
  refine W.seq ?_
  refine W.region ?_
  refine RL.q (Yld.assign rfl) rfl ?_
  refine RL.nil ?_
  refine N.next ?_
  refine W.seq ?_
  refine W.region ?_
  refine RL.q (Yld.move rfl) rfl ?_
  refine RL.e (Eff.makeMap 109) rfl ?_
  rintro _ _ ⟨b9, rfl, rfl⟩
  refine RL.q (Yld.buildP lay90 (.cons rfl rfl (.cons rfl rfl .nil)) rfl) rfl ?_
  refine RL.e (Eff.box 111 _ rfl rfl) rfl ?_
  rintro _ _ ⟨b11, rfl, rfl⟩
  refine RL.q (Yld.assign rfl) rfl ?_
  refine RL.nil ?_
  refine N.next ?_
  refine W.keep (.cons (k := 1) rfl (.cons (k := 2) rfl (.cons (k := 7) rfl .nil))) (.cons (k := 0) rfl (.cons (k := 1) rfl (.cons (k := 109) rfl (.cons (k := 111) rfl .nil)))) ?_
  refine W.seq ?_
  refine W.region ?_
  refine RL.q (Yld.move rfl) rfl ?_
  refine RL.q (Yld.move rfl) rfl ?_
  refine RL.q (Yld.move rfl) rfl ?_
  refine RL.e (Eff.call ent32 [111, 109, 1] [111, 109, 1] (.cons rfl (.cons rfl (.cons rfl .nil))) (members_ct b11 b9 #[] 0 [] [] (MapP.empty _) (fun k => rfl) MOK.nil last hlast l _ _ _ hl) rfl rfl rfl rfl (by rintro _ _ ⟨_, _, _, _, _, _, rfl⟩; rfl)) rfl ?_
  rintro _ _ ⟨_, ⟨rfl, es', ck', m', hM', hR', rfl⟩, rfl⟩
  refine RL.nil ?_
  refine N.next ?_
  refine W.keep (.cons (k := 7) rfl .nil) (.cons (k := 0) rfl (.cons (k := 1) rfl (.cons (k := 109) rfl (.cons (k := 111) rfl .nil)))) ?_
  refine W.seq ?_
  refine W.region ?_
  refine RL.q (Yld.move rfl) rfl ?_
  refine RL.q (Yld.assign rfl) rfl ?_
  refine RL.nil ?_
  refine N.next ?_
  refine W.ret ?_
  exact N.retBy [1, 111, 109] (.cons (.tmp rfl) .nil) rfl rfl rfl rfl ⟨_, _, es', ck', m', rfl, hM', hR', rfl⟩

end Go.Proofs.Ytdkefpnebmmhlaa
