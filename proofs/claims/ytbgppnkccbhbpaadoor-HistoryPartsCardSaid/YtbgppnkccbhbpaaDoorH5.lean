/- Contracts and walks of package exoduslaw56: the example. Written by program (walk.py). -/
import Derived.Test.YtbgppnkccbhbpaaDoorH4
namespace Go.Proofs.YtbgppnkccbhbpaaDoor
open SL HistLaw
set_option linter.unusedVariables false
set_option linter.unusedSimpArgs false
theorem lay27 : layS Tryd.prog 27 = some ([.int .i64 0, .string .empty, .int .i64 0, .int .i64 0], [(0, 1), (1, 1), (2, 1), (3, 1)]) := by kernel_rfl
theorem lay47 : layS Tryd.prog 47 = some ([.int .i64 0, .int .i64 0, .int .i64 0, .int .i64 0, .int .i64 0, .int .i64 0, .string .empty, .int .i64 0, .int .i64 0, .int .i64 0, .bool false, .int .i64 0, .slice none 0 0, .slice none 0 0, .slice none 0 0, .int .i64 0, .int .i64 0, .int .i64 0, .int .i64 0, .int .i64 0, .bool false, .int .i64 0], [(0, 1), (1, 1), (2, 1), (3, 1), (4, 1), (5, 4), (9, 3), (12, 3), (15, 5), (20, 1), (21, 1)]) := by kernel_rfl
set_option maxRecDepth 100000 in
set_option maxHeartbeats 400000 in
theorem sameTexts_ct (u v : List ByteArray) (H1 H2 : PH) (p q : Option Addr) (c d : Nat) (hA : Sl H1 p c 1 (u.map fun s => [Value.string s])) (hB : Sl H2 q d 1 (v.map fun s => [Value.string s])) : Ct Tryd.prog 24 [.slice p (u.map fun s => [Value.string s]).length c, .slice q (v.map fun s => [Value.string s]).length d] [H1, H2] (fun r Hs => (∃ b, r = .bool b ∧ (b = true ↔ u = v)) ∧ Hs = [H1, H2]) := by
  refine Ct.body Tryd.func24 rfl Tryd.ntmps24 rfl ?_
  intro E F
  have hmax := hA.len_le
  have hmax2 := hB.len_le
  simp only [maxLen] at hmax hmax2
  have hlu : (u.map fun s => [Value.string s]).length = u.length := by simp
  have hlv : (v.map fun s => [Value.string s]).length = v.length := by simp
  refine W.seq ?_
  refine W.region ?_
  refine RL.q (Yld.assign rfl) rfl ?_
  refine RL.nil ?_
  refine N.next ?_
  refine W.seq ?_
  refine W.seq ?_
  refine W.region ?_
  refine RL.q (Yld.move rfl) rfl ?_
  refine RL.q (Yld.lenSl Tryd.underlying48 rfl) rfl ?_
  refine RL.q (Yld.move rfl) rfl ?_
  refine RL.q (Yld.lenSl Tryd.underlying48 rfl) rfl ?_
  refine RL.q (Yld.bin rfl rfl BinV.neq) rfl ?_
  refine RL.nil ?_
  refine N.next ?_
  refine W.keep (.cons (k := 0) rfl (.cons (k := 1) rfl (.cons (k := 4) rfl (.cons (k := 10) rfl .nil)))) (.cons (k := 0) rfl (.cons (k := 1) rfl (.cons (k := 2) rfl .nil))) ?_
  first | refine W.condD rfl (fun hc10 => ?_) (fun hc10 => ?_) | (refine W.cond rfl (fun hc10 => ?_) (fun hc10 => ?_) <;> try simp only [Bool.or_eq_true, Bool.and_eq_true, Bool.not_eq_true', Bool.not_eq_false', decide_eq_true_eq, Bool.or_eq_false_iff, Bool.and_eq_false_iff, decide_eq_false_iff_not, beq_iff_eq, beq_eq_false_iff_ne, ne_eq, Decidable.not_not] at hc10)
  ·
    refine W.seq ?_
    refine W.region ?_
    refine RL.q (Yld.assign rfl) rfl ?_
    refine RL.nil ?_
    refine N.next ?_
    refine W.ret ?_
    refine N.then_ret ?_
    exact N.retBy [1, 2] (.cons (.tmp rfl) .nil) rfl rfl rfl rfl ⟨⟨false, rfl, by simp only [Bool.false_eq_true, false_iff]; rintro rfl; omega⟩, rfl⟩
  ·
    refine W.skip ?_
    refine N.next ?_
    refine W.seq ?_
    refine W.seq ?_
    refine W.region ?_
    refine RL.q (Yld.assign rfl) rfl ?_
    refine RL.nil ?_
    refine N.next ?_
    refine W.block ?_
    refine W.loop (ι := Nat) (fun j => j ≤ u.length ∧ ∀ i : Nat, i < j → u[i]? = v[i]?) (fun j => [(0, .slice p (u.map fun s => [Value.string s]).length c), (1, .slice q (v.map fun s => [Value.string s]).length d), (5, .int .i64 (j : Nat))]) (fun _ => [(0, F), (1, H1), (2, H2)]) (fun j => u.length - j) 0 ?_ ?_ ?_ ?_
    · exact ⟨Nat.zero_le _, fun _ h => absurd h (Nat.not_lt_zero _)⟩
    · exact (.cons rfl (.cons rfl (.cons rfl .nil)))
    · exact (.cons rfl (.cons rfl (.cons rfl .nil)))
    rintro j ⟨hj, hI⟩
    refine W.seq ?_
    refine W.seq ?_
    refine W.region ?_
    refine RL.q (Yld.move rfl) rfl ?_
    refine RL.q (Yld.move rfl) rfl ?_
    refine RL.q (Yld.lenSl Tryd.underlying48 rfl) rfl ?_
    refine RL.q (Yld.bin rfl rfl BinV.lss) rfl ?_
    refine RL.nil ?_
    refine N.next ?_
    first | refine W.condD rfl (fun hc14 => ?_) (fun hc14 => ?_) | (refine W.cond rfl (fun hc14 => ?_) (fun hc14 => ?_) <;> try simp only [Bool.or_eq_true, Bool.and_eq_true, Bool.not_eq_true', Bool.not_eq_false', decide_eq_true_eq, Bool.or_eq_false_iff, Bool.and_eq_false_iff, decide_eq_false_iff_not, beq_iff_eq, beq_eq_false_iff_ne, ne_eq, Decidable.not_not] at hc14)
    ·
      obtain ⟨x, hu⟩ : ∃ x, u[j]? = some x := ⟨_, List.getElem?_eq_getElem (show j < u.length by omega)⟩
      obtain ⟨y, hv⟩ : ∃ y, v[j]? = some y := ⟨_, List.getElem?_eq_getElem (show j < v.length by omega)⟩
      have hlx : (u.map fun s => [Value.string s])[j]? = some [.string x] := by simp [hu]
      have hly : (v.map fun s => [Value.string s])[j]? = some [.string y] := by simp [hv]
      refine W.skip ?_
      refine N.next ?_
      refine W.keep (.cons (k := 0) rfl (.cons (k := 1) rfl (.cons (k := 5) rfl .nil))) (.cons (k := 0) rfl (.cons (k := 1) rfl (.cons (k := 2) rfl .nil))) ?_
      refine W.seq ?_
      refine W.block ?_
      refine W.seq ?_
      refine W.draw (.q 0 (.q 1 (.q 2 (.q 3 (.q 4 (.q 5 (.q 6 (.q 7 (.q 8 .done))))))))) (.cons (k := 0) rfl (.cons (k := 1) rfl (.cons (k := 2) rfl .nil))) mix (by kernel_rfl) (by kernel_rfl) ?_
      refine DL.q rfl (Yld.move rfl) rfl ?_
      refine DL.q rfl (Yld.move rfl) rfl ?_
      refine DL.q rfl (Yld.indexRow Tryd.underlying48 sz9 rfl rfl hA (by first | rfl | omega | (simp; done) | (simp; omega)) (by omega) (by first | omega | (simp; done) | (simp; omega))) rfl ?_
      refine DL.q rfl (Yld.loadRowF (cl := 1) (j := 0) Tryd.underlying9 rfl rfl rfl hA hlx rfl) rfl ?_
      refine DL.q rfl (Yld.move rfl) rfl ?_
      refine DL.q rfl (Yld.move rfl) rfl ?_
      refine DL.q rfl (Yld.indexRow Tryd.underlying48 sz9 rfl rfl hB (by first | rfl | omega | (simp; done) | (simp; omega)) (by omega) (by first | omega | (simp; done) | (simp; omega))) rfl ?_
      refine DL.q rfl (Yld.loadRowF (cl := 2) (j := 0) Tryd.underlying9 rfl rfl rfl hB hly rfl) rfl ?_
      refine DL.q rfl (Yld.bin rfl rfl BinV.neqS) rfl ?_
      refine DL.done ?_
      refine N.next ?_
      refine W.keep (.cons (k := 0) rfl (.cons (k := 1) rfl (.cons (k := 5) rfl (.cons (k := 25) rfl .nil)))) (.cons (k := 0) rfl (.cons (k := 1) rfl (.cons (k := 2) rfl .nil))) ?_
      first | refine W.condD rfl (fun hc25 => ?_) (fun hc25 => ?_) | (refine W.cond rfl (fun hc25 => ?_) (fun hc25 => ?_) <;> try simp only [Bool.or_eq_true, Bool.and_eq_true, Bool.not_eq_true', Bool.not_eq_false', decide_eq_true_eq, Bool.or_eq_false_iff, Bool.and_eq_false_iff, decide_eq_false_iff_not, beq_iff_eq, beq_eq_false_iff_ne, ne_eq, Decidable.not_not] at hc25)
      ·
        refine W.seq ?_
        refine W.region ?_
        refine RL.q (Yld.assign rfl) rfl ?_
        refine RL.nil ?_
        refine N.next ?_
        refine W.ret ?_
        refine N.block_ret ?_
        refine N.then_ret ?_
        refine N.then_ret ?_
        refine N.block_ret ?_
        refine N.then_ret ?_
        exact N.retBy [1, 2] (.cons (.tmp rfl) .nil) rfl rfl rfl rfl ⟨⟨false, rfl, by simp only [Bool.false_eq_true, false_iff]; rintro rfl; rw [hu] at hv; cases hv; exact hc25 rfl⟩, rfl⟩
      ·
        have hc25 := Decidable.not_not.1 hc25
        refine W.skip ?_
        refine N.block_normal ?_
        refine N.next ?_
        refine W.region ?_
        refine RL.q (Yld.move rfl) rfl ?_
        refine RL.q (Yld.bin rfl rfl (by first | exact BinV.add (by omega) (by omega) | exact BinV.addW)) rfl ?_
        refine RL.q (Yld.assign rfl) rfl ?_
        refine RL.nil ?_
        exact N.fam (j + 1) ⟨⟨by omega, fun i hi => (Nat.lt_succ_iff_lt_or_eq.1 hi).elim (hI i) (fun e => by subst e; rw [hu, hv, hc25])⟩, by omega⟩ (.cons rfl (.cons rfl (.cons rfl .nil))) (.cons rfl (.cons rfl (.cons rfl .nil)))
    ·
      refine W.exit ?_
      refine N.then_exit ?_
      refine N.then_exit ?_
      refine N.block_eq ?_
      refine N.next ?_
      refine W.keep .nil (.cons (k := 0) rfl (.cons (k := 1) rfl (.cons (k := 2) rfl .nil))) ?_
      refine W.seq ?_
      refine W.region ?_
      refine RL.q (Yld.assign rfl) rfl ?_
      refine RL.nil ?_
      refine N.next ?_
      refine W.ret ?_
      exact N.retBy [1, 2] (.cons (.tmp rfl) .nil) rfl rfl rfl rfl ⟨⟨true, rfl, by simp only [true_iff]; exact List.ext_getElem? fun i => (Nat.lt_or_ge i u.length).elim (fun h => hI i (by omega)) (fun h => by rw [List.getElem?_eq_none (by omega), List.getElem?_eq_none (by omega)])⟩, rfl⟩

def HistLaw.exEvs : List EvC := [⟨⟨0, 0, 1, 1, 2, 1, ({ data := #[107] } : ByteArray), 5, 0, 0, false, 0⟩, .slice none 0 0, .slice none 0 0, .slice none 0 0, .int .i64 0, .int .i64 0, .int .i64 0, .int .i64 0, .int .i64 0, .bool false, .int .i64 0⟩, ⟨⟨0, 0, 2, 1, 2, 0, ({ data := #[107] } : ByteArray), 0, 0, 0, false, 0⟩, .slice none 0 0, .slice none 0 0, .slice none 0 0, .int .i64 0, .int .i64 0, .int .i64 0, .int .i64 0, .int .i64 0, .bool false, .int .i64 0⟩, ⟨⟨1, 0, 1, 1, 2, 0, .empty, 0, 0, 0, true, 5⟩, .slice none 0 0, .slice none 0 0, .slice none 0 0, .int .i64 0, .int .i64 0, .int .i64 0, .int .i64 0, .int .i64 0, .bool false, .int .i64 0⟩]
def HistLaw.exA : O := ⟨1, 1, 2, 1, ({ data := #[107] } : ByteArray), 5, 0, 0, true, 5, 0, 2⟩
def HistLaw.exB : O := ⟨2, 1, 2, 0, ({ data := #[107] } : ByteArray), 0, 0, 0, false, 0, 1, -1⟩
theorem HistLaw.exOut : (ofN 2 (exEvs.map EvC.toEv) exEvs.length).out = [exA, exB] := by rfl

set_option maxRecDepth 100000 in
set_option maxHeartbeats 400000 in
theorem example_ct  : Ct Tryd.prog 33 [] [] (fun v Hs => ∃ b, v = .slice (some ⟨b, 0, none⟩) 3 3 ∧ Hs = [single b (.cells (exEvs.map EvC.c).flatten.toArray 47 (0, 0))]) := by
  refine Ct.body Tryd.func33 rfl Tryd.ntmps33 rfl ?_
  intro E F
  refine W.seq ?_
  refine W.region ?_
  refine RL.q (Yld.assign rfl) rfl ?_
  refine RL.nil ?_
  refine N.next ?_
  refine W.seq ?_
  refine W.region ?_
  refine RL.q (Yld.buildP lay27 (.cons rfl rfl (.cons rfl rfl (.cons rfl rfl .nil))) rfl) rfl ?_
  refine RL.q (Yld.buildP lay47 (.cons rfl rfl (.cons rfl rfl (.cons rfl rfl (.cons rfl rfl (.cons rfl rfl .nil))))) rfl) rfl ?_
  refine RL.q (Yld.buildP lay27 (.cons rfl rfl .nil) rfl) rfl ?_
  refine RL.q (Yld.buildP lay47 (.cons rfl rfl (.cons rfl rfl (.cons rfl rfl (.cons rfl rfl (.cons rfl rfl .nil))))) rfl) rfl ?_
  refine RL.q (Yld.buildP lay30 (.cons rfl rfl (.cons rfl rfl .nil)) rfl) rfl ?_
  refine RL.q (Yld.buildP lay47 (.cons rfl rfl (.cons rfl rfl (.cons rfl rfl (.cons rfl rfl (.cons rfl rfl .nil))))) rfl) rfl ?_
  refine RL.e (Eff.buildSlice 107 Tryd.underlying35 sz47 zc47 rfl rfl (.cons rfl rfl (.cons rfl rfl (.cons rfl rfl .nil))) rfl) rfl ?_
  rintro _ _ ⟨b7, rfl, rfl⟩
  refine RL.q (Yld.assign rfl) rfl ?_
  refine RL.nil ?_
  refine N.next ?_
  refine W.keep (.cons (k := 0) rfl .nil) (.cons (k := 0) rfl (.cons (k := 107) rfl .nil)) ?_
  refine W.ret ?_
  exact N.retBy [107] (.cons (.tmp rfl) .nil) rfl rfl rfl rfl ⟨_, rfl, rfl⟩

end Go.Proofs.YtbgppnkccbhbpaaDoor
