/- Small, Linearizable. Written by program (walk.py). -/
import Derived.Test.YtbgppnkccbhbpaaL4
namespace Go.Proofs.Ytbgppnkccbhbpaa
open SL HistLaw Cfg
set_option linter.unusedVariables false
set_option linter.unusedSimpArgs false
theorem ent17 : Ent Try.prog 17 := ⟨_, _, Try.func17, by kernel_rfl, rfl⟩
theorem ent19 : Ent Try.prog 19 := ⟨_, _, Try.func19, by kernel_rfl, rfl⟩
theorem ent13 : Ent Try.prog 13 := ⟨_, _, Try.func13, by kernel_rfl, rfl⟩
theorem ent15 : Ent Try.prog 15 := ⟨_, _, Try.func15, by kernel_rfl, rfl⟩
def HistLaw.AllLive (l : List O) : Prop := ∀ k ∈ keysO l, Live (byKey k l) 0 (false, 0)
def HistLaw.SmallP (l : List O) (m : Int) : Prop := (l.length : Int) ≤ 40 ∧ Valid l ∧ ∀ k ∈ keysO l, ((byKey k l).length : Int) ≤ m
theorem HistLaw.kupd {P : Ky → Prop} {s : List Ky} {j : Nat} {k : Ky} (h : ∀ (i : Nat) z, i < j → s[i]? = some z → P z) (hk : s[j]? = some k) (hp : P k) : ∀ (i : Nat) z, i < j + 1 → s[i]? = some z → P z := by
  intro i z hi hz
  by_cases e : i = j
  · subst e; rw [hk] at hz; cases hz; exact hp
  · exact h i z (by omega) hz
theorem HistLaw.kall {P : Ky → Prop} {s : List Ky} {j : Nat} (h : ∀ (i : Nat) z, i < j → s[i]? = some z → P z) (hj : j = s.length) : ∀ z ∈ s, P z := by
  intro z hz
  obtain ⟨i, hi⟩ := List.getElem?_of_mem hz
  exact h i z (by have := (List.getElem?_eq_some_iff.1 hi).1; omega) hi

set_option maxRecDepth 100000 in
set_option maxHeartbeats 1600000 in
theorem small_ct (l : List O) (H1 : PH) (p : Option Addr) (c : Nat) (hS : Sl H1 p c 12 (l.map O.c)) (m : Int) : Ct Try.prog 8 [.slice p (l.map O.c).length c, .int .i64 m] [H1] (fun v Hs => (∃ b, v = .bool b ∧ (b = true → SmallP l m)) ∧ Hs = [H1]) := by
  refine Ct.body Try.func8 rfl Try.ntmps8 rfl ?_
  intro E F
  have hmax := hS.len_le
  simp only [maxLen] at hmax
  have hll : (l.map O.c).length = l.length := by simp
  refine W.seq ?_
  refine W.region ?_
  refine RL.q (Yld.assign rfl) rfl ?_
  refine RL.nil ?_
  refine N.next ?_
  refine W.seq ?_
  refine W.seq ?_
  refine W.region ?_
  refine RL.q (Yld.move rfl) rfl ?_
  refine RL.e (Eff.call ent17 [1] [1] (.cons rfl (.cons rfl .nil)) (few_ct l H1 p c hS 40) rfl rfl rfl rfl (by rintro _ _ ⟨_, rfl⟩; rfl)) rfl ?_
  rintro _ _ ⟨_, ⟨⟨bF, rfl, hF⟩, rfl⟩, rfl⟩
  refine RL.q (by first | exact Yld.notD rfl | exact Yld.not rfl) rfl ?_
  refine RL.q (Yld.move rfl) rfl ?_
  refine' RL.or (t := 10) (d := 14) 4 rfl (.cons (k := 0) rfl (.cons (k := 1) rfl (.cons (k := 4) rfl (.cons (k := 7) rfl (.cons (k := 8) rfl (.cons (k := 9) rfl .nil)))))) (.cons (k := 0) rfl (.cons (k := 1) rfl .nil)) ?_ ?_ ?_
  rotate_left 1
  ·
    intro hg10
    have hl40 : (l.length : Int) ≤ 40 := hF (by simpa using hg10)
    refine RL.gq rfl rfl (Yld.move rfl) rfl ?_
    refine RL.ge rfl rfl (Eff.call ent19 [1] [1] (.cons rfl .nil) (rvalidB_ct l H1 p c hS) rfl rfl rfl rfl (by rintro _ _ ⟨_, rfl⟩; rfl)) rfl ?_
    rintro _ _ ⟨_, ⟨rfl, rfl⟩, rfl⟩
    refine RL.gq rfl rfl (by first | exact Yld.notD rfl | exact Yld.not rfl) rfl ?_
    refine RL.q (by first | exact Yld.pickT rfl rfl | exact Yld.pickF rfl rfl) rfl ?_
    exact RL.nil (N.meet (.cons rfl (.cons rfl (.cons rfl (.cons rfl (.cons rfl (.cons rfl (.cons rfl .nil))))))) (.cons rfl (.cons rfl .nil)))
  ·
    intro hg10
    refine RL.gskip rfl rfl rfl rfl ?_
    refine RL.gskip rfl rfl rfl rfl ?_
    refine RL.gskip rfl rfl rfl rfl ?_
    refine RL.q (by first | exact Yld.pickT rfl rfl | exact Yld.pickF rfl rfl) rfl ?_
    exact RL.nil (N.meet (.cons rfl (.cons rfl (.cons rfl (.cons rfl (.cons rfl (.cons rfl (.cons rfl .nil))))))) (.cons rfl (.cons rfl .nil)))
  refine RL.nil ?_
  refine N.next ?_
  refine W.keep (.cons (k := 0) rfl (.cons (k := 1) rfl (.cons (k := 14) rfl .nil))) (.cons (k := 0) rfl (.cons (k := 1) rfl .nil)) ?_
  refine W.cond rfl (fun hc14 => ?_) (fun hc14 => ?_)
  ·
    refine W.seq ?_
    refine W.region ?_
    refine RL.q (Yld.assign rfl) rfl ?_
    refine RL.nil ?_
    refine N.next ?_
    refine W.ret ?_
    refine N.then_ret ?_
    exact N.retBy [1] (.cons (.tmp rfl) .nil) rfl rfl rfl rfl ⟨⟨_, rfl, fun h => by cases h⟩, rfl⟩
  ·
    simp only [Bool.or_eq_false_iff, Bool.not_eq_false'] at hc14
    have hl40 := hF hc14.1
    have hv := validB_iff.1 hc14.2
    have hkl := keysO_len l
    refine W.skip ?_
    refine N.next ?_
    refine W.seq ?_
    refine W.region ?_
    refine RL.q (Yld.move rfl) rfl ?_
    refine RL.e (Eff.call ent13 [1] [1, 140] (.cons rfl .nil) (rkeys_ct l (by omega) _ _ _ hS) rfl rfl rfl rfl (by rintro _ _ ⟨_, _, _, _, _, rfl⟩; rfl)) rfl ?_
    rintro _ _ ⟨_, ⟨Hk, pk, ck0, rfl, hOk, rfl⟩, rfl⟩
    refine RL.q (Yld.assign rfl) rfl ?_
    refine RL.nil ?_
    refine N.next ?_
    refine W.seq ?_
    refine W.seq ?_
    refine W.region ?_
    refine RL.q (Yld.assign rfl) rfl ?_
    refine RL.nil ?_
    refine N.next ?_
    refine W.block ?_
    refine W.loopK (ι := Nat) (fun j => (j ≤ (keysO l).length ∧ ∀ (i : Nat) z, i < j → (keysO l)[i]? = some z → ((byKey z l).length : Int) ≤ m)) (fun j => [(6, .int .i64 (j : Nat))]) (fun j => []) (fun j => (keysO l).length - j) (.cons (k := 0) rfl (.cons (k := 1) rfl (.cons (k := 5) rfl .nil))) (.cons (k := 0) rfl (.cons (k := 1) rfl (.cons (k := 140) rfl .nil))) 0 ?_ ?_ ?_ ?_
    · exact ⟨Nat.zero_le _, fun _ _ h => absurd h (Nat.not_lt_zero _)⟩
    · exact (.as rfl (by first | rfl | (simp; done) | (congr 1; simp; done) | (congr 1; omega)) .nil)
    · exact .nil
    rintro j ⟨hj, hI⟩
    refine W.keep (.cons (k := 6) rfl (.cons (k := 0) rfl (.cons (k := 1) rfl (.cons (k := 5) rfl .nil)))) (.cons (k := 0) rfl (.cons (k := 1) rfl (.cons (k := 140) rfl .nil))) ?_
    refine W.seq ?_
    refine W.seq ?_
    refine W.region ?_
    refine RL.q (Yld.move rfl) rfl ?_
    refine RL.q (Yld.move rfl) rfl ?_
    refine RL.q (Yld.lenSl Try.underlying32 rfl) rfl ?_
    refine RL.q (Yld.bin rfl rfl BinV.lss) rfl ?_
    refine RL.nil ?_
    refine N.next ?_
    first | refine W.condD rfl (fun hc20 => ?_) (fun hc20 => ?_) | (refine W.cond rfl (fun hc20 => ?_) (fun hc20 => ?_) <;> try simp only [Bool.or_eq_true, Bool.and_eq_true, Bool.not_eq_true', Bool.not_eq_false', decide_eq_true_eq, Bool.or_eq_false_iff, Bool.and_eq_false_iff, decide_eq_false_iff_not, beq_iff_eq, beq_eq_false_iff_ne, ne_eq, Decidable.not_not] at hc20)
    ·
      obtain ⟨k, hk, hlk⟩ := kz_at (show j < (keysO l).length by omega)
      have hbl := byKey_len k l
      have hbm : ((byKey k l).map O.c).length = (byKey k l).length := by simp
      refine W.skip ?_
      refine N.next ?_
      refine W.keep (.cons (k := 0) rfl (.cons (k := 1) rfl (.cons (k := 5) rfl (.cons (k := 6) rfl .nil)))) (.cons (k := 0) rfl (.cons (k := 1) rfl (.cons (k := 140) rfl .nil))) ?_
      refine W.seq ?_
      refine W.block ?_
      refine W.seq ?_
      refine W.region ?_
      refine RL.q (Yld.move rfl) rfl ?_
      refine RL.q (Yld.move rfl) rfl ?_
      refine RL.q (Yld.move rfl) rfl ?_
      refine RL.q (Yld.indexRow Try.underlying32 sz9 rfl rfl (by first | assumption | exact Own.sl (by assumption)) (by first | rfl | omega | (simp; done) | (simp; omega)) (by omega) (by first | omega | (simp; done) | (simp; omega))) rfl ?_
      refine RL.q (by first | exact (by first | exact Yld.loadRow1 (cl := 1) Try.underlying9 rfl rfl rfl (by first | assumption | exact Own.sl (by assumption)) (by assumption) | exact Yld.loadRow1 (cl := 140) Try.underlying9 rfl rfl rfl (by first | assumption | exact Own.sl (by assumption)) (by assumption)) | exact (by first | exact Yld.loadRowF (cl := 1) (j := 0) Try.underlying9 rfl rfl rfl (by first | assumption | exact Own.sl (by assumption)) (by assumption) rfl | exact Yld.loadRowF (cl := 140) (j := 0) Try.underlying9 rfl rfl rfl (by first | assumption | exact Own.sl (by assumption)) (by assumption) rfl)) rfl ?_
      refine RL.e (Eff.call ent15 [1] [1, 141] (.cons rfl (.cons rfl .nil)) (rbyKey_ct l (by omega) _ _ _ hS k) rfl rfl rfl rfl (by rintro _ _ ⟨_, _, _, _, _, rfl⟩; rfl)) rfl ?_
      rintro _ _ ⟨_, ⟨Hb, pb, cb, rfl, hOb, rfl⟩, rfl⟩
      refine RL.q (Yld.lenSl Try.underlying22 rfl) rfl ?_
      refine RL.q (Yld.move rfl) rfl ?_
      refine RL.q (Yld.bin rfl rfl BinV.gtr) rfl ?_
      refine RL.nil ?_
      refine N.next ?_
      refine W.keep (.cons (k := 0) rfl (.cons (k := 1) rfl (.cons (k := 5) rfl (.cons (k := 6) rfl (.cons (k := 31) rfl .nil))))) (.cons (k := 0) rfl (.cons (k := 1) rfl (.cons (k := 140) rfl (.cons (k := 141) rfl .nil)))) ?_
      first | refine W.condD rfl (fun hc31 => ?_) (fun hc31 => ?_) | (refine W.cond rfl (fun hc31 => ?_) (fun hc31 => ?_) <;> try simp only [Bool.or_eq_true, Bool.and_eq_true, Bool.not_eq_true', Bool.not_eq_false', decide_eq_true_eq, Bool.or_eq_false_iff, Bool.and_eq_false_iff, decide_eq_false_iff_not, beq_iff_eq, beq_eq_false_iff_ne, ne_eq, Decidable.not_not] at hc31)
      ·
        refine W.seq ?_
        refine W.region ?_
        refine RL.q (Yld.assign rfl) rfl ?_
        refine RL.nil ?_
        refine N.next ?_
        refine W.keep (.cons (k := 4) rfl .nil) (.cons (k := 0) rfl (.cons (k := 1) rfl (.cons (k := 140) rfl (.cons (k := 141) rfl .nil)))) ?_
        refine W.ret ?_
        refine N.block_ret ?_
        refine N.then_ret ?_
        refine N.then_ret ?_
        refine N.block_ret ?_
        refine N.then_ret ?_
        exact N.retBy [1] (.cons (.tmp rfl) .nil) rfl rfl rfl rfl ⟨⟨_, rfl, fun h => by cases h⟩, rfl⟩
      ·
        refine W.skip ?_
        refine N.block_normal ?_
        refine N.next ?_
        refine W.region ?_
        refine RL.q (Yld.move rfl) rfl ?_
        refine RL.q (Yld.bin rfl rfl (by first | exact BinV.add (by omega) (by omega) | exact BinV.addW)) rfl ?_
        refine RL.q (Yld.assign rfl) rfl ?_
        refine RL.nil ?_
        exact N.famK (j + 1) ⟨⟨by omega, kupd (P := fun z => ((byKey z l).length : Int) ≤ m) hI hk (by omega)⟩, by omega⟩ (.as rfl (by first | rfl | (simp; done) | (congr 1; simp; done) | (congr 1; omega)) .nil) (.cons rfl (.cons rfl (.cons rfl .nil))) .nil (.cons rfl (.cons rfl (.cons rfl .nil)))
    ·
      have hend : j = (keysO l).length := by omega
      refine W.exit ?_
      refine N.then_exit ?_
      refine N.then_exit ?_
      refine N.block_eq ?_
      refine N.next ?_
      refine W.keep .nil (.cons (k := 0) rfl (.cons (k := 1) rfl (.cons (k := 140) rfl .nil))) ?_
      refine W.seq ?_
      refine W.region ?_
      refine RL.q (Yld.assign rfl) rfl ?_
      refine RL.nil ?_
      refine N.next ?_
      refine W.ret ?_
      exact N.retBy [1] (.cons (.tmp rfl) .nil) rfl rfl rfl rfl ⟨⟨_, rfl, fun _ => ⟨hl40, hv, kall (P := fun z => ((byKey z l).length : Int) ≤ m) hI hend⟩⟩, rfl⟩

noncomputable def HistLaw.allLiveB (l : List O) : Bool := @decide (AllLive l) (Classical.propDecidable _)
theorem HistLaw.allLiveB_iff {l : List O} : allLiveB l = true ↔ AllLive l := by unfold allLiveB; exact @decide_eq_true_iff _ (Classical.propDecidable _)
theorem HistLaw.allLiveB_not {l : List O} (h : ¬ AllLive l) : allLiveB l = false := by unfold allLiveB; exact @decide_eq_false _ (Classical.propDecidable _) h

set_option maxRecDepth 100000 in
set_option maxHeartbeats 1600000 in
theorem linable_ct (l : List O) (hv : Valid l) (hl60 : l.length ≤ 60) (H1 : PH) (p : Option Addr) (c : Nat) (hS : Sl H1 p c 12 (l.map O.c)) : Ct Try.prog 11 [.slice p (l.map O.c).length c] [H1] (fun v Hs => v = .bool (allLiveB l) ∧ Hs = [H1]) := by
  refine Ct.body Try.func11 rfl Try.ntmps11 rfl ?_
  intro E F
  have hmax := hS.len_le
  simp only [maxLen] at hmax
  have hll : (l.map O.c).length = l.length := by simp
  have hkl := keysO_len l
  refine W.seq ?_
  refine W.region ?_
  refine RL.q (Yld.assign rfl) rfl ?_
  refine RL.nil ?_
  refine N.next ?_
  refine W.seq ?_
  refine W.seq ?_
  refine W.region ?_
  refine RL.q (Yld.move rfl) rfl ?_
  refine RL.e (Eff.call ent19 [1] [1] (.cons rfl .nil) (rvalidB_ct l H1 p c hS) rfl rfl rfl rfl (by rintro _ _ ⟨_, rfl⟩; rfl)) rfl ?_
  rintro _ _ ⟨_, ⟨rfl, rfl⟩, rfl⟩
  rw [show validB l = true from validB_iff.2 hv]
  refine RL.q (by first | exact Yld.notD rfl | exact Yld.not rfl) rfl ?_
  refine RL.nil ?_
  refine N.next ?_
  first | (refine W.as (t := 8) rfl (boolF (by first | assumption | omega | (simp; done))) ?_; refine W.condF rfl ?_) | refine W.condF rfl ?_
  refine W.skip ?_
  refine N.next ?_
  refine W.keep (.cons (k := 0) rfl .nil) (.cons (k := 0) rfl (.cons (k := 1) rfl .nil)) ?_
  refine W.seq ?_
  refine W.region ?_
  refine RL.q (Yld.move rfl) rfl ?_
  refine RL.e (Eff.call ent13 [1] [1, 140] (.cons rfl .nil) (rkeys_ct l (by omega) _ _ _ hS) rfl rfl rfl rfl (by rintro _ _ ⟨_, _, _, _, _, rfl⟩; rfl)) rfl ?_
  rintro _ _ ⟨_, ⟨Hk, pk, ck0, rfl, hOk, rfl⟩, rfl⟩
  refine RL.q (Yld.assign rfl) rfl ?_
  refine RL.nil ?_
  refine N.next ?_
  refine W.seq ?_
  refine W.seq ?_
  refine W.region ?_
  refine RL.q (Yld.assign rfl) rfl ?_
  refine RL.nil ?_
  refine N.next ?_
  refine W.block ?_
  refine W.loopK (ι := Nat) (fun j => (j ≤ (keysO l).length ∧ ∀ (i : Nat) z, i < j → (keysO l)[i]? = some z → Live (byKey z l) 0 (false, 0))) (fun j => [(4, .int .i64 (j : Nat))]) (fun j => []) (fun j => (keysO l).length - j) (.cons (k := 0) rfl (.cons (k := 3) rfl .nil)) (.cons (k := 0) rfl (.cons (k := 1) rfl (.cons (k := 140) rfl .nil))) 0 ?_ ?_ ?_ ?_
  · exact ⟨Nat.zero_le _, fun _ _ h => absurd h (Nat.not_lt_zero _)⟩
  · exact (.as rfl (by first | rfl | (simp; done) | (congr 1; simp; done) | (congr 1; omega)) .nil)
  · exact .nil
  rintro j ⟨hj, hI⟩
  refine W.keep (.cons (k := 4) rfl (.cons (k := 0) rfl (.cons (k := 3) rfl .nil))) (.cons (k := 0) rfl (.cons (k := 1) rfl (.cons (k := 140) rfl .nil))) ?_
  refine W.seq ?_
  refine W.seq ?_
  refine W.region ?_
  refine RL.q (Yld.move rfl) rfl ?_
  refine RL.q (Yld.move rfl) rfl ?_
  refine RL.q (Yld.lenSl Try.underlying32 rfl) rfl ?_
  refine RL.q (Yld.bin rfl rfl BinV.lss) rfl ?_
  refine RL.nil ?_
  refine N.next ?_
  first | refine W.condD rfl (fun hc14 => ?_) (fun hc14 => ?_) | (refine W.cond rfl (fun hc14 => ?_) (fun hc14 => ?_) <;> try simp only [Bool.or_eq_true, Bool.and_eq_true, Bool.not_eq_true', Bool.not_eq_false', decide_eq_true_eq, Bool.or_eq_false_iff, Bool.and_eq_false_iff, decide_eq_false_iff_not, beq_iff_eq, beq_eq_false_iff_ne, ne_eq, Decidable.not_not] at hc14)
  ·
    obtain ⟨k, hk, hlk⟩ := kz_at (show j < (keysO l).length by omega)
    have hbl := byKey_len k l
    have hbm : ((byKey k l).map O.c).length = (byKey k l).length := by simp
    refine W.skip ?_
    refine N.next ?_
    refine W.keep (.cons (k := 0) rfl (.cons (k := 3) rfl (.cons (k := 4) rfl .nil))) (.cons (k := 0) rfl (.cons (k := 1) rfl (.cons (k := 140) rfl .nil))) ?_
    refine W.seq ?_
    refine W.block ?_
    refine W.seq ?_
    refine W.region ?_
    refine RL.q (Yld.move rfl) rfl ?_
    refine RL.q (Yld.move rfl) rfl ?_
    refine RL.q (Yld.move rfl) rfl ?_
    refine RL.q (Yld.indexRow Try.underlying32 sz9 rfl rfl (by first | assumption | exact Own.sl (by assumption)) (by first | rfl | omega | (simp; done) | (simp; omega)) (by omega) (by first | omega | (simp; done) | (simp; omega))) rfl ?_
    refine RL.q (by first | exact (by first | exact Yld.loadRow1 (cl := 1) Try.underlying9 rfl rfl rfl (by first | assumption | exact Own.sl (by assumption)) (by assumption) | exact Yld.loadRow1 (cl := 140) Try.underlying9 rfl rfl rfl (by first | assumption | exact Own.sl (by assumption)) (by assumption)) | exact (by first | exact Yld.loadRowF (cl := 1) (j := 0) Try.underlying9 rfl rfl rfl (by first | assumption | exact Own.sl (by assumption)) (by assumption) rfl | exact Yld.loadRowF (cl := 140) (j := 0) Try.underlying9 rfl rfl rfl (by first | assumption | exact Own.sl (by assumption)) (by assumption) rfl)) rfl ?_
    refine RL.e (Eff.call ent15 [1] [1, 141] (.cons rfl (.cons rfl .nil)) (rbyKey_ct l (by omega) _ _ _ hS k) rfl rfl rfl rfl (by rintro _ _ ⟨_, _, _, _, _, rfl⟩; rfl)) rfl ?_
    rintro _ _ ⟨_, ⟨Hb, pb, cb, rfl, hOb, rfl⟩, rfl⟩
    refine RL.q (Yld.assign rfl) rfl ?_
    refine RL.nil ?_
    refine N.next ?_
    refine W.keep (.cons (k := 0) rfl (.cons (k := 3) rfl (.cons (k := 4) rfl (.cons (k := 5) rfl .nil)))) (.cons (k := 0) rfl (.cons (k := 1) rfl (.cons (k := 140) rfl (.cons (k := 141) rfl .nil)))) ?_
    refine W.seq ?_
    refine W.region ?_
    refine RL.q (Yld.move rfl) rfl ?_
    refine RL.q (Yld.move rfl) rfl ?_
    refine RL.q (Yld.lenSl Try.underlying22 rfl) rfl ?_
    refine RL.e (Eff.makeSl 126 Try.underlying57 el4 zc4 rfl rfl rfl (by omega) (by omega)) rfl ?_
    rintro _ _ ⟨H26, p26, rfl, hO26, rfl⟩
    refine RL.q (Yld.buildP lay59 .nil rfl) rfl ?_
    refine RL.e (Eff.call ent31 [141, 126] [141, 126] (.cons rfl (.cons rfl (.cons rfl .nil))) (rsearchM_ct (byKey k l) (by omega) _ _ _ hOb.sl 0 (by decide) (false, 0) ((byKey k l).map O.c).length (by simp) _ _ _ (by rw [us_zero]; exact hO26.sl)) rfl rfl rfl rfl (by rintro _ _ ⟨_, rfl⟩; rfl)) rfl ?_
    rintro _ _ ⟨_, ⟨rfl, rfl⟩, rfl⟩
    refine RL.q (by first | exact Yld.notD rfl | exact Yld.not rfl) rfl ?_
    refine RL.nil ?_
    refine N.next ?_
    refine W.keep (.cons (k := 0) rfl (.cons (k := 3) rfl (.cons (k := 4) rfl (.cons (k := 29) rfl .nil)))) (.cons (k := 0) rfl (.cons (k := 1) rfl (.cons (k := 126) rfl (.cons (k := 140) rfl (.cons (k := 141) rfl .nil))))) ?_
    refine W.cond rfl (fun hc29 => ?_) (fun hc29 => ?_)
    ·
      have hnl : ¬ AllLive l := fun h => by rw [liveB_iff.2 (h k (List.mem_of_getElem? hk))] at hc29; cases hc29
      refine W.seq ?_
      refine W.region ?_
      refine RL.q (Yld.assign rfl) rfl ?_
      refine RL.nil ?_
      refine N.next ?_
      refine W.keep (.cons (k := 2) rfl .nil) (.cons (k := 0) rfl (.cons (k := 1) rfl (.cons (k := 126) rfl (.cons (k := 140) rfl (.cons (k := 141) rfl .nil))))) ?_
      refine W.ret ?_
      refine N.block_ret ?_
      refine N.then_ret ?_
      refine N.then_ret ?_
      refine N.block_ret ?_
      refine N.then_ret ?_
      exact N.retBy [1] (.cons (.tmp rfl) .nil) rfl rfl rfl rfl ⟨by rw [allLiveB_not hnl]; rfl, rfl⟩
    ·
      have hlv := liveB_iff.1 (show liveB (byKey k l) 0 (false, 0) = true by simpa using hc29)
      refine W.skip ?_
      refine N.block_normal ?_
      refine N.next ?_
      refine W.region ?_
      refine RL.q (Yld.move rfl) rfl ?_
      refine RL.q (Yld.bin rfl rfl (by first | exact BinV.add (by omega) (by omega) | exact BinV.addW)) rfl ?_
      refine RL.q (Yld.assign rfl) rfl ?_
      refine RL.nil ?_
      exact N.famK (j + 1) ⟨⟨by omega, kupd (P := fun z => Live (byKey z l) 0 (false, 0)) hI hk hlv⟩, by omega⟩ (.as rfl (by first | rfl | (simp; done) | (congr 1; simp; done) | (congr 1; omega)) .nil) (.cons rfl (.cons rfl .nil)) .nil (.cons rfl (.cons rfl (.cons rfl .nil)))
  ·
    have hend : j = (keysO l).length := by omega
    refine W.exit ?_
    refine N.then_exit ?_
    refine N.then_exit ?_
    refine N.block_eq ?_
    refine N.next ?_
    refine W.keep .nil (.cons (k := 0) rfl (.cons (k := 1) rfl (.cons (k := 140) rfl .nil))) ?_
    refine W.seq ?_
    refine W.region ?_
    refine RL.q (Yld.assign rfl) rfl ?_
    refine RL.nil ?_
    refine N.next ?_
    refine W.ret ?_
    exact N.retBy [1] (.cons (.tmp rfl) .nil) rfl rfl rfl rfl ⟨by rw [allLiveB_iff.2 (kall (P := fun z => Live (byKey z l) 0 (false, 0)) hI hend)]; rfl, rfl⟩

end Go.Proofs.Ytbgppnkccbhbpaa
