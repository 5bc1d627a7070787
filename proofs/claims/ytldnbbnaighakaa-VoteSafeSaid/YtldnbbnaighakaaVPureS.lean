/- An election: in plain Lean. -/
import Derived.Test.YtldnbbnaighakaaVPure
namespace Go.Proofs.Ytldnbbnaighakaa.Vote
set_option linter.unusedVariables false
open Cfg

def updV (V : Nat → Vt) (i : Nat) (v : Vt) : Nat → Vt := fun j => if j = i then v else V j
def gset (g : Int → Nat → Int) (t : Int) (i : Nat) (c : Int) : Int → Nat → Int := fun t' j => if t' = t ∧ j = i then c else g t' j
theorem updV_self (V : Nat → Vt) (i : Nat) (v : Vt) : updV V i v i = v := if_pos rfl
theorem updV_ne (V : Nat → Vt) {i j : Nat} (v : Vt) (h : j ≠ i) : updV V i v j = V j := if_neg h

/-- what an election is between two calls: g tells whom a voter has voted for in a term, W who has won -/
structure EOK (o n : List Int) (k : Nat) (V : Nat → Vt) (g : Int → Nat → Int) (W : Int → Int → Prop) : Prop where
  ok : ∀ i, i < 5 → VOK k (V i)
  me : ∀ i, i < 5 → (V i).me = (i : Int) + 1
  now : ∀ i, i < 5 → g (V i).tm i = (V i).vd
  up : ∀ i, i < 5 → ∀ t, (V i).tm < t → g t i = 0
  cand : ∀ i, i < 5 → ∀ l, (V i).vs = some l → ∀ z ∈ l, ∃ j : Nat, j < 5 ∧ z = (j : Int) + 1 ∧ g (V i).tm j = (i : Int) + 1
  win : ∀ t c, W t c → 1 ≤ c ∧ ∃ S, maj o S = true ∧ ∀ z ∈ S, ∃ j : Nat, j < 5 ∧ z = (j : Int) + 1 ∧ g t j = c
section
variable {o n : List Int} {k : Nat} {V : Nat → Vt} {g : Int → Nat → Int} {W : Int → Int → Prop}
theorem EOK.one (h : EOK o n k V g W) {t c d : Int} (hc : W t c) (hd : W t d) : c = d := by
  obtain ⟨_, S, m1, h1⟩ := h.win t c hc
  obtain ⟨_, S', m2, h2⟩ := h.win t d hd
  obtain ⟨z, _, z1, z2⟩ := maj_meet m1 m2
  obtain ⟨j, _, e1, g1⟩ := h1 z z1
  obtain ⟨j', _, e2, g2⟩ := h2 z z2
  obtain rfl : j = j' := by omega
  rw [← g1, ← g2]
theorem EOK.up1 (h : EOK o n k V g W) {m : Nat} (hm : k ≤ m) : EOK o n m V g W := ⟨fun i hi => (h.ok i hi).le hm, h.me, h.now, h.up, h.cand, h.win⟩
/-- one voter anew, with its votes of the ghost: what was told stays told -/
theorem EOK.turn (h : EOK o n k V g W) {m : Nat} (hm : k ≤ m) {i : Nat} (hi : i < 5) {v : Vt} {g' : Int → Nat → Int} (hok : VOK m v) (hme : v.me = (i : Int) + 1)
    (hother : ∀ t j, j ≠ i → g' t j = g t j) (hkeep : ∀ t c, c ≠ 0 → g t i = c → g' t i = c) (hnow : g' v.tm i = v.vd) (hup : ∀ t, v.tm < t → g' t i = 0)
    (hc : ∀ l, v.vs = some l → ∀ z ∈ l, ∃ j : Nat, j < 5 ∧ z = (j : Int) + 1 ∧ g' v.tm j = (i : Int) + 1) : EOK o n m (updV V i v) g' W := by
  have hk : ∀ t j c, c ≠ 0 → g t j = c → g' t j = c := fun t j c h0 hg => by
    by_cases e : j = i
    · subst e; exact hkeep t c h0 hg
    · rw [hother t j e]; exact hg
  refine ⟨fun j hj => ?_, fun j hj => ?_, fun j hj => ?_, fun j hj t ht => ?_, fun j hj l hl z hz => ?_, fun t c hw => ?_⟩
  · by_cases e : j = i
    · subst e; rw [updV_self]; exact hok
    · rw [updV_ne V v e]; exact (h.ok j hj).le hm
  · by_cases e : j = i
    · subst e; rw [updV_self]; exact hme
    · rw [updV_ne V v e]; exact h.me j hj
  · by_cases e : j = i
    · subst e; rw [updV_self]; exact hnow
    · rw [updV_ne V v e, hother _ _ e]; exact h.now j hj
  · by_cases e : j = i
    · subst e; rw [updV_self] at ht; exact hup t ht
    · rw [updV_ne V v e] at ht; rw [hother _ _ e]; exact h.up j hj t ht
  · by_cases e : j = i
    · subst e; rw [updV_self] at hl ⊢; exact hc l hl z hz
    · rw [updV_ne V v e] at hl ⊢
      obtain ⟨q, hq, e1, e2⟩ := h.cand j hj l hl z hz
      exact ⟨q, hq, e1, hk _ _ _ (by omega) e2⟩
  · obtain ⟨h1, S, h2, h3⟩ := h.win t c hw
    exact ⟨h1, S, h2, fun z hz => by obtain ⟨q, hq, e1, e2⟩ := h3 z hz; exact ⟨q, hq, e1, hk _ _ _ (by omega) e2⟩⟩
theorem EOK.camp (h : EOK o n k V g W) {i : Nat} (hi : i < 5) : EOK o n (k + 1) (updV V i (camp (V i))) (gset g ((V i).tm + 1) i ((i : Int) + 1)) W := by
  have hme := h.me i hi
  refine h.turn (Nat.le_succ k) hi (h.ok i hi).camp hme (fun t j hj => if_neg (fun e => hj e.2)) (fun t c h0 hg => ?_) ?_ (fun t ht => ?_) (fun l hl z hz => ?_)
  · unfold gset
    split
    · rename_i e
      rw [e.1, h.up i hi _ (by omega)] at hg; exact absurd hg.symm h0
    · exact hg
  · show gset g ((V i).tm + 1) i _ ((V i).tm + 1) i = (V i).me
    rw [hme]; exact if_pos ⟨rfl, rfl⟩
  · have ht : (V i).tm + 1 < t := ht
    unfold gset
    rw [if_neg (by omega)]
    exact h.up i hi t (by omega)
  · have hl : some [(V i).me] = some l := hl
    cases hl
    simp only [List.mem_singleton] at hz
    exact ⟨i, hi, by rw [hz, hme], if_pos ⟨rfl, rfl⟩⟩
theorem EOK.obs (h : EOK o n k V g W) {i : Nat} (hi : i < 5) {t : Int} (ht : t ≤ 1099511627776 + k) : EOK o n k (updV V i (obs (V i) t)) g W := by
  have hok := (h.ok i hi).obs ht
  unfold Vote.obs at hok ⊢
  split at hok
  · rename_i hle
    rw [if_pos hle]
    exact h.turn (Nat.le_refl k) hi hok (h.me i hi) (fun _ _ _ => rfl) (fun _ _ _ e => e) (h.now i hi) (h.up i hi) (h.cand i hi)
  · rename_i hle
    rw [if_neg hle]
    exact h.turn (Nat.le_refl k) hi hok (h.me i hi) (fun _ _ _ => rfl) (fun _ _ _ e => e) (h.up i hi t (by omega)) (fun t' ht' => h.up i hi t' (by have ht' : t < t' := ht'; omega)) (fun l hl => by cases hl)
theorem gno_false {v : Vt} {c t : Int} {y : Bool} (h : gno v c t y = false) : t = v.tm ∧ 1 ≤ c ∧ (v.vd = 0 ∨ v.vd = c) := by
  unfold gno at h
  simp only [Bool.or_eq_false_iff, decide_eq_false_iff_not, Bool.and_eq_false_iff] at h
  obtain ⟨⟨⟨⟨h1, _⟩, h2⟩, h3⟩, _⟩ := h
  exact ⟨by omega, by omega, by omega⟩
/-- what a grant tells -/
def gtold (g : Int → Nat → Int) (v : Vt) (i : Nat) (c t : Int) (y : Bool) : Int → Nat → Int := if gno v c t y = true then g else gset g v.tm i c
theorem EOK.gr (h : EOK o n k V g W) {i : Nat} (hi : i < 5) {c t : Int} {y : Bool} : EOK o n k (updV V i (gr (V i) c t y)) (gtold g (V i) i c t y) W := by
  have hok := (h.ok i hi).gr (c := c) (t := t) (n := y)
  unfold Vote.gr at hok ⊢
  unfold gtold
  split at hok
  · rename_i hn
    rw [if_pos hn, if_pos hn]
    exact h.turn (Nat.le_refl k) hi hok (h.me i hi) (fun _ _ _ => rfl) (fun _ _ _ e => e) (h.now i hi) (h.up i hi) (h.cand i hi)
  · rename_i hn
    rw [if_neg hn, if_neg hn]
    obtain ⟨h1, h2, h3⟩ := gno_false (Bool.eq_false_iff.2 hn)
    have hnow := h.now i hi
    have keep : ∀ t' c', c' ≠ 0 → g t' i = c' → gset g (V i).tm i c t' i = c' := fun t' c' h0 hg => by
      unfold gset
      split
      · rename_i e
        rw [e.1, hnow] at hg; omega
      · exact hg
    refine h.turn (Nat.le_refl k) hi hok (h.me i hi) (fun t j hj => if_neg (fun e => hj e.2)) keep (if_pos ⟨rfl, rfl⟩) (fun t' ht' => ?_) (fun l hl z hz => ?_)
    · have ht' : (V i).tm < t' := ht'
      unfold gset
      rw [if_neg (by omega)]; exact h.up i hi t' ht'
    · obtain ⟨q, hq, e1, e2⟩ := h.cand i hi l hl z hz
      refine ⟨q, hq, e1, ?_⟩
      by_cases e : q = i
      · subst e; exact keep _ _ (by omega) e2
      · show gset g (V i).tm i c (V i).tm q = _
        unfold gset; rw [if_neg (fun hh => e hh.2)]; exact e2
theorem EOK.cnt (h : EOK o n k V g W) {i b : Nat} (hi : i < 5) (hb : b < 5) {y : Bool} (hy : y = true → g (V i).tm b = (i : Int) + 1) : EOK o n (k + 1) (updV V i (cnt (V i) ((b : Int) + 1) (V i).tm y)) g W := by
  have hok := (h.ok i hi).cnt (f := (b : Int) + 1) (t := (V i).tm) (g := y)
  unfold Vote.cnt at hok ⊢
  split at hok
  · rename_i hn
    rw [if_pos hn]
    exact h.turn (Nat.le_succ k) hi hok (h.me i hi) (fun _ _ _ => rfl) (fun _ _ _ e => e) (h.now i hi) (h.up i hi) (h.cand i hi)
  · rename_i hn
    rw [if_neg hn]
    have hcn := Bool.eq_false_iff.2 hn
    unfold cno at hcn
    simp only [Bool.or_eq_false_iff, Bool.not_eq_false'] at hcn
    obtain ⟨⟨⟨⟨h1, h2⟩, h3⟩, h4⟩, h5⟩ := hcn
    refine h.turn (Nat.le_succ k) hi hok (h.me i hi) (fun _ _ _ => rfl) (fun _ _ _ e => e) (h.now i hi) (h.up i hi) (fun l hl z hz => ?_)
    obtain ⟨l0, hl0⟩ := Option.isSome_iff_exists.1 h1
    have hl : some ((V i).vs.getD [] ++ [(b : Int) + 1]) = some l := hl
    rw [hl0] at hl
    cases hl
    rcases List.mem_append.1 hz with hz | hz
    · exact h.cand i hi l0 hl0 z hz
    · simp only [List.mem_singleton] at hz
      exact ⟨b, hb, hz, hy h3⟩
theorem EOK.anew (h : EOK o n k V g W) {i : Nat} (hi : i < 5) : EOK o n k (updV V i (nw ((i : Int) + 1) (V i).tm (V i).vd)) g W := by
  have hv := h.ok i hi
  have h0 := hv.t0
  have h1 := hv.d0
  have e1 : max (V i).tm 0 = (V i).tm := by omega
  have e2 : max (V i).vd 0 = (V i).vd := by omega
  have : nw ((i : Int) + 1) (V i).tm (V i).vd = ⟨(i : Int) + 1, (V i).tm, (V i).vd, none⟩ := by unfold nw; rw [e1, e2]
  rw [this]
  exact h.turn (Nat.le_refl k) hi ⟨by show 1 ≤ (i : Int) + 1; omega, h0, hv.t1, h1, fun l hl => by cases hl⟩ rfl (fun _ _ _ => rfl) (fun _ _ _ e => e) (h.now i hi) (h.up i hi) (fun l hl => by cases hl)
def wput (W : Int → Int → Prop) (t c : Int) : Int → Int → Prop := fun t' c' => W t' c' ∨ (t' = t ∧ c' = c)
theorem EOK.record (h : EOK o n k V g W) {i : Nat} (hi : i < 5) (hw : won (V i) o n = true) : EOK o n k V g (wput W (V i).tm ((i : Int) + 1)) := by
  refine ⟨h.ok, h.me, h.now, h.up, h.cand, fun t c hc => ?_⟩
  rcases hc with hc | ⟨rfl, rfl⟩
  · exact h.win t c hc
  · unfold won at hw
    rw [Bool.and_eq_true] at hw
    obtain ⟨l, hl⟩ := Option.isSome_iff_exists.1 hw.1
    rw [hl] at hw
    have hq : quor o n l = true := hw.2
    unfold quor at hq
    rw [Bool.and_eq_true] at hq
    exact ⟨by omega, l, hq.1, fun z hz => h.cand i hi l hl z hz⟩
theorem EOK.start (o n : List Int) : EOK o n 0 (fun i => nw ((i : Int) + 1) 0 0) (fun _ _ => 0) (fun _ _ => False) :=
  ⟨fun i hi => ⟨by show 1 ≤ (i : Int) + 1; omega, by show (0 : Int) ≤ max 0 0; omega, by show max (0 : Int) 0 ≤ _; omega, by show (0 : Int) ≤ max 0 0; omega, fun l hl => by cases hl⟩, fun i hi => rfl, fun i hi => rfl, fun _ _ _ _ => rfl, fun i hi l hl => (by cases hl), fun _ _ h => h.elim⟩
/-- a vote asked for and counted -/
theorem EOK.ask (h : EOK o n k V g W) {a b : Nat} (ha : a < 5) (hb : b < 5) (hab : a ≠ b) {y : Bool} {v2 v3 : Vt} (e2 : Vote.obs (V b) (V a).tm = v2) (e3 : Vote.gr v2 ((a : Int) + 1) (V a).tm y = v3) :
    ∃ g', EOK o n (k + 1) (updV (updV V b v3) a (Vote.cnt (V a) ((b : Int) + 1) (V a).tm (!gno v2 ((a : Int) + 1) (V a).tm y))) g' W := by
  have hva := (h.ok a ha).t1
  have h1 := h.obs hb hva
  rw [e2] at h1
  have h2 := h1.gr hb (c := (a : Int) + 1) (t := (V a).tm) (y := y)
  rw [updV_self, e3] at h2
  have e4 : updV (updV V b v2) b v3 = updV V b v3 := by funext j; unfold updV; split <;> rfl
  rw [e4] at h2
  have ea : updV V b v3 a = V a := updV_ne V v3 hab
  have h3 := h2.cnt ha hb (y := !gno v2 ((a : Int) + 1) (V a).tm y) (by
    intro hy
    rw [ea]
    have hn : gno v2 ((a : Int) + 1) (V a).tm y = false := by simpa using hy
    have ht := (gno_false hn).1
    unfold gtold
    rw [if_neg (by rw [hn]; decide)]
    exact if_pos ⟨ht, rfl⟩)
  rw [ea] at h3
  exact ⟨_, h3⟩
end
end Go.Proofs.Ytldnbbnaighakaa.Vote
