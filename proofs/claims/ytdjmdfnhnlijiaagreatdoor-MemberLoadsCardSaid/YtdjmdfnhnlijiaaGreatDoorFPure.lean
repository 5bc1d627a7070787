/- Quorums, what is agreed on, overlaps: in plain Lean. -/
import Derived.Test.YtdjmdfnhnlijiaaGreatDoorCPure
namespace Go.Proofs.YtdjmdfnhnlijiaaGreatDoor.Cfg
set_option linter.unusedVariables false

theorem maj_mono {l r s : List Int} (h : ∀ z, z ∈ r → z ∈ s) (hm : maj l r = true) : maj l s = true := by
  unfold maj at hm ⊢
  have h1 := of_decide_eq_true hm
  refine decide_eq_true ?_
  have : (l.filter fun z => decide (z ∈ r)).length ≤ (l.filter fun z => decide (z ∈ s)).length := by
    have hs : (l.filter fun z => decide (z ∈ r)) = (l.filter fun z => decide (z ∈ s)).filter (fun z => decide (z ∈ r)) := by
      rw [List.filter_filter]
      apply List.filter_congr
      intro z _
      by_cases hz : z ∈ r
      · simp [hz, h z hz]
      · simp [hz]
    rw [hs]; exact List.length_filter_le _ _
  omega
theorem quor_mono {o n r s : List Int} (h : ∀ z, z ∈ r → z ∈ s) (hq : quor o n r = true) : quor o n s = true := by
  unfold quor at hq ⊢
  simp only [Bool.and_eq_true, Bool.or_eq_true] at hq ⊢
  exact ⟨maj_mono h hq.1, hq.2.elim .inl (fun h1 => .inr (maj_mono h h1))⟩
theorem maj_on {l r s : List Int} (h : ∀ z, z ∈ l → (z ∈ r ↔ z ∈ s)) : maj l r = maj l s := by
  unfold maj
  congr 5
  apply List.filter_congr
  intro z hz
  exact decide_eq_decide.2 (h z hz)
theorem quor_on {o n r s : List Int} (h : ∀ z, (z ∈ o ∨ z ∈ n) → (z ∈ r ↔ z ∈ s)) : quor o n r = quor o n s := by
  unfold quor
  rw [maj_on fun z hz => h z (.inl hz), maj_on fun z hz => h z (.inr hz)]
theorem quor_nil {o n : List Int} : quor o n [] = false := by unfold quor; rw [maj_none]; rfl
theorem quor_voters {o n : List Int} (ho : setL o = o) (hn : setL n = n) (h0 : 0 < o.length) : quor o n (setL (o ++ n)) = true := by
  have := quor_all ho hn h0
  rwa [List.filter_eq_self.2 (fun _ _ => rfl)] at this
/-! ### what is agreed on -/
def agStep (o n : List Int) (q : Int → Int) (V : List Int) (b v : Int) : Int := if b < q v ∧ quor o n (V.filter fun r => !decide (q r < q v)) = true then q v else b
def agr (o n : List Int) (q : Int → Int) : Int := (setL (o ++ n)).foldl (agStep o n q (setL (o ++ n))) 0
theorem foldl_take {α β : Type} {f : β → α → β} {b : β} {l : List α} {i : Nat} {a : α} (h : l[i]? = some a) : (l.take (i + 1)).foldl f b = f ((l.take i).foldl f b) a := by
  rw [List.take_add_one, h, List.foldl_append]; rfl
theorem ag_ge {o n : List Int} {q : Int → Int} {V : List Int} (l : List Int) : ∀ b, b ≤ l.foldl (agStep o n q V) b := by
  induction l with
  | nil => exact fun b => Int.le_refl _
  | cons a r ih =>
    intro b
    rw [List.foldl_cons]
    refine Int.le_trans ?_ (ih _)
    unfold agStep; split
    · rename_i h; omega
    · exact Int.le_refl _
theorem ag_max {o n : List Int} {q : Int → Int} {V : List Int} {v : Int} (hq : quor o n (V.filter fun r => !decide (q r < q v)) = true) (l : List Int) : ∀ b, v ∈ l → q v ≤ l.foldl (agStep o n q V) b := by
  induction l with
  | nil => intro b h; cases h
  | cons a r ih =>
    intro b h
    rw [List.foldl_cons]
    rcases List.mem_cons.1 h with rfl | h1
    · refine Int.le_trans ?_ (ag_ge r _)
      unfold agStep
      by_cases hb : b < q v
      · rw [if_pos ⟨hb, hq⟩]; exact Int.le_refl _
      · rw [if_neg (fun h => hb h.1)]; omega
    · exact ih _ h1
theorem ag_quor {o n : List Int} {q : Int → Int} {V : List Int} (l : List Int) : ∀ b, l.foldl (agStep o n q V) b = b ∨ ∃ v, l.foldl (agStep o n q V) b = q v ∧ quor o n (V.filter fun r => !decide (q r < q v)) = true := by
  induction l with
  | nil => exact fun b => .inl rfl
  | cons a r ih =>
    intro b
    rw [List.foldl_cons]
    rcases ih (agStep o n q V b a) with h | h
    · unfold agStep at h ⊢
      split at h
      · rename_i h1; rw [if_pos h1]; exact .inr ⟨a, h, h1.2⟩
      · rename_i h1; rw [if_neg h1]; exact .inl h
    · exact .inr h
/-- of some numbers one is the least -/
theorem least_of (q : Int → Int) : ∀ {l : List Int}, l ≠ [] → ∃ v ∈ l, ∀ r ∈ l, q v ≤ q r
  | [], h => absurd rfl h
  | [a], _ => ⟨a, by simp, fun r hr => by simp at hr; subst hr; exact Int.le_refl _⟩
  | a :: b :: r, _ => by
    obtain ⟨v, hv, hl⟩ := least_of q (l := b :: r) (by simp)
    by_cases h : q a ≤ q v
    · exact ⟨a, by simp, fun x hx => by rcases List.mem_cons.1 hx with rfl | hx; exact Int.le_refl _; have := hl x hx; omega⟩
    · exact ⟨v, List.mem_cons_of_mem _ hv, fun x hx => by rcases List.mem_cons.1 hx with rfl | hx; omega; exact hl x hx⟩
theorem agr_nonneg {o n : List Int} {q : Int → Int} : 0 ≤ agr o n q := ag_ge _ 0
theorem agr_reached {o n : List Int} {q : Int → Int} (ho : setL o = o) (hn : setL n = n) (h0 : 0 < o.length) (hq : ∀ z ∈ setL (o ++ n), 0 ≤ q z) : quor o n ((setL (o ++ n)).filter fun z => decide (agr o n q ≤ q z)) = true := by
  rcases ag_quor (o := o) (n := n) (q := q) (V := setL (o ++ n)) (setL (o ++ n)) 0 with h | ⟨v, h, hv⟩
  · have e : agr o n q = 0 := h
    rw [e, List.filter_eq_self.2 (fun z hz => decide_eq_true (hq z hz))]
    exact quor_voters ho hn h0
  · have e : agr o n q = q v := h
    rw [e]
    refine quor_mono (fun z hz => ?_) hv
    rw [List.mem_filter] at hz ⊢
    exact ⟨hz.1, by have := hz.2; simp at this ⊢; omega⟩
theorem agr_more {o n : List Int} {q : Int → Int} : quor o n ((setL (o ++ n)).filter fun z => decide (agr o n q < q z)) = false := by
  cases hc : quor o n ((setL (o ++ n)).filter fun z => decide (agr o n q < q z)) with
  | false => rfl
  | true =>
    exfalso
    have hne : ((setL (o ++ n)).filter fun z => decide (agr o n q < q z)) ≠ [] := fun e => by rw [e, quor_nil] at hc; cases hc
    obtain ⟨v, hv, hl⟩ := least_of q hne
    have hv' := List.mem_filter.1 hv
    have h1 := of_decide_eq_true hv'.2
    have h2 : quor o n ((setL (o ++ n)).filter fun r => !decide (q r < q v)) = true := quor_mono (fun z hz => by
      have h3 := hl z hz
      rw [List.mem_filter] at hz ⊢
      exact ⟨hz.1, by simp; omega⟩) hc
    have h4 := ag_max h2 (setL (o ++ n)) 0 hv'.1
    have e : agr o n q = (setL (o ++ n)).foldl (agStep o n q (setL (o ++ n))) 0 := rfl
    omega
end Go.Proofs.YtdjmdfnhnlijiaaGreatDoor.Cfg
