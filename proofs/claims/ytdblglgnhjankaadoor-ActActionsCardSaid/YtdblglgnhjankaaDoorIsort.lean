/- Insertion by swaps: in plain Lean. -/
import Derived.Test.YtdblglgnhjankaaDoorCPure
namespace Go.Proofs.YtdblglgnhjankaaDoor.Cfg
set_option linter.unusedVariables false
/-- below n, what stands at another place than k is not less than what stands before it -/
def IsI {α : Type} (f : α → Int) (ls : List α) (n k : Nat) : Prop :=
  ∀ (p q : Nat) (a b : α), p < q → q < n → q ≠ k → ls[p]? = some a → ls[q]? = some b → f a ≤ f b
theorem IsI.start {α : Type} {f : α → Int} {ls : List α} : IsI f ls 1 1 := fun p q a b h1 h2 => by omega
theorem IsI.inner {α : Type} {f : α → Int} {ls : List α} {n : Nat} (h : IsI f ls n n) : IsI f ls (n + 1) n := fun p q a b h1 h2 h3 => h p q a b h1 (by omega) (by omega)
theorem IsI.top {α : Type} {f : α → Int} {ls : List α} {n k : Nat} (h : IsI f ls n k) (hk : k = 0 ∨ ∀ a b, ls[k - 1]? = some a → ls[k]? = some b → f a ≤ f b) : IsI f ls n n := fun p q a b h1 h2 h3 ha hb => by
  by_cases e : q = k
  · subst e
    rcases hk with hk | hk
    · omega
    · have hlt : q - 1 < ls.length := by have := (List.getElem?_eq_some_iff.1 hb).1; omega
      have hc := hk ls[q - 1] b (List.getElem?_eq_getElem hlt) hb
      by_cases e2 : p = q - 1
      · subst e2; rw [List.getElem?_eq_getElem hlt] at ha; cases ha; exact hc
      · have := h p (q - 1) a _ (by omega) (by omega) (by omega) ha (List.getElem?_eq_getElem hlt); omega
  · exact h p q a b h1 h2 e ha hb
theorem IsI.step {α : Type} {f : α → Int} {ls : List α} {n k : Nat} {a b : α} (h : IsI f ls n k) (hk : 0 < k) (hkn : k < n) (ha : ls[k]? = some a) (hb : ls[k - 1]? = some b) (hlt : f a < f b) : IsI f ((ls.set k b).set (k - 1) a) n (k - 1) := fun p q x y h1 h2 h3 hx hy => by
  have hl := (List.getElem?_eq_some_iff.1 ha).1
  rw [List.getElem?_set, List.getElem?_set, List.length_set] at hx hy
  rw [if_neg (by omega)] at hy
  by_cases e : k = q
  · subst e
    rw [if_pos rfl, if_pos hl] at hy; cases hy
    by_cases e2 : k - 1 = p
    · rw [if_pos e2, if_pos (by omega)] at hx; cases hx; omega
    · rw [if_neg e2, if_neg (by omega)] at hx
      exact h p (k - 1) x b (by omega) (by omega) (by omega) hx hb
  · rw [if_neg e] at hy
    by_cases e2 : k - 1 = p
    · rw [if_pos e2, if_pos (by omega)] at hx; cases hx
      exact h k q a y (by omega) h2 (by omega) ha hy
    · rw [if_neg e2] at hx
      by_cases e3 : k = p
      · rw [if_pos e3, if_pos hl] at hx; cases hx
        exact h (k - 1) q b y (by omega) h2 (by omega) hb hy
      · rw [if_neg e3] at hx
        by_cases e4 : q = k
        · omega
        · exact h p q x y h1 h2 e4 hx hy
theorem swap_perm {α : Type} {ls : List α} {i k : Nat} {a b : α} (ha : ls[k]? = some a) (hb : ls[i]? = some b) : ((ls.set k b).set i a).Perm ls := by
  obtain ⟨hl, rfl⟩ := List.getElem?_eq_some_iff.1 ha
  obtain ⟨hl2, rfl⟩ := List.getElem?_eq_some_iff.1 hb
  exact List.set_set_perm hl hl2
theorem IsI.sorted {α : Type} {f : α → Int} {ls : List α} {n : Nat} (h : IsI f ls n n) (hn : ls.length ≤ n) : ls.Pairwise (fun a b => f a ≤ f b) := by
  rw [List.pairwise_iff_getElem]
  intro i j hi hj hij
  exact h i j _ _ hij (by omega) (by omega) (List.getElem?_eq_getElem hi) (List.getElem?_eq_getElem hj)
end Go.Proofs.YtdblglgnhjankaaDoor.Cfg
