/- Logs: in plain Lean. -/
import Derived.Test.YtdkefpnebmmhlaaRPure
namespace Go.Proofs.Ytdkefpnebmmhlaa.Rep
set_option linter.unusedVariables false
open Cfg

structure En where
  ix : Int
  tm : Int
  cl : Int
  deriving DecidableEq
structure Lg where
  ix : Int
  tm : Int
  es : List En
structure LOK (g : Lg) : Prop where
  i0 : 0 ≤ g.ix
  i1 : g.ix ≤ 1099511627776
  con : ∀ (i : Nat) e, g.es[i]? = some e → e.ix = g.ix + 1 + i
  len : g.es.length ≤ 1000
def Lg.last (g : Lg) : Int × Int := match g.es[g.es.length - 1]? with
  | some e => (e.ix, e.tm)
  | none => (g.ix, g.tm)
def Lg.term (g : Lg) (i : Int) : Int × Bool := if i = g.ix then (g.tm, true) else if i < g.ix ∨ (g.es.length : Int) < i - g.ix then (0, false) else match g.es[(i - g.ix - 1).toNat]? with
  | some e => (e.tm, true)
  | none => (0, false)
def Lg.put (g : Lg) (t c : Int) : Lg := { g with es := g.es ++ [⟨g.last.1 + 1, t, c⟩] }
theorem Lg.last_ix {g : Lg} (h : LOK g) : g.last.1 = g.ix + g.es.length := by
  unfold Lg.last
  cases he : g.es[g.es.length - 1]? with
  | none =>
    have : g.es.length = 0 := by have := List.getElem?_eq_none_iff.1 he; omega
    simp [this]
  | some e =>
    have h1 := h.con _ e he
    have h2 := (List.getElem?_eq_some_iff.1 he).1
    dsimp only; omega
theorem LOK.put {g : Lg} (h : LOK g) {t c : Int} (hl : g.es.length < 1000) : LOK (g.put t c) := by
  refine ⟨h.i0, h.i1, fun i e he => ?_, by simp [Lg.put]; omega⟩
  have hl2 := Lg.last_ix h
  simp only [Lg.put] at he ⊢
  rcases Nat.lt_or_ge i g.es.length with h1 | h1
  · rw [List.getElem?_append_left h1] at he; exact h.con i e he
  · rw [List.getElem?_append_right h1] at he
    cases hk : i - g.es.length with
    | zero => rw [hk] at he; simp at he; subst he; simp only [hl2]; omega
    | succ m => rw [hk] at he; simp at he
def Lg.at (g : Lg) (i : Int) : Nat := (max i (g.ix + 1) - g.ix - 1).toNat
def Lg.fr (g : Lg) (i m : Int) : List En := if (g.es.length : Int) ≤ g.at i ∨ m ≤ 0 then [] else (g.es.take (min (g.es.length : Int) (g.at i + min m g.es.length)).toNat).drop (g.at i)
theorem Lg.fr_len {g : Lg} {i m : Int} : (g.fr i m).length ≤ g.es.length := by
  unfold Lg.fr
  split
  · simp
  · simp; omega
/-- what the reference collects is what the program cuts out -/
theorem Lg.fr_ref {g : Lg} {i m : Int} {j : Nat} (hj : j ≤ g.es.length) (hi : j = 0 ∨ j ≤ g.at i ∨ (j : Int) - g.at i ≤ m) (hm : m ≤ 0 → j = 0) (hend : j = g.es.length ∨ m ≤ ((g.es.take j).drop (g.at i)).length) : (g.es.take j).drop (g.at i) = g.fr i m := by
  have hlen : ((g.es.take j).drop (g.at i)).length = j - g.at i := by rw [List.length_drop, List.length_take]; omega
  rw [hlen] at hend
  unfold Lg.fr
  split
  · rename_i h
    apply List.eq_nil_of_length_eq_zero
    rw [hlen]
    rcases h with h | h
    · omega
    · have := hm h; omega
  · rename_i h
    congr 2
    omega
theorem take_snoc {g : Lg} {j n : Nat} {e : En} (he : g.es[j]? = some e) : (g.es.take (j + 1)).drop n = if n ≤ j then (g.es.take j).drop n ++ [e] else (g.es.take j).drop n := by
  have hlt := (List.getElem?_eq_some_iff.1 he).1
  rw [List.take_add_one, he]
  split
  · rename_i h
    rw [List.drop_append_of_le_length (by rw [List.length_take]; omega)]; rfl
  · rename_i h
    rw [List.drop_of_length_le (by simp; omega), List.drop_of_length_le (by simp; omega)]
theorem set_same {α : Type} {l : List α} {i : Nat} {a : α} (h : l[i]? = some a) : l.set i a = l := by
  apply List.ext_getElem?
  intro j
  rw [List.getElem?_set]
  by_cases e : i = j
  · subst e; rw [if_pos rfl, if_pos (List.getElem?_eq_some_iff.1 h).1, h]
  · rw [if_neg e]
/-- what is sent to a member -/
def batch (ms : List Mb) (g : Lg) (a sz : Int) : Int × Int × List En × Bool := match fnd ms a with
  | none => (0, 0, [], false)
  | some x => if x.nx ≤ g.ix then (0, 0, [], true) else (min (x.nx - 1) g.last.1, (g.term (min (x.nx - 1) g.last.1)).1, g.fr (min (x.nx - 1) g.last.1 + 1) sz, false)
end Go.Proofs.Ytdkefpnebmmhlaa.Rep
