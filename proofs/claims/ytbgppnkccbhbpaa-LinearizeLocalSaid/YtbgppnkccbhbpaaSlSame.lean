/-
  A store of what lies there already: the piece stays as it was.
-/
import Derived.Test.YtbgppnkccbhbpaaSlRng
namespace Go.Proofs.Ytbgppnkccbhbpaa.SL
set_option linter.unusedVariables false
variable {X : Cx} {σ : Loc} {L : Sh} {ty T : TypeId} {x y : Operand}
theorem Eff.storeRowSame {p : Option Addr} {c e m j i tc k : Nat} {H : PH} {ls : List (List Value)} {l vs : List Value} {v : Value} (hn : sz X.P T k) (hx : ev σ x = some (.pointer (some ⟨(rowAt p (i * m)).block, (rowAt p (i * m)).off + j, none⟩))) (hy : ev σ y = some v) (hL : lk L tc = some H)
    (hO : Own H p c e m ls) (hl : ls[i]? = some l) (hv : v.cells = vs.toArray) (hvl : vs.length = k) (hj : Nat.ble (j + k) m = true) (h1 : vs.all (·.oneCell') = true) (hl' : putAt l j vs = l) :
    Eff X (.store T x y) ty σ L (fun _ L' => L' = L) := by
  have hjm := Nat.le_of_ble_eq_true hj
  obtain ⟨o1, o2, o3, o4⟩ := hO
  have hi := (List.getElem?_eq_some_iff.1 hl).1
  have hlen := (o1 l (List.mem_of_getElem? hl)).1
  cases p with
  | none => obtain ⟨rfl, _⟩ := o4; simp at hl
  | some a =>
    obtain ⟨a1, a2, sp, rfl, a4⟩ := o4
    have hput := flat_put (m := m) (sp := sp) (j := j) (vs := vs) (by omega) ls i l (fun l h => (o1 l h).1) hl
    have hsame : ls.set i l = ls := by
      apply List.ext_getElem?
      intro q
      rw [List.getElem?_set]
      by_cases e : i = q
      · subst e; rw [if_pos rfl, if_pos hi, hl]
      · rw [if_neg e]
    rw [hl', hsame] at hput
    have hflat := flatten_length (ls := ls) (n := m) (fun l h => (o1 l h).1)
    have hle : i * m + j + k ≤ (ls.flatten ++ sp).length := by
      rw [List.length_append, hflat]
      have : (i + 1) * m ≤ ls.length * m := Nat.mul_le_mul_right m hi
      rw [Nat.succ_mul] at this; omega
    have e0 : (rowAt (some a) (i * m)).off + j = i * m + j := by simp [a1]
    have := Eff.storeS (X := X) (σ := σ) (L := L) (ty := ty) (T := T) (x := x) (y := y) (b := a.block) (o := i * m + j) vs hn (by rw [hx]; simp [a1]) hy hL hv hvl (by rw [Nat.ble_eq]; exact hle) h1 hput
    refine fun a' w ha hm o ho ht K Q hK => this a' w ha hm o ho ht K Q ?_
    rintro u L' w' rfl hm'
    refine hK u _ w' rfl (hm'.weak fun q z hq => ?_)
    rw [lk_cons]
    split
    · rename_i e'; subst e'; rw [hL] at hq; exact hq
    · exact hq
end Go.Proofs.Ytbgppnkccbhbpaa.SL
