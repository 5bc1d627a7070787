/-
  The library's sort, met by its contract of the kit, in the terms of the small separation logic.
-/
import Derived.Test.YtbgppnkccbhbpaaSlSlc
import Derived.Sort.Row
import Derived.Sort.Grow
namespace Go.Proofs.Ytbgppnkccbhbpaa.SL
set_option linter.unusedVariables false
open Go.RowKit Go.Sort

theorem flat_one {α : Type} (enc : α → Value) (l : List α) : (l.map fun a => [enc a]).flatten = l.map enc := by
  induction l with
  | nil => rfl
  | cons a l ih => simp [ih]

theorem sortCells {α : Type} [Inhabited α] (enc : α → Value) (l m : List α) (sp : List Value) (h : m.length = l.length) : putCells enc 0 m.toArray ((l.map fun a => [enc a]).flatten ++ sp).toArray = ((m.map fun a => [enc a]).flatten ++ sp).toArray := by
  rw [flat_one, flat_one]
  apply Array.ext
  · simp [putCells, h]
  · intro i h1 h2
    simp only [putCells, Array.getElem_mapIdx, List.size_toArray, Nat.zero_add, Nat.zero_le, true_and, Nat.sub_zero, List.getElem_toArray]
    by_cases hi : i < m.length
    · rw [if_pos hi, List.getElem_append_left (by simpa using hi)]
      simp [hi]
    · rw [if_neg hi, List.getElem_append_right (by simp; omega), List.getElem_append_right (by simp; omega)]
      simp [h]

theorem sort_ct_of {α : Type} [Inhabited α] {P : Program} {f : FuncId} (enc : α → Value) (srt : List α → List α) (hlen : ∀ l, (srt l).length = l.length) (h1c : ∀ a, (enc a).oneCell' = true)
    (h1 : ∀ (blk off cap : Nat) (zs : List α) (w : World), Holds enc w blk off zs.toArray → blk < w.heap.size → zs.length < 4611686018427387904 → Calls P f #[.slice (some ⟨blk, off, none⟩) zs.length cap] w fun e w' =>
      e = .returned (.tuple #[]) ∧ ∃ n os, w' = grow (putRow enc (Sort.ahead w n) blk off (srt zs).toArray) os)
    (h0 : ∀ (p : Option Addr) (cap : Nat) (w : World), Calls P f #[.slice p 0 cap] w fun e w' => e = .returned (.tuple #[]) ∧ w' = w)
    {H : PH} {p : Option Addr} {c e : Nat} {l : List α} (hO : Own H p c e 1 (l.map fun a => [enc a])) (hbig : l.length < 4611686018427387904) :
    Ct P f [.slice p l.length c] [H] (fun v Hs => v = .tuple #[] ∧ ∃ H', Own H' p c e 1 ((srt l).map fun a => [enc a]) ∧ Hs = [H']) := fun E F w hm => by
  obtain ⟨g1, g2, g3, g4⟩ := hO
  cases p with
  | none =>
    obtain ⟨hl, rfl, rfl⟩ := g4
    have hl0 : l = [] := List.map_eq_nil_iff.1 hl
    subst hl0
    have hs : srt [] = [] := List.length_eq_zero_iff.1 (by rw [hlen]; rfl)
    refine (h0 none 0 w).mono ?_
    rintro e w' ⟨rfl, rfl⟩
    exact ⟨_, _, rfl, ⟨rfl, emp, by rw [hs]; exact Own.nil _ _, rfl⟩, hm⟩
  | some a =>
    obtain ⟨b, o, s⟩ := a
    obtain ⟨g5, g6, sp, rfl, g7⟩ := g4
    simp only at g5 g6 g7
    subst g5; subst g6
    have hb : w.heap[b]? = some (.cells ((l.map fun a => [enc a]).flatten ++ sp).toArray e (0, 0)) := hm.sub 1 _ rfl b _ (single_self _ _)
    have hcell : ∀ o, w.cell? ⟨b, o, none⟩ = ((l.map fun a => [enc a]).flatten ++ sp)[o]? := fun o => by simp [World.cell?, hb]
    refine (h1 b 0 c l w (fun j hj => ⟨?_, ?_⟩) (Array.getElem?_eq_some_iff.1 hb).1 ?_).mono ?_
    · have hj' : j < l.length := by simpa using hj
      rw [hcell, Nat.zero_add, flat_one, List.getElem?_append_left (by simpa using hj')]
      simp [hj']
    · simp [World.frozen?, hb]
    · exact hbig
    · rintro e' w' ⟨rfl, n, os, rfl⟩
      have hlt := (Array.getElem?_eq_some_iff.1 hb).1
      have hnew : (grow (putRow enc (Sort.ahead w n) b 0 (srt l).toArray) os).heap[b]? = some (.cells (((srt l).map fun a => [enc a]).flatten ++ sp).toArray e (0, 0)) := by
        have hsz : b < (putRow enc (Sort.ahead w n) b 0 (srt l).toArray).heap.size := by simpa [putRow, mapBlock, Sort.ahead] using hlt
        simp only [grow, Array.getElem?_append_left hsz]
        simp only [putRow, mapBlock, Sort.ahead, Array.getElem?_modify, if_true, hb, Option.map_some, onCells]
        rw [sortCells enc l (srt l) sp (hlen l)]
      have hm' := hm.set (w' := grow (putRow enc (Sort.ahead w n) b 0 (srt l).toArray) os) 1 (G := single b (.cells ((l.map fun a => [enc a]).flatten ++ sp).toArray e (0, 0))) (H := single b (.cells (((srt l).map fun a => [enc a]).flatten ++ sp).toArray e (0, 0))) (.inl rfl)
        ⟨rfl, rfl, by simp [grow, putRow, mapBlock, Sort.ahead], fun k hk hD => by
          have hkb : k ≠ b := fun e => hD ⟨_, by rw [e]; exact single_self _ _⟩
          have hsz : k < (putRow enc (Sort.ahead w n) b 0 (srt l).toArray).heap.size := by simpa [putRow, mapBlock, Sort.ahead] using hk
          simp only [grow, Array.getElem?_append_left hsz]
          simp only [putRow, mapBlock, Sort.ahead, Array.getElem?_modify]
          rw [if_neg (fun e => hkb e.symm)]⟩
        (fun k x hk => by obtain ⟨rfl, rfl⟩ := single_inv hk; exact hnew)
        (fun k x hk => by obtain ⟨rfl, rfl⟩ := single_inv hk; exact .inl ⟨_, single_self _ _⟩)
      refine ⟨_, _, rfl, ⟨rfl, _, ⟨fun r hr => ?_, ?_, g3, rfl, rfl, sp, rfl, ?_⟩, rfl⟩, hm'.weak fun i J h => ?_⟩
      · obtain ⟨z, _, rfl⟩ := List.mem_map.1 hr
        exact ⟨rfl, fun v hv => by simp only [List.mem_singleton] at hv; subst hv; exact h1c z⟩
      · rw [List.length_map, hlen]; simpa using g2
      · rw [flat_one] at g7 ⊢
        simpa [hlen] using g7
      · unfold lab lab at h
        simp only [lk_cons] at h ⊢
        split at h
        · rename_i e0; subst e0; cases h; simp
        · split at h
          · rename_i e0 e1; subst e1; cases h; simp
          · cases h
end Go.Proofs.Ytbgppnkccbhbpaa.SL
