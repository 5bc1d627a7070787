/-
  Entry: arguments that are structs, and the slices among their fields.
-/
import Derived.Test.YtbgppnkccbhbpaaSlEntry
namespace Go.Proofs.Ytbgppnkccbhbpaa.SL
open Go.RowKit Go.ChangeShapes Go.WideShapes Go.ChangeAt
set_option linter.unusedVariables false
variable {H : Type} {enc : TypeId × Value → H} {P : Program} {w : World}

theorem struct_arg {base m : Nat} {t : TypeId} {fs : Array Field} {ks : List Kd} {v : Value} {d : DataW H} {ps : List MemPlace} (ht : P.underlying t = some (.struct fs)) (hk : kds P m t = some ks)
    (hok : Value.okWide P w .any base t v) (h : DataW.Trod enc P w 0 (fun _ => true) true t v d ps) : ∃ cs : List Value, v = .agg cs.toArray ∧ Fit enc P w ks cs := by
  obtain ⟨cs, rfl, _⟩ := okWide_struct ht hok
  obtain ⟨n, h⟩ := h
  exact ⟨cs.toList, by simp, kds_fit m t ks n _ _ hk h⟩

theorem field_ok {base i : Nat} {t u e : TypeId} {fs : Array Field} {ts : List TypeId} {cs : List Value} {v : Value} (hok : Value.okWide P w .any base t (.agg cs.toArray)) (ht : P.underlying t = some (.struct fs)) (hts : P.cellTypes P.depth t = some ts) (hi : cs[i]? = some v) (hu : ts[i]? = some u)
    (hue : P.underlying u = some (.slice e)) : Value.okWide P w .any base u v := by
  unfold Value.okWide at hok
  rw [ht] at hok
  obtain ⟨cs', hcs, _, ts', hts', _, hrow⟩ := hok
  cases hcs
  rw [hts] at hts'
  cases hts'
  obtain ⟨u', hu', hcell⟩ := hrow i v (by simpa using hi)
  have hlt := (List.getElem?_eq_some_iff.1 hu).1
  rw [Nat.mod_eq_of_lt hlt, hu] at hu'
  cases hu'
  unfold Value.okWide
  rw [hue]
  exact hcell

/-- a slice among the fields as rows of cells -/
theorem field_slice {base m i : Nat} {t u e : TypeId} {fs : Array Field} {ts : List TypeId} {ks : List Kd} {cs : List Value} {v : Value} (hok : Value.okWide P w .any base t (.agg cs.toArray)) (ht : P.underlying t = some (.struct fs)) (hts : P.cellTypes P.depth t = some ts) (hi : cs[i]? = some v) (hu : ts[i]? = some u)
    (hue : P.underlying u = some (.slice e)) (hk : kds P m e = some ks) (hc : P.cellsOf e = ks.length) (hat : Kd.ok enc P w (.at u) v) : ∃ p c ls, v = .slice p ls.length c ∧ Sl (oldH w) p c ks.length ls ∧ ∀ l ∈ ls, Fit enc P w ks l := by
  have hv := field_ok hok ht hts hi hu hue
  obtain ⟨n, ⟨d, ps⟩, hx⟩ := hat
  obtain ⟨a0, len, cap, rfl⟩ := okWide_slice hue hv
  exact slice_arg hue hk hc hv ⟨n, by simpa [Value.cells] using hx⟩

theorem at_slice {m : Nat} {u e : TypeId} {ks : List Kd} {v : Value} (hue : P.underlying u = some (.slice e)) (hk : kds P m e = some ks) (hc : P.cellsOf e = ks.length) (hpos : 0 < ks.length) (hat : Kd.ok enc P w (.at u) v) :
    ∃ p c ls, v = .slice p ls.length c ∧ Sl (oldH w) p c ks.length ls ∧ ∀ l ∈ ls, Fit enc P w ks l := by
  obtain ⟨n, ⟨d, ps⟩, hat⟩ := hat
  rcases Go.Deep.open_slice hue hat with ⟨h0, _⟩ | ⟨a, len, cap, m', n', D, Pl, h0, _, hl, hm, hmc, _, hx⟩
  · cases h0
    exact ⟨none, 0, [], rfl, ⟨rfl, rfl⟩, fun l hl => by cases hl⟩
  · cases h0
    obtain rfl : m' = cap := hmc
    rcases Nat.eq_zero_or_pos m' with h | h
    · subst h
      obtain rfl : len = 0 := by omega
      exact ⟨some a, 0, [], rfl, ⟨by simp, by simp [maxLen], fun h => absurd h (Nat.lt_irrefl _)⟩, fun l hl => by cases hl⟩
    · have hx' : ∀ i, i < m' → ∃ l : List Value, w.cells? 0 (a.add (i * ks.length)) ks.length = some l ∧ Fit enc P w ks l := by
        intro i hi
        obtain ⟨l, h1, h2⟩ := hx i hi
        rw [hc] at h1
        exact ⟨l, h1, kds_fit m e ks n' l _ hk h2⟩
      obtain ⟨l0, h1, _⟩ := hx' 0 h
      obtain ⟨_, h2, h3⟩ := World.cells?_some h1
      have h4 := h3 0 hpos
      obtain ⟨u0, hu0⟩ : ∃ u0, l0[0]? = some u0 := ⟨_, List.getElem?_eq_getElem (by omega)⟩
      rw [hu0, Nat.zero_mul] at h4
      have ea : (a.add 0).add 0 = a := by simp [Addr.add]
      rw [ea] at h4
      obtain ⟨b, o, spot⟩ := a
      unfold World.cell? at h4
      simp only at h4
      split at h4
      · rename_i cs el fr hb
        split at h4
        · cases h4
        rename_i hsp
        obtain rfl : spot = none := by cases spot with | none => rfl | some s => simp at hsp
        have hx2 : ∀ i, i < len → ∃ l : List Value, w.cells? 0 ⟨b, o + i * ks.length, none⟩ ks.length = some l ∧ Fit enc P w ks l := by
          intro i hi
          obtain ⟨l, h1, h2⟩ := hx' i (by omega)
          have e1 : ((⟨b, o, none⟩ : Addr).add (i * ks.length)) = ⟨b, o + i * ks.length, none⟩ := by unfold Addr.add; split <;> simp_all
          exact ⟨l, by rw [← e1]; exact h1, h2⟩
        obtain ⟨f, hf⟩ := Go.Deep.choose_lt hx2
        refine ⟨some ⟨b, o, none⟩, m', (List.range len).map f, by simp, ⟨by simpa using hl, hm, fun _ => ⟨rfl, cs.toList, el, fr, hb, ?_⟩⟩, ?_⟩
        · intro i l hi
          rw [List.getElem?_map] at hi
          obtain ⟨j, hj, rfl⟩ := Option.map_eq_some_iff.1 hi
          have hlt : i < len := by have := (List.getElem?_eq_some_iff.1 hj).1; simpa using this
          rw [List.getElem?_range hlt] at hj
          cases hj
          exact drop_take_of hb (hf i hlt).1
        · intro l hl'
          obtain ⟨i, hi, rfl⟩ := List.mem_map.1 hl'
          exact (hf i (List.mem_range.1 hi)).2
      · cases h4

theorem ints_of {l : List (List Value)} (h : ∀ r ∈ l, Fit enc P w [.int .i64] r) : ∃ z : List Int, l = z.map fun a => [Value.int .i64 a] := by
  induction l with
  | nil => exact ⟨[], rfl⟩
  | cons r l ih =>
    obtain ⟨z, hz⟩ := ih fun r hr => h r (List.mem_cons_of_mem _ hr)
    obtain ⟨_, _, rfl, ⟨n, rfl, _⟩, h1⟩ := (h r (by simp)).uncons
    cases h1.nil'
    exact ⟨n :: z, by rw [hz]; rfl⟩
end Go.Proofs.Ytbgppnkccbhbpaa.SL
