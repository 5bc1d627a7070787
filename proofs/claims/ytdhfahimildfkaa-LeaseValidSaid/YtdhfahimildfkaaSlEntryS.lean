/-
  Entry: arguments that are structs, and the slices among their fields.
-/
import Derived.Test.YtdhfahimildfkaaSlEntry
namespace Go.Proofs.Ytdhfahimildfkaa.SL
open Go.RowKit Go.ChangeShapes Go.WideShapes Go.ChangeAt
set_option linter.unusedVariables false
variable {H : Type} {enc : TypeId × Value → H} {P : Program} {w : World}

theorem struct_arg {base m : Nat} {t : TypeId} {fs : Array Field} {ks : List Kd} {v : Value} {d : DataW H} {ps : List MemPlace} (ht : P.underlying t = some (.struct fs)) (hk : kds P m t = some ks)
    (hok : Value.okWide P w .any base t v) (h : DataW.Trod enc P w 0 (fun _ => true) true t v d ps) : ∃ cs : List Value, v = .agg cs.toArray ∧ Fit enc P w ks cs := by
  obtain ⟨cs, rfl, _⟩ := okWide_struct ht hok
  obtain ⟨n, h⟩ := h
  exact ⟨cs.toList, by simp, kds_fit m t ks n _ _ hk h⟩

theorem field_ok {base i : Nat} {t u e : TypeId} {fs : Array Field} {ts : List TypeId} {cs : List Value} {v : Value} (hok : Value.okWide P w .any base t (.agg cs.toArray)) (ht : P.underlying t = some (.struct fs)) (hts : P.cellTypes P.depth t = some ts) (hi : cs[i]? = some v) (hu : ts[i]? = some u)
    (hue : P.underlying u = some (.slice e)) : Value.okWide P w .any base u v := by
  unfold Value.okWide at hok
  rw [ht] at hok
  obtain ⟨cs', hcs, _, ts', hts', _, hrow⟩ := hok
  cases hcs
  rw [hts] at hts'
  cases hts'
  obtain ⟨u', hu', hcell⟩ := hrow i v (by simpa using hi)
  have hlt := (List.getElem?_eq_some_iff.1 hu).1
  rw [Nat.mod_eq_of_lt hlt, hu] at hu'
  cases hu'
  unfold Value.okWide
  rw [hue]
  exact hcell

/-- a slice among the fields as rows of cells -/
theorem field_slice {base m i : Nat} {t u e : TypeId} {fs : Array Field} {ts : List TypeId} {ks : List Kd} {cs : List Value} {v : Value} (hok : Value.okWide P w .any base t (.agg cs.toArray)) (ht : P.underlying t = some (.struct fs)) (hts : P.cellTypes P.depth t = some ts) (hi : cs[i]? = some v) (hu : ts[i]? = some u)
    (hue : P.underlying u = some (.slice e)) (hk : kds P m e = some ks) (hc : P.cellsOf e = ks.length) (hat : Kd.ok enc P w (.at u) v) : ∃ p c ls, v = .slice p ls.length c ∧ Sl (oldH w) p c ks.length ls ∧ ∀ l ∈ ls, Fit enc P w ks l := by
  have hv := field_ok hok ht hts hi hu hue
  obtain ⟨n, ⟨d, ps⟩, hx⟩ := hat
  obtain ⟨a0, len, cap, rfl⟩ := okWide_slice hue hv
  exact slice_arg hue hk hc hv ⟨n, by simpa [Value.cells] using hx⟩

theorem ints_of {l : List (List Value)} (h : ∀ r ∈ l, Fit enc P w [.int .i64] r) : ∃ z : List Int, l = z.map fun a => [Value.int .i64 a] := by
  induction l with
  | nil => exact ⟨[], rfl⟩
  | cons r l ih =>
    obtain ⟨z, hz⟩ := ih fun r hr => h r (List.mem_cons_of_mem _ hr)
    obtain ⟨_, _, rfl, ⟨n, rfl, _⟩, h1⟩ := (h r (by simp)).uncons
    cases h1.nil'
    exact ⟨n :: z, by rw [hz]; rfl⟩
end Go.Proofs.Ytdhfahimildfkaa.SL
