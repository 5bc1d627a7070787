/- What Merge keeps. Written by program (walk.py). -/
import Derived.Test.YtbgppnkccbhbpaaL6
namespace Go.Proofs.Ytbgppnkccbhbpaa
open SL HistLaw Cfg
set_option linter.unusedVariables false
set_option linter.unusedSimpArgs false

theorem HistLaw.wt_mem {gs : List (List Nat)} {w : Nat} : Wt gs w ↔ w ∈ gs.flatten := by
  rw [List.mem_flatten]
  constructor
  · rintro ⟨n, h, hn, hw⟩; exact ⟨h, List.mem_of_getElem? hn, hw⟩
  · rintro ⟨h, hm, hw⟩
    obtain ⟨n, hn⟩ := List.getElem?_of_mem hm
    exact ⟨n, h, hn, hw⟩
theorem HistLaw.GS.flat {l : List O} {K : List Ky} {gs : List (List Nat)} (G : GS l K gs) : gs.flatten.Nodup := by
  rw [List.Nodup, List.pairwise_flatten]
  refine ⟨fun g hg => ?_, ?_⟩
  · obtain ⟨n, hn⟩ := List.getElem?_of_mem hg
    exact G.nd n g hn
  · rw [List.pairwise_iff_getElem]
    intro i j hi hj hij x hx y hy e
    subst e
    obtain ⟨a, ha, hk⟩ := G.key i _ x (List.getElem?_eq_getElem hi) hx
    obtain ⟨b, hb, hk'⟩ := G.key j _ x (List.getElem?_eq_getElem hj) hy
    rw [ha] at hb; cases hb
    have := knd_eq G.knd hk hk'
    omega
theorem HistLaw.nodup_lt {r : List Nat} {n : Nat} (h : r.Nodup) (hl : ∀ x ∈ r, x < n) : r.length ≤ n := by
  have := nodup_len (s := r) (l := List.range n) h fun z hz => List.mem_range.2 (hl z hz)
  rwa [List.length_range] at this
theorem HistLaw.GS.lt {l : List O} {K : List Ky} {gs : List (List Nat)} (G : GS l K gs) {w : Nat} (h : Wt gs w) : w < l.length := by
  obtain ⟨n, g, hn, hw⟩ := h
  obtain ⟨a, ha, _⟩ := G.key n g w hn hw
  exact (List.getElem?_eq_some_iff.1 ha).1
theorem HistLaw.MI.lt {l : List O} {K : List Ky} {gs hs : List (List Nat)} {out : List Nat} (G : GS l K gs) (m : MI l K gs hs out) {w : Nat} (h : Wt hs w) : w < l.length := by
  obtain ⟨n, g, hn, hw⟩ := h
  obtain ⟨a, ha, _⟩ := m.keyW G hn hw
  exact (List.getElem?_eq_some_iff.1 ha).1
theorem HistLaw.MI.outlen {l : List O} {K : List Ky} {gs hs : List (List Nat)} {out : List Nat} (G : GS l K gs) (m : MI l K gs hs out) : out.length ≤ l.length :=
  nodup_lt m.nd fun z hz => by
    obtain ⟨n, g, hg, hz2⟩ := m.mem z hz
    exact G.lt ⟨n, g, hg, hz2⟩
theorem HistLaw.zs_flat : ∀ gs : List (List Nat), (gs.map zsN).flatten = zsN gs.flatten
  | [] => rfl
  | g :: gs => by rw [List.map_cons, List.flatten_cons, List.flatten_cons, zs_flat gs, zsN_app]
theorem HistLaw.zsN_mem {r : List Nat} {z : Int} : z ∈ zsN r ↔ ∃ w : Nat, z = w ∧ w ∈ r := by
  unfold zsN
  rw [List.mem_map]
  exact ⟨fun ⟨w, h, e⟩ => ⟨w, e.symm, h⟩, fun ⟨w, e, h⟩ => ⟨w, h, e.symm⟩⟩
theorem HistLaw.zsN_nodup {r : List Nat} (h : r.Nodup) : (zsN r).Nodup := by
  unfold zsN
  rw [List.Nodup, List.pairwise_map]
  exact h.imp fun {i j} h e => h (by omega)
theorem HistLaw.WMok.del {es : Array MapEntry} {ck : Nat} {m : List (Int × Value)} {hs : List (List Nat)} {l : List O} {K : List Ky} {gs : List (List Nat)} {out : List Nat} (hM : MapP (fun a : Int => Value.int .i64 a) es ck m) (h : WMok m hs) (G : GS l K gs) (mi : MI l K gs hs out) {n i : Nat} {r : List Nat} (hh : hs[n]? = some (i :: r)) : WMok (mdel m (i : Int)) (hs.set n r) := by
  refine ⟨fun z v hv => ?_, fun z => ?_⟩
  · rw [mget_mdel hM.nodup] at hv
    split at hv
    · cases hv
    · exact h.1 z v hv
  · rw [mget_mdel hM.nodup]
    by_cases e : (i : Int) = z
    · rw [if_pos e]
      constructor
      · intro h2; cases h2
      · rintro ⟨w, hw, hw2⟩
        have := ((mi.wt_iff G hh).1 hw2).2
        omega
    · rw [if_neg e, h.2 z]
      constructor
      · rintro ⟨w, hw, hw2⟩
        exact ⟨w, hw, (mi.wt_iff G hh).2 ⟨hw2, by omega⟩⟩
      · rintro ⟨w, hw, hw2⟩
        exact ⟨w, hw, ((mi.wt_iff G hh).1 hw2).1⟩
structure HistLaw.ME where
  es : Array MapEntry
  ck : Nat
  m : List (Int × Value)
  hh : List (Option Addr × Nat × List Int)
  Hh : PH
  hs : List (List Nat)
  out : List Nat
  Ho : PH
  po : Option Addr
  co : Nat
structure HistLaw.MM where
  j : Nat
  es : Array MapEntry
  ck : Nat
  m : List (Int × Value)
structure HistLaw.NB where
  n : Nat
  b : Int
def HistLaw.BestI (l : List O) (hs : List (List Nat)) (n : Nat) (b : Int) : Prop := (b = -1 ∧ ∀ (n' i : Nat) r, n' < n → hs[n']? = some (i :: r) → ¬ FreeW l hs i) ∨ ∃ (n' i : Nat) (r : List Nat), b = n' ∧ n' < n ∧ hs[n']? = some (i :: r) ∧ FreeW l hs i
theorem HistLaw.BestI.no {l : List O} {hs : List (List Nat)} {n : Nat} {b : Int} (h : BestI l hs n b) (hn : b < 0 → ∀ (i : Nat) r, hs[n]? = some (i :: r) → ¬ FreeW l hs i) : BestI l hs (n + 1) b := by
  rcases h with ⟨h1, h2⟩ | ⟨n', i, r, h1, h2, h3, h4⟩
  · refine .inl ⟨h1, fun n' i r hlt hh => ?_⟩
    by_cases e : n' = n
    · subst e; exact hn (by omega) i r hh
    · exact h2 n' i r (by omega) hh
  · exact .inr ⟨n', i, r, h1, by omega, h3, h4⟩
theorem HistLaw.row_hs {hh : List (Option Addr × Nat × List Int)} {hs : List (List Nat)} (h : hh.map (·.2.2) = hs.map zsN) {n : Nat} {s : Option Addr × Nat × List Int} (hn : hh[n]? = some s) : ∃ g, hs[n]? = some g ∧ s.2.2 = zsN g := by
  have := congrArg (fun x => x[n]?) h
  simp only [List.getElem?_map, hn, Option.map_some] at this
  cases hg : hs[n]? with
  | none => rw [hg] at this; cases this
  | some g => rw [hg] at this; exact ⟨g, rfl, by simpa using this⟩
theorem HistLaw.sb_at {hh : List (Option Addr × Nat × List Int)} {n : Nat} (h : n < hh.length) : ∃ s, hh[n]? = some s ∧ (hh.map SV)[n]? = some [.slice s.1 s.2.2.length s.2.1] := ⟨hh[n], List.getElem?_eq_getElem h, by simp [SV, List.getElem?_eq_getElem h]⟩

end Go.Proofs.Ytbgppnkccbhbpaa
