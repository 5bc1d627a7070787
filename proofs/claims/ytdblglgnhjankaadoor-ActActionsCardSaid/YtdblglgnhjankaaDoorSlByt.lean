/-
  Rows of bytes, and strings.
-/
import Derived.Test.YtdblglgnhjankaaDoorSlSlc
import Derived.Laws.BytesArg
namespace Go.Proofs.YtdblglgnhjankaaDoor.SL
set_option linter.unusedVariables false
section
variable {X : Cx} {σ : Loc} {L : Sh} {ty : TypeId} {x y z : Operand}
def bz (l : List Int) : List (List Value) := l.map fun z => [.int .u8 z]
@[simp] theorem bz_len (l : List Int) : (bz l).length = l.length := by simp [bz]
theorem bz_get {l : List Int} {i : Nat} {z : Int} (h : l[i]? = some z) : (bz l)[i]? = some [.int .u8 z] := by simp [bz, h]
theorem bz_at {l : List Int} {i : Nat} (h : i < l.length) : ∃ z, l[i]? = some z ∧ (bz l)[i]? = some [.int .u8 z] := ⟨l[i], List.getElem?_eq_getElem h, bz_get (List.getElem?_eq_getElem h)⟩
theorem bz_single {b e : Nat} {l : List Int} {cs : List Value} (hcs : cs = l.map fun z => .int .u8 z) (hm : l.length ≤ maxLen) : Own (single b (.cells cs.toArray e (0, 0))) (some ⟨b, 0, none⟩) l.length e 1 (bz l) := by
  have hf : (bz l).flatten = l.map fun z => Value.int .u8 z := by
    unfold bz
    clear hcs hm
    induction l with
    | nil => rfl
    | cons a l ih => simp [ih]
  refine Own.mk [] (fun r hr => ?_) (by simp) hm ?_ ?_
  · obtain ⟨z, _, rfl⟩ := List.mem_map.1 hr; exact ⟨rfl, by simp [Value.oneCell']⟩
  · rw [List.append_nil, hf]; simp
  · rw [hcs, List.append_nil, hf]
/-- 'string(b)' -/
theorem Yld.bytesStr {src dst e : TypeId} {p : Option Addr} {c n cl : Nat} {H : PH} {xs : List Int} (hs : X.P.underlying src = some (.slice e)) (he : X.P.underlying e = some (.int .u8)) (hd : X.P.underlying dst = some .string)
    (hx : ev σ x = some (.slice p n c)) (hL : lk L cl = some H) (hS : Sl H p c 1 (bz xs)) (hn : n = xs.length) : Yld X (.convert src dst x) ty σ L (.string (strOfNums xs)) :=
  Yld.of (fun ρ => convert src dst (ρ x)) (fun ρ o ho => by simp [execOp, ho]) fun a w ha hm => by
    rw [ha.ev hx]
    subst hn
    cases p with
    | none =>
      obtain ⟨h0, _⟩ := hS
      obtain rfl : xs = [] := List.map_eq_nil_iff.1 h0
      exact run_convert_bytes_nil w src e hs he 0 c dst hd
    | some ad =>
      by_cases hxs : 0 < xs.length
      · obtain ⟨a', ea, hr⟩ := hS.row (i := 0) (by simpa using hxs)
        cases ea
        exact run_convert_bytes_arg w src e hs he _ _ xs.length c xs rfl (fun i hi => by
          have := hr.cell (i := i) (bz_get (List.getElem?_eq_getElem hi)) (hm.sub _ _ hL) (j := 0) rfl
          rw [Nat.mul_one, Nat.add_zero] at this
          rw [this]; simp [List.getD, List.getElem?_eq_getElem hi]) dst hd
      · obtain rfl : xs = [] := List.eq_nil_of_length_eq_zero (by omega)
        rw [run_convert_bytes_string w src dst e _ _ c hs he hd]
        show (Conv.bytesToString (.slice (some ad) 0 c)).run X.P w = _
        rw [run_bytesToString w _ 0 c [] (by
          have := run_loadCells_list (P := X.P) w ad [] (fun j v hj => by simp at hj)
          simpa using this)]
        rfl
end
end Go.Proofs.YtdblglgnhjankaaDoor.SL
