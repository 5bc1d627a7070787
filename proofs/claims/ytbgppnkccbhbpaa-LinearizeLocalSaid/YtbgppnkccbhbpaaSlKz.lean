/- Rows of strings. -/
import Derived.Test.YtbgppnkccbhbpaaSlSlc
import Derived.Test.YtbgppnkccbhbpaaSlSrt
import Derived.Test.YtbgppnkccbhbpaaHPureK
import Derived.Sort.EncStr
import Derived.Lib.Strings
namespace Go.Proofs.Ytbgppnkccbhbpaa.SL
set_option linter.unusedVariables false
open HistLaw Go.Sort Go.RowKit
def kz (l : List Ky) : List (List Value) := l.map fun z => [.string z]
@[simp] theorem kz_len (l : List Ky) : (kz l).length = l.length := by simp [kz]
theorem kz_get {l : List Ky} {i : Nat} {z : Ky} (h : l[i]? = some z) : (kz l)[i]? = some [.string z] := by simp [kz, h]
theorem kz_at {l : List Ky} {i : Nat} (h : i < l.length) : ∃ z, l[i]? = some z ∧ (kz l)[i]? = some [.string z] := ⟨l[i], List.getElem?_eq_getElem h, kz_get (List.getElem?_eq_getElem h)⟩
theorem kz_getD {l : List Ky} {i : Nat} (h : i < l.length) : (kz l)[i]? = some [.string (l.getD i .empty)] := kz_get (by rw [List.getD_eq_getElem?_getD, List.getElem?_eq_getElem h]; rfl)
theorem kz_none {b e : Nat} {cs : List Value} (hcs : cs = []) : Own (single b (.cells cs.toArray e (0, 0))) (some ⟨b, 0, none⟩) 0 e 1 (kz []) := Own.none0 hcs
theorem kz_single {b e : Nat} {z : Ky} {cs : List Value} (hcs : cs = [.string z]) : Sl (single b (.cells cs.toArray e (0, 0))) (some ⟨b, 0, none⟩) 1 1 (kz [z]) := (Own.one (l := [Value.string z]) rfl (by simp [Value.oneCell']) hcs).sl
theorem kz_app (l m : List Ky) : kz (l ++ m) = kz l ++ kz m := by simp [kz]
theorem kz_take (l : List Ky) (k : Nat) : kz (l.take k) = (kz l).take k := by simp [kz, List.map_take]
theorem kz_drop (l : List Ky) (k : Nat) : kz (l.drop k) = (kz l).drop k := by simp [kz, List.map_drop]
theorem kz_set (l : List Ky) (k : Nat) (z : Ky) : kz (l.set k z) = (kz l).set k [.string z] := by simp [kz, List.map_set]
theorem kz_one (l : List Ky) : ∀ r ∈ kz l, ∀ v ∈ r, v.oneCell' = true := by
  intro r hr v hv
  obtain ⟨z, _, rfl⟩ := List.mem_map.1 hr
  simp only [List.mem_singleton] at hv; subst hv; rfl
theorem kz_one1 : ∀ (l : List Ky), ∀ a ∈ l, ∀ v ∈ [Value.string a], v.oneCell' = true := fun l a _ v hv => by simp only [List.mem_singleton] at hv; subst hv; rfl
theorem kz_kl (l : List Ky) : ((l.map kl).map fun a => [encStr a]) = kz l := by
  unfold kz
  rw [List.map_map]
  refine List.map_congr_left fun a _ => ?_
  show [Value.string (ofK (kl a))] = _
  rw [ofK_kl]
theorem sortS_ct_of {P : Program} {f : FuncId}
    (h1 : ∀ (blk off cap : Nat) (zs : List (List UInt8)) (w : World), Holds encStr w blk off zs.toArray → blk < w.heap.size → zs.length < 4611686018427387904 → Calls P f #[.slice (some ⟨blk, off, none⟩) zs.length cap] w fun e w' =>
      e = .returned (.tuple #[]) ∧ ∃ n os, w' = grow (putRow encStr (Sort.ahead w n) blk off (zs.mergeSort fun x y => decide (x ≤ y)).toArray) os)
    (h0 : ∀ (p : Option Addr) (cap : Nat) (w : World), Calls P f #[.slice p 0 cap] w fun e w' => e = .returned (.tuple #[]) ∧ w' = w)
    {H : PH} {p : Option Addr} {c e : Nat} {l : List Ky} (hO : Own H p c e 1 (kz l)) (hbig : l.length < 4611686018427387904) :
    Ct P f [.slice p l.length c] [H] (fun v Hs => v = .tuple #[] ∧ ∃ H', Own H' p c e 1 (kz (srtK l)) ∧ Hs = [H']) := by
  have h := sort_ct_of (P := P) (f := f) encStr (fun l => l.mergeSort fun x y => decide (x ≤ y)) (fun l => List.length_mergeSort l) (fun _ => rfl) h1 h0 (H := H) (p := p) (c := c) (e := e) (l := l.map kl) (by rw [kz_kl]; exact hO) (by rw [List.length_map]; exact hbig)
  rw [List.length_map] at h
  refine h.mono ?_
  rintro v Hs ⟨rfl, H', hO', rfl⟩
  refine ⟨rfl, H', ?_, rfl⟩
  have e2 : kz (srtK l) = (((l.map kl).mergeSort fun x y => decide (x ≤ y)).map fun a => [encStr a]) := by
    unfold kz srtK
    rw [List.map_map]
    rfl
  rw [e2]; exact hO'
theorem bless (s t : Ky) : Op.bytesLess s.toList t.toList = decide (klt s t) := by
  rw [bytesLess_eq, Lib.toList_data, Lib.toList_data]; rfl
end Go.Proofs.Ytbgppnkccbhbpaa.SL
