/- What the arguments of the Snapshot laws read as. -/
import Derived.Test.YtelmdoobgilhoaaN6
import Derived.Test.YtelmdoobgilhoaaSlEntryS
import Derived.ChangeMaps5
namespace Go.Proofs.Ytelmdoobgilhoaa
open SL Cfg Go.ChangeShapes Go.WideShapes Go.ChangeAt Go.RowKit
set_option linter.unusedVariables false
set_option maxRecDepth 100000
theorem mem_old0 (W : World) : Mem (W.os, W.output) ((0, oldH W) :: lab 1 []) W where
  os := rfl
  out := rfl
  sub c H h := by
    match c, h with
    | 0, h => cases h; intro b o hb; exact hb
    | n + 1, h => cases (show none = some H from h)
  dis c d G H hne hc hd := by
    match c, d, hc, hd with
    | 0, 0, _, _ => exact absurd rfl hne
    | 0, n + 1, _, hd => cases (show none = some H from hd)
    | n + 1, _, hc, _ => cases (show none = some G from hc)
theorem pc_kds : kds Try.prog 6 47 = some [.int .i64, .int .i64, .int .i64, .string, .bool] := by kernel_rfl
theorem pcs_arg {H : Type} {enc : TypeId × Value → H} {W : World} {base : Nat} {v : Value} {d : DataW H} {p : List MemPlace} (hok : Value.okWide Try.prog W .any base 40 v) (h : DataW.Trod enc Try.prog W 0 (fun _ => true) true 40 v d p) : ∃ q c, ∃ ps : List Pc, v = .slice q ps.length c ∧ Sl (oldH W) q c 5 (ps.map Pc.c') := by
  obtain ⟨q, c, ls, rfl, hl, f⟩ := slice_arg (m := 6) Try.underlying40 pc_kds (by kernel_rfl) hok h
  obtain ⟨ps, rfl, _⟩ := exists_map (f := Pc.c') (p := fun _ => True) (ls := ls) fun l hl => by
    obtain ⟨_, _, rfl, ⟨a, rfl, _⟩, h1⟩ := (f l hl).uncons
    obtain ⟨_, _, rfl, ⟨b, rfl, _⟩, h2⟩ := h1.uncons
    obtain ⟨_, _, rfl, ⟨o, rfl, _⟩, h3⟩ := h2.uncons
    obtain ⟨_, _, rfl, ⟨s, rfl, _⟩, h4⟩ := h3.uncons
    obtain ⟨_, _, rfl, ⟨y, rfl⟩, h5⟩ := h4.uncons
    cases h5.nil'
    exact ⟨⟨a, b, o, s, y⟩, by simp [Pc.c'], trivial⟩
  exact ⟨q, c, ps, by simp, hl⟩
end Go.Proofs.Ytelmdoobgilhoaa
