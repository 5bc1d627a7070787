/- What the arguments of the Snapshot laws read as. -/
import Derived.Test.YtelmdoobgilhoaaN6
import Derived.Test.YtelmdoobgilhoaaSlEntryS
import Derived.ChangeMaps5
namespace Go.Proofs.Ytelmdoobgilhoaa
open SL Cfg Go.ChangeShapes Go.WideShapes Go.ChangeAt Go.RowKit
set_option linter.unusedVariables false
set_option maxRecDepth 100000
theorem mem_old0 (W : World) : Mem (W.os, W.output) ((0, oldH W) :: lab 1 []) W where
  os := rfl
  out := rfl
  sub c H h := by
    match c, h with
    | 0, h => cases h; intro b o hb; exact hb
    | n + 1, h => cases (show none = some H from h)
  dis c d G H hne hc hd := by
    match c, d, hc, hd with
    | 0, 0, _, _ => exact absurd rfl hne
    | 0, n + 1, _, hd => cases (show none = some H from hd)
    | n + 1, _, hc, _ => cases (show none = some G from hc)
theorem pc_kds : kds Try.prog 6 47 = some [.int .i64, .int .i64, .int .i64, .string, .bool] := by kernel_rfl
theorem pcs_arg {H : Type} {enc : TypeId × Value → H} {W : World} {base : Nat} {v : Value} {d : DataW H} {p : List MemPlace} (hok : Value.okWide Try.prog W .any base 40 v) (h : DataW.Trod enc Try.prog W 0 (fun _ => true) true 40 v d p) : ∃ q c, ∃ ps : List Pc, v = .slice q ps.length c ∧ Sl (oldH W) q c 5 (ps.map Pc.c') := by
  obtain ⟨q, c, ls, rfl, hl, f⟩ := slice_arg (m := 6) Try.underlying40 pc_kds (by kernel_rfl) hok h
  obtain ⟨ps, rfl, _⟩ := exists_map (f := Pc.c') (p := fun _ => True) (ls := ls) fun l hl => by
    obtain ⟨_, _, rfl, ⟨a, rfl, _⟩, h1⟩ := (f l hl).uncons
    obtain ⟨_, _, rfl, ⟨b, rfl, _⟩, h2⟩ := h1.uncons
    obtain ⟨_, _, rfl, ⟨o, rfl, _⟩, h3⟩ := h2.uncons
    obtain ⟨_, _, rfl, ⟨s, rfl, _⟩, h4⟩ := h3.uncons
    obtain ⟨_, _, rfl, ⟨y, rfl⟩, h5⟩ := h4.uncons
    cases h5.nil'
    exact ⟨⟨a, b, o, s, y⟩, by simp [Pc.c'], trivial⟩
  exact ⟨q, c, ps, by simp, hl⟩
theorem pc_arg {H : Type} {enc : TypeId × Value → H} {W : World} {base : Nat} {v : Value} {d : DataW H} {p : List MemPlace} (hok : Value.okWide Try.prog W .any base 47 v) (h : DataW.Trod enc Try.prog W 0 (fun _ => true) true 47 v d p) : ∃ g : Pc, v = .agg [.int .i64 g.ix, .int .i64 g.tm, .int .i64 g.off, .string g.d, .bool g.dn].toArray := by
  obtain ⟨cs, rfl, hf⟩ := struct_arg (m := 6) Try.underlying47 pc_kds hok h
  obtain ⟨_, _, rfl, ⟨a, rfl, _⟩, h1⟩ := hf.uncons
  obtain ⟨_, _, rfl, ⟨b, rfl, _⟩, h2⟩ := h1.uncons
  obtain ⟨_, _, rfl, ⟨o, rfl, _⟩, h3⟩ := h2.uncons
  obtain ⟨_, _, rfl, ⟨s, rfl, _⟩, h4⟩ := h3.uncons
  obtain ⟨_, _, rfl, ⟨y, rfl⟩, h5⟩ := h4.uncons
  cases h5.nil'
  exact ⟨⟨a, b, o, s, y⟩, by simp⟩
theorem u16_kds : kds Try.prog 6 56 = some [.int .u16] := by kernel_rfl
theorem ns_arg {H : Type} {enc : TypeId × Value → H} {W : World} {base : Nat} {v : Value} {d : DataW H} {p : List MemPlace} (hok : Value.okWide Try.prog W .any base 55 v) (h : DataW.Trod enc Try.prog W 0 (fun _ => true) true 55 v d p) : ∃ q c, ∃ ns : List Int, v = .slice q ns.length c ∧ Sl (oldH W) q c 1 (ns.map fun z => [Value.int .u16 z]) ∧ ∀ z ∈ ns, 0 ≤ z ∧ z ≤ 65535 := by
  obtain ⟨q, c, ls, rfl, hl, f⟩ := slice_arg (m := 6) Try.underlying55 u16_kds (by kernel_rfl) hok h
  obtain ⟨ns, rfl, hb⟩ := exists_map (f := fun z => [Value.int .u16 z]) (p := fun z => 0 ≤ z ∧ z ≤ 65535) (ls := ls) fun l hl => by
    obtain ⟨_, _, rfl, ⟨a, rfl, w⟩, h1⟩ := (f l hl).uncons
    cases h1.nil'
    exact ⟨a, rfl, by simpa [Lit.wf, IntKind.min, IntKind.max, IntKind.signed, IntKind.bits] using w⟩
  exact ⟨q, c, ns, by simp, hl, hb⟩
theorem cf_kds : kds Try.prog 6 29 = some [.at 27, .at 27, .at 27] := by kernel_rfl
theorem in_kds : kds Try.prog 6 3 = some [.int .i64] := by kernel_rfl
theorem intsB_of {H : Type} {enc : TypeId × Value → H} {W : World} {ls : List (List Value)} (f : ∀ r ∈ ls, Fit enc Try.prog W [.int .i64] r) : ∃ l : List Int, iz l = ls ∧ AllI l :=
  exists_map (f := fun z => [Value.int .i64 z]) (p := Cfg.I64) fun l hl => by
    obtain ⟨_, _, rfl, ⟨a, rfl, w⟩, h1⟩ := (f l hl).uncons
    cases h1.nil'
    exact ⟨a, rfl, by unfold Cfg.I64; simpa [Lit.wf, IntKind.min, IntKind.max, IntKind.signed, IntKind.bits] using w⟩
theorem cf_arg {H : Type} {enc : TypeId × Value → H} {W : World} {base : Nat} {v : Value} {d : DataW H} {p : List MemPlace} (hok : Value.okWide Try.prog W .any base 29 v) (h : DataW.Trod enc Try.prog W 0 (fun _ => true) true 29 v d p) : ∃ x : Cf, v = .agg [.slice x.po x.o.length x.co, .slice x.pn x.n.length x.cn, .slice x.pl x.l.length x.cl].toArray ∧ x.In (oldH W) ∧ AllI x.o ∧ AllI x.n ∧ AllI x.l := by
  obtain ⟨cs, rfl, hf⟩ := struct_arg (m := 6) Try.underlying29 cf_kds hok h
  obtain ⟨v1, _, rfl, k1, h1⟩ := hf.uncons
  obtain ⟨v2, _, rfl, k2, h2⟩ := h1.uncons
  obtain ⟨v3, _, rfl, k3, h3⟩ := h2.uncons
  cases h3.nil'
  obtain ⟨p1, c1, l1, rfl, s1, f1⟩ := at_slice (m := 6) Try.underlying27 in_kds (by kernel_rfl) (by decide) k1
  obtain ⟨p2, c2, l2, rfl, s2, f2⟩ := at_slice (m := 6) Try.underlying27 in_kds (by kernel_rfl) (by decide) k2
  obtain ⟨p3, c3, l3, rfl, s3, f3⟩ := at_slice (m := 6) Try.underlying27 in_kds (by kernel_rfl) (by decide) k3
  obtain ⟨o, rfl, bo⟩ := intsB_of f1
  obtain ⟨n, rfl, bn⟩ := intsB_of f2
  obtain ⟨l, rfl, bl⟩ := intsB_of f3
  exact ⟨⟨o, n, l, p1, c1, p2, c2, p3, c3⟩, by simp, ⟨s1, s2, s3⟩, bo, bn, bl⟩
end Go.Proofs.Ytelmdoobgilhoaa
