/- What the arguments of the Vote laws read as. -/
import Derived.Test.YtldnbbnaighakaaV5
import Derived.Test.YtldnbbnaighakaaSlEntryS
namespace Go.Proofs.Ytldnbbnaighakaa
open SL Cfg Vote Go.ChangeShapes Go.WideShapes Go.ChangeAt Go.RowKit
set_option linter.unusedVariables false
set_option maxRecDepth 100000
theorem cf_kds : kds Try.prog 6 24 = some [.at 22, .at 22, .at 22] := by kernel_rfl
theorem in_kds : kds Try.prog 6 3 = some [.int .i64] := by kernel_rfl
theorem op_kds : kds Try.prog 6 39 = some [.int .i64, .int .i64, .int .i64, .bool, .bool] := by kernel_rfl
theorem ints_arg {H : Type} {enc : TypeId × Value → H} {W : World} {base : Nat} {v : Value} {d : DataW H} {p : List MemPlace} (hok : Value.okWide Try.prog W .any base 22 v) (h : DataW.Trod enc Try.prog W 0 (fun _ => true) true 22 v d p) : ∃ q c l, v = .slice q l.length c ∧ Sl (oldH W) q c 1 (iz l) := by
  obtain ⟨q, c, ls, rfl, hl, f⟩ := slice_arg (m := 6) Try.underlying22 in_kds (by kernel_rfl) hok h
  obtain ⟨l, rfl⟩ := ints_of f
  exact ⟨q, c, l, by simp, hl⟩
theorem ops_arg {H : Type} {enc : TypeId × Value → H} {W : World} {base : Nat} {v : Value} {d : DataW H} {p : List MemPlace} (hok : Value.okWide Try.prog W .any base 33 v) (h : DataW.Trod enc Try.prog W 0 (fun _ => true) true 33 v d p) : ∃ q c, ∃ ops : List OpV, v = .slice q ops.length c ∧ Sl (oldH W) q c 5 (ops.map OpV.cells) := by
  obtain ⟨q, c, ls, rfl, hl, f⟩ := slice_arg (m := 6) Try.underlying33 op_kds (by kernel_rfl) hok h
  obtain ⟨ops, rfl, _⟩ := exists_map (f := OpV.cells) (p := fun _ => True) (ls := ls) fun l hl => by
    obtain ⟨_, _, rfl, ⟨k, rfl, _⟩, h1⟩ := (f l hl).uncons
    obtain ⟨_, _, rfl, ⟨a, rfl, _⟩, h2⟩ := h1.uncons
    obtain ⟨_, _, rfl, ⟨b, rfl, _⟩, h3⟩ := h2.uncons
    obtain ⟨_, _, rfl, ⟨y, rfl⟩, h4⟩ := h3.uncons
    obtain ⟨_, _, rfl, ⟨n, rfl⟩, h5⟩ := h4.uncons
    cases h5.nil'
    exact ⟨⟨k, a, b, y, n⟩, by simp [OpV.cells], trivial⟩
  exact ⟨q, c, ops, by simp, hl⟩
theorem cf_arg {H : Type} {enc : TypeId × Value → H} {W : World} {base : Nat} {v : Value} {d : DataW H} {p : List MemPlace} (hok : Value.okWide Try.prog W .any base 24 v) (h : DataW.Trod enc Try.prog W 0 (fun _ => true) true 24 v d p) : ∃ x : Cf, v = .agg [.slice x.po x.o.length x.co, .slice x.pn x.n.length x.cn, .slice x.pl x.l.length x.cl].toArray ∧ x.In (oldH W) := by
  obtain ⟨cs, rfl, hf⟩ := struct_arg (m := 6) Try.underlying24 cf_kds hok h
  obtain ⟨v1, _, rfl, k1, h1⟩ := hf.uncons
  obtain ⟨v2, _, rfl, k2, h2⟩ := h1.uncons
  obtain ⟨v3, _, rfl, k3, h3⟩ := h2.uncons
  cases h3.nil'
  obtain ⟨p1, c1, l1, rfl, s1, f1⟩ := at_slice (m := 6) Try.underlying22 in_kds (by kernel_rfl) (by decide) k1
  obtain ⟨p2, c2, l2, rfl, s2, f2⟩ := at_slice (m := 6) Try.underlying22 in_kds (by kernel_rfl) (by decide) k2
  obtain ⟨p3, c3, l3, rfl, s3, f3⟩ := at_slice (m := 6) Try.underlying22 in_kds (by kernel_rfl) (by decide) k3
  obtain ⟨o, rfl⟩ := ints_of f1
  obtain ⟨n, rfl⟩ := ints_of f2
  obtain ⟨l, rfl⟩ := ints_of f3
  exact ⟨⟨o, n, l, p1, c1, p2, c2, p3, c3⟩, by simp, s1, s2, s3⟩
end Go.Proofs.Ytldnbbnaighakaa
