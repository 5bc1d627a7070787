/- What the arguments of the Replicate laws read as. -/
import Derived.Test.YtdkefpnebmmhlaaP11
import Derived.Test.YtdkefpnebmmhlaaSlEntryS
namespace Go.Proofs.Ytdkefpnebmmhlaa
open SL Cfg Rep Go.ChangeShapes Go.WideShapes Go.ChangeAt Go.RowKit
set_option linter.unusedVariables false
set_option maxRecDepth 100000
theorem cf_kds : kds Try.prog 6 55 = some [.at 22, .at 22, .at 22] := by kernel_rfl
theorem in_kds : kds Try.prog 6 3 = some [.int .i64] := by kernel_rfl
theorem u8_kds : kds Try.prog 6 5 = some [.int .u8] := by kernel_rfl
theorem op_kds : kds Try.prog 6 36 = some [.int .i64, .int .i64, .int .i64, .at 22] := by kernel_rfl
theorem u8s_of {H : Type} {enc : TypeId × Value → H} {W : World} {l : List (List Value)} (h : ∀ r ∈ l, Fit enc Try.prog W [.int .u8] r) : ∃ z : List Int, l = by8 z ∧ ∀ b ∈ z, 0 ≤ b ∧ b ≤ 255 := by
  induction l with
  | nil => exact ⟨[], rfl, fun b h => by cases h⟩
  | cons r l ih =>
    obtain ⟨z, hz, hb⟩ := ih fun r hr => h r (List.mem_cons_of_mem _ hr)
    obtain ⟨_, _, rfl, ⟨n, rfl, hn⟩, h1⟩ := (h r (by simp)).uncons
    cases h1.nil'
    have hn' : 0 ≤ n ∧ n ≤ 255 := by simpa [Lit.wf, IntKind.min, IntKind.max, IntKind.signed, IntKind.bits] using hn
    exact ⟨n :: z, by rw [hz]; rfl, fun b h => by rcases List.mem_cons.1 h with rfl | h; exact hn'; exact hb b h⟩
theorem ints_arg {H : Type} {enc : TypeId × Value → H} {W : World} {base : Nat} {v : Value} {d : DataW H} {p : List MemPlace} (hok : Value.okWide Try.prog W .any base 22 v) (h : DataW.Trod enc Try.prog W 0 (fun _ => true) true 22 v d p) : ∃ q c l, v = .slice q l.length c ∧ Sl (oldH W) q c 1 (iz l) := by
  obtain ⟨q, c, ls, rfl, hl, f⟩ := slice_arg (m := 6) Try.underlying22 in_kds (by kernel_rfl) hok h
  obtain ⟨l, rfl⟩ := ints_of f
  exact ⟨q, c, l, by simp, hl⟩
theorem u8s_arg {H : Type} {enc : TypeId × Value → H} {W : World} {base : Nat} {v : Value} {d : DataW H} {p : List MemPlace} (hok : Value.okWide Try.prog W .any base 38 v) (h : DataW.Trod enc Try.prog W 0 (fun _ => true) true 38 v d p) : ∃ q c l, v = .slice q l.length c ∧ Sl (oldH W) q c 1 (by8 l) ∧ ∀ b ∈ l, 0 ≤ b ∧ b ≤ 255 := by
  obtain ⟨q, c, ls, rfl, hl, f⟩ := slice_arg (m := 6) Try.underlying38 u8_kds (by kernel_rfl) hok h
  obtain ⟨l, rfl, hb⟩ := u8s_of f
  exact ⟨q, c, l, by simp, hl, hb⟩
theorem ops_arg {H : Type} {enc : TypeId × Value → H} {W : World} {base : Nat} {v : Value} {d : DataW H} {p : List MemPlace} (hok : Value.okWide Try.prog W .any base 23 v) (h : DataW.Trod enc Try.prog W 0 (fun _ => true) true 23 v d p) : ∃ q c, ∃ ops : List OpS, v = .slice q ops.length c ∧ Sl (oldH W) q c 4 (ops.map OpS.cells) ∧ ∀ o ∈ ops, Sl (oldH W) o.p o.c 1 (iz o.l) := by
  obtain ⟨q, c, ls, rfl, hl, f⟩ := slice_arg (m := 6) Try.underlying23 op_kds (by kernel_rfl) hok h
  obtain ⟨ops, rfl, ho⟩ := exists_map (f := OpS.cells) (p := fun o => Sl (oldH W) o.p o.c 1 (iz o.l)) (ls := ls) fun l hl => by
    obtain ⟨_, _, rfl, ⟨k, rfl, _⟩, h1⟩ := (f l hl).uncons
    obtain ⟨_, _, rfl, ⟨a, rfl, _⟩, h2⟩ := h1.uncons
    obtain ⟨_, _, rfl, ⟨b, rfl, _⟩, h3⟩ := h2.uncons
    obtain ⟨_, _, rfl, h4, h5⟩ := h3.uncons
    cases h5.nil'
    obtain ⟨q, c, ls, rfl, hs, f⟩ := at_slice (m := 6) Try.underlying22 in_kds (by kernel_rfl) (by decide) h4
    obtain ⟨l, rfl⟩ := ints_of f
    exact ⟨⟨k, a, b, l, q, c⟩, by simp [OpS.cells], hs⟩
  exact ⟨q, c, ops, by simp, hl, ho⟩
theorem cf_arg {H : Type} {enc : TypeId × Value → H} {W : World} {base : Nat} {v : Value} {d : DataW H} {p : List MemPlace} (hok : Value.okWide Try.prog W .any base 55 v) (h : DataW.Trod enc Try.prog W 0 (fun _ => true) true 55 v d p) : ∃ x : Cf, v = .agg [.slice x.po x.o.length x.co, .slice x.pn x.n.length x.cn, .slice x.pl x.l.length x.cl].toArray ∧ x.In (oldH W) := by
  obtain ⟨cs, rfl, hf⟩ := struct_arg (m := 6) Try.underlying55 cf_kds hok h
  obtain ⟨v1, _, rfl, k1, h1⟩ := hf.uncons
  obtain ⟨v2, _, rfl, k2, h2⟩ := h1.uncons
  obtain ⟨v3, _, rfl, k3, h3⟩ := h2.uncons
  cases h3.nil'
  obtain ⟨p1, c1, l1, rfl, s1, f1⟩ := at_slice (m := 6) Try.underlying22 in_kds (by kernel_rfl) (by decide) k1
  obtain ⟨p2, c2, l2, rfl, s2, f2⟩ := at_slice (m := 6) Try.underlying22 in_kds (by kernel_rfl) (by decide) k2
  obtain ⟨p3, c3, l3, rfl, s3, f3⟩ := at_slice (m := 6) Try.underlying22 in_kds (by kernel_rfl) (by decide) k3
  obtain ⟨o, rfl⟩ := ints_of f1
  obtain ⟨n, rfl⟩ := ints_of f2
  obtain ⟨l, rfl⟩ := ints_of f3
  exact ⟨⟨o, n, l, p1, c1, p2, c2, p3, c3⟩, by simp, s1, s2, s3⟩
end Go.Proofs.Ytdkefpnebmmhlaa
