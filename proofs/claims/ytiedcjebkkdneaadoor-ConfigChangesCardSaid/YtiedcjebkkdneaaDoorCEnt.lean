/- What the arguments of the Config laws read as. -/
import Derived.Test.YtiedcjebkkdneaaDoorC9
import Derived.Test.YtiedcjebkkdneaaDoorSlEntryS
import Derived.Lib.LaidTab
namespace Go.Proofs.YtiedcjebkkdneaaDoor
open SL Cfg Go.ChangeShapes Go.WideShapes Go.ChangeAt Go.RowKit
set_option linter.unusedVariables false
set_option maxRecDepth 100000
theorem cf_kds : kds Tryd.prog 6 24 = some [.at 22, .at 22, .at 22] := by kernel_rfl
theorem in_kds : kds Tryd.prog 6 3 = some [.int .i64] := by kernel_rfl
theorem u8_kds : kds Tryd.prog 6 5 = some [.int .u8] := by kernel_rfl
theorem u8s_of {H : Type} {enc : TypeId × Value → H} {W : World} {l : List (List Value)} (h : ∀ r ∈ l, Fit enc Tryd.prog W [.int .u8] r) : ∃ z : List Int, l = by8 z ∧ ∀ b ∈ z, 0 ≤ b ∧ b ≤ 255 := by
  induction l with
  | nil => exact ⟨[], rfl, fun b h => by cases h⟩
  | cons r l ih =>
    obtain ⟨z, hz, hb⟩ := ih fun r hr => h r (List.mem_cons_of_mem _ hr)
    obtain ⟨_, _, rfl, ⟨n, rfl, hn⟩, h1⟩ := (h r (by simp)).uncons
    cases h1.nil'
    have hn' : 0 ≤ n ∧ n ≤ 255 := by simpa [Lit.wf, IntKind.min, IntKind.max, IntKind.signed, IntKind.bits] using hn
    exact ⟨n :: z, by rw [hz]; rfl, fun b h => by rcases List.mem_cons.1 h with rfl | h; exact hn'; exact hb b h⟩
theorem ints_arg {H : Type} {enc : TypeId × Value → H} {W : World} {base : Nat} {v : Value} {d : DataW H} {p : List MemPlace} (hok : Value.okWide Tryd.prog W .any base 22 v) (h : DataW.Trod enc Tryd.prog W 0 (fun _ => true) true 22 v d p) : ∃ q c l, v = .slice q l.length c ∧ Sl (oldH W) q c 1 (iz l) := by
  obtain ⟨q, c, ls, rfl, hl, f⟩ := slice_arg (m := 6) Tryd.underlying22 in_kds (by kernel_rfl) hok h
  obtain ⟨l, rfl⟩ := ints_of f
  exact ⟨q, c, l, by simp, hl⟩
theorem u8s_arg {H : Type} {enc : TypeId × Value → H} {W : World} {base : Nat} {v : Value} {d : DataW H} {p : List MemPlace} (hok : Value.okWide Tryd.prog W .any base 36 v) (h : DataW.Trod enc Tryd.prog W 0 (fun _ => true) true 36 v d p) : ∃ q c l, v = .slice q l.length c ∧ Sl (oldH W) q c 1 (by8 l) ∧ ∀ b ∈ l, 0 ≤ b ∧ b ≤ 255 := by
  obtain ⟨q, c, ls, rfl, hl, f⟩ := slice_arg (m := 6) Tryd.underlying36 u8_kds (by kernel_rfl) hok h
  obtain ⟨l, rfl, hb⟩ := u8s_of f
  exact ⟨q, c, l, by simp, hl, hb⟩
theorem cf_arg {H : Type} {enc : TypeId × Value → H} {W : World} {base : Nat} {v : Value} {d : DataW H} {p : List MemPlace} (hok : Value.okWide Tryd.prog W .any base 24 v) (h : DataW.Trod enc Tryd.prog W 0 (fun _ => true) true 24 v d p) : ∃ x : Cf, v = .agg [.slice x.po x.o.length x.co, .slice x.pn x.n.length x.cn, .slice x.pl x.l.length x.cl].toArray ∧ x.In (oldH W) := by
  obtain ⟨cs, rfl, hf⟩ := struct_arg (m := 6) Tryd.underlying24 cf_kds hok h
  obtain ⟨v1, _, rfl, k1, h1⟩ := hf.uncons
  obtain ⟨v2, _, rfl, k2, h2⟩ := h1.uncons
  obtain ⟨v3, _, rfl, k3, h3⟩ := h2.uncons
  cases h3.nil'
  obtain ⟨p1, c1, l1, rfl, s1, f1⟩ := at_slice (m := 6) Tryd.underlying22 in_kds (by kernel_rfl) (by decide) k1
  obtain ⟨p2, c2, l2, rfl, s2, f2⟩ := at_slice (m := 6) Tryd.underlying22 in_kds (by kernel_rfl) (by decide) k2
  obtain ⟨p3, c3, l3, rfl, s3, f3⟩ := at_slice (m := 6) Tryd.underlying22 in_kds (by kernel_rfl) (by decide) k3
  obtain ⟨o, rfl⟩ := ints_of f1
  obtain ⟨n, rfl⟩ := ints_of f2
  obtain ⟨l, rfl⟩ := ints_of f3
  exact ⟨⟨o, n, l, p1, c1, p2, c2, p3, c3⟩, by simp, s1, s2, s3⟩
theorem tab_third {W : World} {a b : String × DataW Unit} (h : laidMet Tryd.prog [a, b, ("internal/strconv.uint64pow10", Lib.tabData .u64 Lib.pow10Tab)] W) : TabH (oldH W) := by
  obtain ⟨a1, a2⟩ := a
  obtain ⟨b1, b2⟩ := b
  obtain ⟨ps, ⟨_, _, _, _, _, _, _, _, _, _, ⟨_, _, _, _, _, _, _, _, _, _, ⟨g', t', cs, fuel, p, q, hg', ht', hvar, hd, _, _⟩, _⟩, _⟩, _⟩ := h
  have hg : Tryd.prog.globalNamed "internal/strconv.uint64pow10" = some 0 := by kernel_rfl
  obtain rfl := Option.some.inj (hg.symm.trans hg')
  obtain rfl := Option.some.inj ((by kernel_rfl : (Tryd.prog.globals[0]?).map (·.type) = some 106).symm.trans ht')
  have hT : Lib.TabIs Tryd.prog W "internal/strconv.uint64pow10" .u64 Lib.pow10Tab := by
    unfold Lib.TabIs
    rw [hvar, ← Lib.cells_of_tab Tryd.underlying106 Tryd.underlying86 (by kernel_rfl) (by kernel_rfl) hd]
  intro w hs
  unfold Lib.TabIs World.var? at hT ⊢
  rw [hg] at hT ⊢
  simp only [Option.bind_some] at hT ⊢
  cases hW : W.heap[0]? with
  | none => rw [hW] at hT; cases hT
  | some o => rw [hs 0 o hW]; rw [hW] at hT; exact hT
end Go.Proofs.YtiedcjebkkdneaaDoor
