/- What the arguments of ConfigTexts read as. -/
import Derived.Test.YtiedcjebkkdneaaGreatDoorT4
import Derived.Test.YtiedcjebkkdneaaGreatDoorSlEntryS
import Derived.ChangeMaps5
import Derived.Lib.LaidTab
namespace Go.Proofs.YtiedcjebkkdneaaGreatDoor
open SL Cfg Go.ChangeShapes Go.WideShapes Go.ChangeAt Go.RowKit
set_option linter.unusedVariables false
set_option maxRecDepth 100000
theorem tab_third {W : World} {a b : String × DataW Unit} (h : laidMet Tryz.prog [a, b, ("internal/strconv.uint64pow10", Lib.tabData .u64 Lib.pow10Tab)] W) : TabH (oldH W) := by
  obtain ⟨a1, a2⟩ := a
  obtain ⟨b1, b2⟩ := b
  obtain ⟨ps, ⟨_, _, _, _, _, _, _, _, _, _, ⟨_, _, _, _, _, _, _, _, _, _, ⟨g', t', cs, fuel, p, q, hg', ht', hvar, hd, _, _⟩, _⟩, _⟩, _⟩ := h
  have hg : Tryz.prog.globalNamed "internal/strconv.uint64pow10" = some 0 := by kernel_rfl
  obtain rfl := Option.some.inj (hg.symm.trans hg')
  obtain rfl := Option.some.inj ((by kernel_rfl : (Tryz.prog.globals[0]?).map (·.type) = some 117).symm.trans ht')
  have hT : Lib.TabIs Tryz.prog W "internal/strconv.uint64pow10" .u64 Lib.pow10Tab := by
    unfold Lib.TabIs
    rw [hvar, ← Lib.cells_of_tab Tryz.underlying117 Tryz.underlying42 (by kernel_rfl) (by kernel_rfl) hd]
  intro w hs
  unfold Lib.TabIs World.var? at hT ⊢
  rw [hg] at hT ⊢
  simp only [Option.bind_some] at hT ⊢
  cases hW : W.heap[0]? with
  | none => rw [hW] at hT; cases hT
  | some o => rw [hs 0 o hW]; rw [hW] at hT; exact hT
theorem cf_kds : kds Tryz.prog 6 24 = some [.at 22, .at 22, .at 22] := by kernel_rfl
theorem in_kds : kds Tryz.prog 6 3 = some [.int .i64] := by kernel_rfl
theorem intsB_of {H : Type} {enc : TypeId × Value → H} {W : World} {ls : List (List Value)} (f : ∀ r ∈ ls, Fit enc Tryz.prog W [.int .i64] r) : ∃ l : List Int, iz l = ls ∧ AllI l :=
  exists_map (f := fun z => [Value.int .i64 z]) (p := Cfg.I64) fun l hl => by
    obtain ⟨_, _, rfl, ⟨a, rfl, w⟩, h1⟩ := (f l hl).uncons
    cases h1.nil'
    exact ⟨a, rfl, by unfold Cfg.I64; simpa [Lit.wf, IntKind.min, IntKind.max, IntKind.signed, IntKind.bits] using w⟩
theorem cf_arg {H : Type} {enc : TypeId × Value → H} {W : World} {base : Nat} {v : Value} {d : DataW H} {p : List MemPlace} (hok : Value.okWide Tryz.prog W .any base 24 v) (h : DataW.Trod enc Tryz.prog W 0 (fun _ => true) true 24 v d p) : ∃ x : Cf, v = .agg [.slice x.po x.o.length x.co, .slice x.pn x.n.length x.cn, .slice x.pl x.l.length x.cl].toArray ∧ x.In (oldH W) ∧ AllI x.o ∧ AllI x.n ∧ AllI x.l := by
  obtain ⟨cs, rfl, hf⟩ := struct_arg (m := 6) Tryz.underlying24 cf_kds hok h
  obtain ⟨v1, _, rfl, k1, h1⟩ := hf.uncons
  obtain ⟨v2, _, rfl, k2, h2⟩ := h1.uncons
  obtain ⟨v3, _, rfl, k3, h3⟩ := h2.uncons
  cases h3.nil'
  obtain ⟨p1, c1, l1, rfl, s1, f1⟩ := at_slice (m := 6) Tryz.underlying22 in_kds (by kernel_rfl) (by decide) k1
  obtain ⟨p2, c2, l2, rfl, s2, f2⟩ := at_slice (m := 6) Tryz.underlying22 in_kds (by kernel_rfl) (by decide) k2
  obtain ⟨p3, c3, l3, rfl, s3, f3⟩ := at_slice (m := 6) Tryz.underlying22 in_kds (by kernel_rfl) (by decide) k3
  obtain ⟨o, rfl, bo⟩ := intsB_of f1
  obtain ⟨n, rfl, bn⟩ := intsB_of f2
  obtain ⟨l, rfl, bl⟩ := intsB_of f3
  exact ⟨⟨o, n, l, p1, c1, p2, c2, p3, c3⟩, by simp, ⟨s1, s2, s3⟩, bo, bn, bl⟩
end Go.Proofs.YtiedcjebkkdneaaGreatDoor
