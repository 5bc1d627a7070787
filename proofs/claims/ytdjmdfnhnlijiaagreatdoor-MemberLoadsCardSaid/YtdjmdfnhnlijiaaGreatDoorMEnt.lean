/- What the arguments of the Member laws read as. -/
import Derived.Test.YtdjmdfnhnlijiaaGreatDoorM7
import Derived.Test.YtdjmdfnhnlijiaaGreatDoorSlEntryS
import Derived.ChangeMaps5
import Derived.Lib.LaidTab
namespace Go.Proofs.YtdjmdfnhnlijiaaGreatDoor
open SL Cfg Memb Go.ChangeShapes Go.WideShapes Go.ChangeAt Go.RowKit
set_option linter.unusedVariables false
set_option maxRecDepth 100000
theorem tab_third {W : World} {a b : String × DataW Unit} (h : laidMet Tryz.prog [a, b, ("internal/strconv.uint64pow10", Lib.tabData .u64 Lib.pow10Tab)] W) : TabH (oldH W) := by
  obtain ⟨a1, a2⟩ := a
  obtain ⟨b1, b2⟩ := b
  obtain ⟨ps, ⟨_, _, _, _, _, _, _, _, _, _, ⟨_, _, _, _, _, _, _, _, _, _, ⟨g', t', cs, fuel, p, q, hg', ht', hvar, hd, _, _⟩, _⟩, _⟩, _⟩ := h
  have hg : Tryz.prog.globalNamed "internal/strconv.uint64pow10" = some 0 := by kernel_rfl
  obtain rfl := Option.some.inj (hg.symm.trans hg')
  obtain rfl := Option.some.inj ((by kernel_rfl : (Tryz.prog.globals[0]?).map (·.type) = some 169).symm.trans ht')
  have hT : Lib.TabIs Tryz.prog W "internal/strconv.uint64pow10" .u64 Lib.pow10Tab := by
    unfold Lib.TabIs
    rw [hvar, ← Lib.cells_of_tab Tryz.underlying169 Tryz.underlying82 (by kernel_rfl) (by kernel_rfl) hd]
  intro w hs
  unfold Lib.TabIs World.var? at hT ⊢
  rw [hg] at hT ⊢
  simp only [Option.bind_some] at hT ⊢
  cases hW : W.heap[0]? with
  | none => rw [hW] at hT; cases hT
  | some o => rw [hs 0 o hW]; rw [hW] at hT; exact hT
theorem cf_kds : kds Tryz.prog 6 25 = some [.at 22, .at 22, .at 22] := by kernel_rfl
theorem in_kds : kds Tryz.prog 6 3 = some [.int .i64] := by kernel_rfl
theorem intsB_of {H : Type} {enc : TypeId × Value → H} {W : World} {ls : List (List Value)} (f : ∀ r ∈ ls, Fit enc Tryz.prog W [.int .i64] r) : ∃ l : List Int, iz l = ls ∧ AllI l :=
  exists_map (f := fun z => [Value.int .i64 z]) (p := Cfg.I64) fun l hl => by
    obtain ⟨_, _, rfl, ⟨a, rfl, w⟩, h1⟩ := (f l hl).uncons
    cases h1.nil'
    exact ⟨a, rfl, by unfold Cfg.I64; simpa [Lit.wf, IntKind.min, IntKind.max, IntKind.signed, IntKind.bits] using w⟩
theorem cf_arg {H : Type} {enc : TypeId × Value → H} {W : World} {base : Nat} {v : Value} {d : DataW H} {p : List MemPlace} (hok : Value.okWide Tryz.prog W .any base 25 v) (h : DataW.Trod enc Tryz.prog W 0 (fun _ => true) true 25 v d p) : ∃ x : Cf, v = .agg [.slice x.po x.o.length x.co, .slice x.pn x.n.length x.cn, .slice x.pl x.l.length x.cl].toArray ∧ x.In (oldH W) ∧ AllI x.o ∧ AllI x.n ∧ AllI x.l := by
  obtain ⟨cs, rfl, hf⟩ := struct_arg (m := 6) Tryz.underlying25 cf_kds hok h
  obtain ⟨v1, _, rfl, k1, h1⟩ := hf.uncons
  obtain ⟨v2, _, rfl, k2, h2⟩ := h1.uncons
  obtain ⟨v3, _, rfl, k3, h3⟩ := h2.uncons
  cases h3.nil'
  obtain ⟨p1, c1, l1, rfl, s1, f1⟩ := at_slice (m := 6) Tryz.underlying22 in_kds (by kernel_rfl) (by decide) k1
  obtain ⟨p2, c2, l2, rfl, s2, f2⟩ := at_slice (m := 6) Tryz.underlying22 in_kds (by kernel_rfl) (by decide) k2
  obtain ⟨p3, c3, l3, rfl, s3, f3⟩ := at_slice (m := 6) Tryz.underlying22 in_kds (by kernel_rfl) (by decide) k3
  obtain ⟨o, rfl, bo⟩ := intsB_of f1
  obtain ⟨n, rfl, bn⟩ := intsB_of f2
  obtain ⟨l, rfl, bl⟩ := intsB_of f3
  exact ⟨⟨o, n, l, p1, c1, p2, c2, p3, c3⟩, by simp, ⟨s1, s2, s3⟩, bo, bn, bl⟩
theorem ch_kds : kds Tryz.prog 6 41 = some [.int .i64, .int .i64, .at 22, .at 22] := by kernel_rfl
theorem ch_of {H : Type} {enc : TypeId × Value → H} {W : World} {l : List Value} (hf : Fit enc Tryz.prog W [.int .i64, .int .i64, .at 22, .at 22] l) : ∃ c : Ch, c.cells = l ∧ (c.In (oldH W) ∧ c.Ri) := by
  obtain ⟨_, _, rfl, ⟨k, rfl, wk⟩, h1⟩ := hf.uncons
  obtain ⟨_, _, rfl, ⟨m, rfl, wm⟩, h2⟩ := h1.uncons
  obtain ⟨_, _, rfl, k3, h3⟩ := h2.uncons
  obtain ⟨_, _, rfl, k4, h4⟩ := h3.uncons
  cases h4.nil'
  obtain ⟨p1, c1, l1, rfl, s1, f1⟩ := at_slice (m := 6) Tryz.underlying22 in_kds (by kernel_rfl) (by decide) k3
  obtain ⟨p2, c2, l2, rfl, s2, f2⟩ := at_slice (m := 6) Tryz.underlying22 in_kds (by kernel_rfl) (by decide) k4
  obtain ⟨f, rfl, bf⟩ := intsB_of f1
  obtain ⟨t, rfl, bt⟩ := intsB_of f2
  exact ⟨⟨k, m, f, t, p1, c1, p2, c2⟩, by simp [Ch.cells], ⟨s1, s2⟩, by simpa [Lit.wf, IntKind.min, IntKind.max, IntKind.signed, IntKind.bits] using wm, bf, bt⟩
theorem ints_arg {H : Type} {enc : TypeId × Value → H} {W : World} {base : Nat} {v : Value} {d : DataW H} {p : List MemPlace} (hok : Value.okWide Tryz.prog W .any base 22 v) (h : DataW.Trod enc Tryz.prog W 0 (fun _ => true) true 22 v d p) : ∃ q c l, v = .slice q l.length c ∧ Sl (oldH W) q c 1 (iz l) ∧ AllI l := by
  obtain ⟨q, c, ls, rfl, hl, f⟩ := slice_arg (m := 6) Tryz.underlying22 in_kds (by kernel_rfl) hok h
  obtain ⟨l, rfl, hi⟩ := intsB_of f
  exact ⟨q, c, l, by simp, hl, hi⟩
theorem chs_arg {H : Type} {enc : TypeId × Value → H} {W : World} {base : Nat} {v : Value} {d : DataW H} {p : List MemPlace} (hok : Value.okWide Tryz.prog W .any base 23 v) (h : DataW.Trod enc Tryz.prog W 0 (fun _ => true) true 23 v d p) : ∃ q c, ∃ l : List Ch, v = .slice q l.length c ∧ Sl (oldH W) q c 4 (l.map Ch.cells) ∧ (∀ c ∈ l, c.In (oldH W)) ∧ ∀ c ∈ l, c.Ri := by
  obtain ⟨q, c, ls, rfl, hl, f⟩ := slice_arg (m := 6) Tryz.underlying23 ch_kds (by kernel_rfl) hok h
  obtain ⟨l, rfl, ho⟩ := exists_map (f := Ch.cells) (p := fun c => c.In (oldH W) ∧ c.Ri) (ls := ls) fun l hl => ch_of (f l hl)
  exact ⟨q, c, l, by simp, hl, fun c h => (ho c h).1, fun c h => (ho c h).2⟩
theorem ch_arg {H : Type} {enc : TypeId × Value → H} {W : World} {base : Nat} {v : Value} {d : DataW H} {p : List MemPlace} (hok : Value.okWide Tryz.prog W .any base 41 v) (h : DataW.Trod enc Tryz.prog W 0 (fun _ => true) true 41 v d p) : ∃ c : Ch, v = .agg [.int .i64 c.k, .int .i64 c.m, .slice c.pf c.f.length c.cf, .slice c.pt c.t.length c.ct].toArray ∧ c.In (oldH W) ∧ c.Ri := by
  obtain ⟨cs, rfl, hf⟩ := struct_arg (m := 6) Tryz.underlying41 ch_kds hok h
  obtain ⟨c, rfl, h1, h2⟩ := ch_of hf
  exact ⟨c, rfl, h1, h2⟩
end Go.Proofs.YtdjmdfnhnlijiaaGreatDoor
