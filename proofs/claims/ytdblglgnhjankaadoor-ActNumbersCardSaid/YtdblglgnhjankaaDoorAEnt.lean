/- What the arguments of the Act laws read as. -/
import Derived.Test.YtdblglgnhjankaaDoorA12
import Derived.Test.YtdblglgnhjankaaDoorSlEntryS
import Derived.Lib.LaidTab
namespace Go.Proofs.YtdblglgnhjankaaDoor
open SL Cfg Go.ChangeShapes Go.WideShapes Go.ChangeAt Go.RowKit
set_option linter.unusedVariables false
set_option maxRecDepth 100000
theorem tab_third {W : World} {a b : String × DataW Unit} (h : laidMet Tryd.prog [a, b, ("internal/strconv.uint64pow10", Lib.tabData .u64 Lib.pow10Tab)] W) : TabH (oldH W) := by
  obtain ⟨a1, a2⟩ := a
  obtain ⟨b1, b2⟩ := b
  obtain ⟨ps, ⟨_, _, _, _, _, _, _, _, _, _, ⟨_, _, _, _, _, _, _, _, _, _, ⟨g', t', cs, fuel, p, q, hg', ht', hvar, hd, _, _⟩, _⟩, _⟩, _⟩ := h
  have hg : Tryd.prog.globalNamed "internal/strconv.uint64pow10" = some 0 := by kernel_rfl
  obtain rfl := Option.some.inj (hg.symm.trans hg')
  obtain rfl := Option.some.inj ((by kernel_rfl : (Tryd.prog.globals[0]?).map (·.type) = some 162).symm.trans ht')
  have hT : Lib.TabIs Tryd.prog W "internal/strconv.uint64pow10" .u64 Lib.pow10Tab := by
    unfold Lib.TabIs
    rw [hvar, ← Lib.cells_of_tab Tryd.underlying162 Tryd.underlying150 (by kernel_rfl) (by kernel_rfl) hd]
  intro w hs
  unfold Lib.TabIs World.var? at hT ⊢
  rw [hg] at hT ⊢
  simp only [Option.bind_some] at hT ⊢
  cases hW : W.heap[0]? with
  | none => rw [hW] at hT; cases hT
  | some o => rw [hs 0 o hW]; rw [hW] at hT; exact hT
end Go.Proofs.YtdblglgnhjankaaDoor
