/- The facts that the row of a law stands on, one by one. Printed by wip/tool/closed.py. -/
import Derived.Test.YtnakhfmnchmhjaaGreatRows
import Derived.JoinedOf
import Derived.KernelRfl
namespace Go.Proofs.YtnakhfmnchmhjaaGreat
theorem replicaSteps_k0 : (Rows.replicaStepsRow.wf (OpenSpec.ofChange Rows.replicaStepsSpec)) = true := by kernel_rfl
theorem replicaSteps_k1 : (laidOutB Tryz.prog) = true := by kernel_rfl
theorem replicaSteps_k2 : (mapsRowed Tryz.prog) = true := by kernel_rfl
theorem replicaSteps_k3 : (Tryz.f3.params.all (Tryz.prog.readableRec ·)) = true := by kernel_rfl
theorem replicaSteps_k4 : (namedTie Tryz.prog Rows.replicaStepsRow.named Rows.replicaStepsSpec.vars) = true := by kernel_rfl
theorem replicaSteps_k5 : ((Rows.replicaStepsRow.stops == [])) = true := by kernel_rfl
theorem replicaSteps_k6 : ((Tryz.prog.stops == [])) = true := by kernel_rfl
theorem replicaSteps_k7 : ((Rows.replicaStepsRow.knobs == [])) = true := by kernel_rfl
theorem replicaSteps_k8 : ((Tryz.prog.stopKnobs == [])) = true := by kernel_rfl
theorem replicaSteps_k9 : ((Rows.replicaStepsRow.inPlace == Tryz.prog.inPlace 3)) = true := by kernel_rfl
theorem replicaSteps_k10 : ((Rows.replicaStepsRow.unfollowed == Tryz.prog.unfollowed 3)) = true := by kernel_rfl
theorem replicaSteps_k11 : ((Rows.replicaStepsRow.recurses == Tryz.prog.recurses 3)) = true := by kernel_rfl
theorem replicaSteps_k12 : ((Rows.replicaStepsRow.named == Tryz.prog.varsNamed 3)) = true := by kernel_rfl
theorem replicaSteps_k13 : ((Rows.replicaStepsRow.maps == (Tryz.f3.params.toList ++ Rows.replicaStepsSpec.plain.varTypes Tryz.prog).any (Tryz.prog.mapsRec ·))) = true := by kernel_rfl
theorem replicaSteps_k14 : ((Rows.replicaStepsRow.ifaces == (Tryz.f3.params.toList ++ Rows.replicaStepsSpec.plain.varTypes Tryz.prog).any (Tryz.prog.ifacesRec ·))) = true := by kernel_rfl
theorem replicaSteps_k15 : ((Rows.replicaStepsRow.mapsOut == Tryz.prog.mapsAmong Tryz.f3.resultTypes.toList)) = true := by kernel_rfl
theorem replicaSteps_k16 : ((Rows.replicaStepsRow.loops == (Tryz.f3.params.toList ++ Rows.replicaStepsSpec.plain.varTypes Tryz.prog).any (Tryz.prog.loopsFrom ·))) = true := by kernel_rfl
theorem replicaSteps_k17 : ((Rows.replicaStepsRow.wideKeys == (Tryz.f3.params.toList ++ Rows.replicaStepsSpec.plain.varTypes Tryz.prog ++ Tryz.f3.resultTypes.toList).any (Tryz.prog.wideKeysFrom ·))) = true := by kernel_rfl
theorem replicaSteps_k18 : (Rows.replicaStepsSpec.vars.all (Tryz.prog.varReadable ·)) = true := by kernel_rfl
theorem replicaSteps_k19 : (Tryz.f3.resultTypes.all (fun t => Tryz.prog.readableRec t && decide (t < Tryz.prog.types.size))) = true := by kernel_rfl
theorem replicaSteps_k20 : ((Rows.replicaStepsRow.ifacesOut == Tryz.f3.resultTypes.toList.any (Tryz.prog.ifacesRec ·))) = true := by kernel_rfl
theorem replicaSteps_k21 : ((Rows.replicaStepsRow.loopsOut == Tryz.f3.resultTypes.toList.any (Tryz.prog.loopsFrom ·))) = true := by kernel_rfl
theorem replicaSteps_k22 : ((Rows.replicaStepsRow.plainKeys == Tryz.prog.plainKeys)) = true := by kernel_rfl
theorem replicaSteps_k23 : (Rows.replicaStepsRow.shortTexts.isNone) = true := by kernel_rfl
theorem replicaSteps_k24 : (Tryz.prog.stopsHeard) = true := by kernel_rfl
theorem replicaSteps_k25 : (Tryz.prog.mayEnter) = true := by kernel_rfl
theorem replicaSteps_k26 : ((Rows.replicaStepsRow.lifted == Tryz.prog.liftsFinal)) = true := by kernel_rfl
theorem replicaSteps_k27 : ((Tryz.prog.make == some Rows.replicaStepsRow.make)) = true := by kernel_rfl
theorem replicaSteps_k28 : ((Rows.replicaStepsRow.kinds == (if Rows.replicaStepsRow.domain.isEmpty then [] else Tryz.f3.params.toList.map fun t => match Tryz.prog.underlying t with | some (.int k) => some k | _ => none))) = true := by kernel_rfl
theorem replicaSteps_k29 : ((Rows.replicaStepsRow.pinned == Rows.replicaStepsRow.pinnedBy)) = true := by kernel_rfl
theorem replicaSteps_k30 : ((Rows.replicaStepsRow.veiled == (Tryz.f3.params.toList ++ Rows.replicaStepsSpec.plain.varTypes Tryz.prog ++ Tryz.f3.resultTypes.toList).any (Tryz.prog.veiledRec ·))) = true := by kernel_rfl
theorem replicaSteps_k31 : (Rows.replicaStepsRow.veiledFits Tryz.prog Tryz.f3.params.toList (Tryz.f3.params.toList ++ Rows.replicaStepsSpec.plain.varTypes Tryz.prog ++ Tryz.f3.resultTypes.toList)) = true := by kernel_rfl
set_option maxRecDepth 100000 in
theorem replicaSteps_closed : joinedFacts Tryz.prog 3 Tryz.f3 Rows.replicaStepsSpec Rows.replicaStepsRow = true :=
  Bool.and_eq_true_iff.2 ⟨(Bool.and_eq_true_iff.2 ⟨(Bool.and_eq_true_iff.2 ⟨(Bool.and_eq_true_iff.2 ⟨(Bool.and_eq_true_iff.2 ⟨(Bool.and_eq_true_iff.2 ⟨(Bool.and_eq_true_iff.2 ⟨(Bool.and_eq_true_iff.2 ⟨(Bool.and_eq_true_iff.2 ⟨(Bool.and_eq_true_iff.2 ⟨(Bool.and_eq_true_iff.2 ⟨(Bool.and_eq_true_iff.2 ⟨(Bool.and_eq_true_iff.2 ⟨(Bool.and_eq_true_iff.2 ⟨(Bool.and_eq_true_iff.2 ⟨(Bool.and_eq_true_iff.2 ⟨(Bool.and_eq_true_iff.2 ⟨(Bool.and_eq_true_iff.2 ⟨(Bool.and_eq_true_iff.2 ⟨(Bool.and_eq_true_iff.2 ⟨(Bool.and_eq_true_iff.2 ⟨(Bool.and_eq_true_iff.2 ⟨(Bool.and_eq_true_iff.2 ⟨(Bool.and_eq_true_iff.2 ⟨(Bool.and_eq_true_iff.2 ⟨(Bool.and_eq_true_iff.2 ⟨(Bool.and_eq_true_iff.2 ⟨(Bool.and_eq_true_iff.2 ⟨(Bool.and_eq_true_iff.2 ⟨(Bool.and_eq_true_iff.2 ⟨(Bool.and_eq_true_iff.2 ⟨replicaSteps_k0, replicaSteps_k1⟩), replicaSteps_k2⟩), replicaSteps_k3⟩), replicaSteps_k4⟩), replicaSteps_k5⟩), replicaSteps_k6⟩), replicaSteps_k7⟩), replicaSteps_k8⟩), replicaSteps_k9⟩), replicaSteps_k10⟩), replicaSteps_k11⟩), replicaSteps_k12⟩), replicaSteps_k13⟩), replicaSteps_k14⟩), replicaSteps_k15⟩), replicaSteps_k16⟩), replicaSteps_k17⟩), replicaSteps_k18⟩), replicaSteps_k19⟩), replicaSteps_k20⟩), replicaSteps_k21⟩), replicaSteps_k22⟩), replicaSteps_k23⟩), replicaSteps_k24⟩), replicaSteps_k25⟩), replicaSteps_k26⟩), replicaSteps_k27⟩), replicaSteps_k28⟩), replicaSteps_k29⟩), replicaSteps_k30⟩), replicaSteps_k31⟩
end Go.Proofs.YtnakhfmnchmhjaaGreat
