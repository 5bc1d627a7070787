/- Several texts in one, in their build order: what the proofs of this seat share. -/
import Derived.Test.YtnakhfmnchmhjaaGreatRows
import Derived.JoinedOf
import Derived.KernelRfl
import Derived.Test.YtnakhfmnchmhjaaGreatPk8
import Derived.Test.YtnakhfmnchmhjaaGreatPk11
import Derived.Test.YtnakhfmnchmhjaaGreatPk7
set_option linter.unusedVariables false
set_option linter.unusedSimpArgs false
set_option linter.unusedSectionVars false
/- The facts that the row of a law stands on, one by one. Printed by wip/tool/closed.py. -/
namespace Go.Proofs.YtnakhfmnchmhjaaGreat
theorem replicaBytes_k0 : (Rows.replicaBytesRow.wf (OpenSpec.ofChange Rows.replicaBytesSpec)) = true := by kernel_rfl
theorem replicaBytes_k1 : (laidOutB Tryz.prog) = true := by kernel_rfl
theorem replicaBytes_k2 : (mapsRowed Tryz.prog) = true := by kernel_rfl
theorem replicaBytes_k3 : (Tryz.f4.params.all (Tryz.prog.readableRec ·)) = true := by kernel_rfl
theorem replicaBytes_k4 : (namedTie Tryz.prog Rows.replicaBytesRow.named Rows.replicaBytesSpec.vars) = true := by kernel_rfl
theorem replicaBytes_k5 : ((Rows.replicaBytesRow.stops == [])) = true := by kernel_rfl
theorem replicaBytes_k6 : ((Tryz.prog.stops == [])) = true := by kernel_rfl
theorem replicaBytes_k7 : ((Rows.replicaBytesRow.knobs == [])) = true := by kernel_rfl
theorem replicaBytes_k8 : ((Tryz.prog.stopKnobs == [])) = true := by kernel_rfl
theorem replicaBytes_k9 : ((Rows.replicaBytesRow.inPlace == Tryz.prog.inPlace 4)) = true := by kernel_rfl
theorem replicaBytes_k10 : ((Rows.replicaBytesRow.unfollowed == Tryz.prog.unfollowed 4)) = true := by kernel_rfl
theorem replicaBytes_k11 : ((Rows.replicaBytesRow.recurses == Tryz.prog.recurses 4)) = true := by kernel_rfl
theorem replicaBytes_k12 : ((Rows.replicaBytesRow.named == Tryz.prog.varsNamed 4)) = true := by kernel_rfl
theorem replicaBytes_k13 : ((Rows.replicaBytesRow.maps == (Tryz.f4.params.toList ++ Rows.replicaBytesSpec.plain.varTypes Tryz.prog).any (Tryz.prog.mapsRec ·))) = true := by kernel_rfl
theorem replicaBytes_k14 : ((Rows.replicaBytesRow.ifaces == (Tryz.f4.params.toList ++ Rows.replicaBytesSpec.plain.varTypes Tryz.prog).any (Tryz.prog.ifacesRec ·))) = true := by kernel_rfl
theorem replicaBytes_k15 : ((Rows.replicaBytesRow.mapsOut == Tryz.prog.mapsAmong Tryz.f4.resultTypes.toList)) = true := by kernel_rfl
theorem replicaBytes_k16 : ((Rows.replicaBytesRow.loops == (Tryz.f4.params.toList ++ Rows.replicaBytesSpec.plain.varTypes Tryz.prog).any (Tryz.prog.loopsFrom ·))) = true := by kernel_rfl
theorem replicaBytes_k17 : ((Rows.replicaBytesRow.wideKeys == (Tryz.f4.params.toList ++ Rows.replicaBytesSpec.plain.varTypes Tryz.prog ++ Tryz.f4.resultTypes.toList).any (Tryz.prog.wideKeysFrom ·))) = true := by kernel_rfl
theorem replicaBytes_k18 : (Rows.replicaBytesSpec.vars.all (Tryz.prog.varReadable ·)) = true := by kernel_rfl
theorem replicaBytes_k19 : (Tryz.f4.resultTypes.all (fun t => Tryz.prog.readableRec t && decide (t < Tryz.prog.types.size))) = true := by kernel_rfl
theorem replicaBytes_k20 : ((Rows.replicaBytesRow.ifacesOut == Tryz.f4.resultTypes.toList.any (Tryz.prog.ifacesRec ·))) = true := by kernel_rfl
theorem replicaBytes_k21 : ((Rows.replicaBytesRow.loopsOut == Tryz.f4.resultTypes.toList.any (Tryz.prog.loopsFrom ·))) = true := by kernel_rfl
theorem replicaBytes_k22 : ((Rows.replicaBytesRow.plainKeys == Tryz.prog.plainKeys)) = true := by kernel_rfl
theorem replicaBytes_k23 : (Rows.replicaBytesRow.shortTexts.isNone) = true := by kernel_rfl
theorem replicaBytes_k24 : (Tryz.prog.stopsHeard) = true := by kernel_rfl
theorem replicaBytes_k25 : (Tryz.prog.mayEnter) = true := by kernel_rfl
theorem replicaBytes_k26 : ((Rows.replicaBytesRow.lifted == Tryz.prog.liftsFinal)) = true := by kernel_rfl
theorem replicaBytes_k27 : ((Tryz.prog.make == some Rows.replicaBytesRow.make)) = true := by kernel_rfl
theorem replicaBytes_k28 : ((Rows.replicaBytesRow.kinds == (if Rows.replicaBytesRow.domain.isEmpty then [] else Tryz.f4.params.toList.map fun t => match Tryz.prog.underlying t with | some (.int k) => some k | _ => none))) = true := by kernel_rfl
theorem replicaBytes_k29 : ((Rows.replicaBytesRow.pinned == Rows.replicaBytesRow.pinnedBy)) = true := by kernel_rfl
theorem replicaBytes_k30 : ((Rows.replicaBytesRow.veiled == (Tryz.f4.params.toList ++ Rows.replicaBytesSpec.plain.varTypes Tryz.prog ++ Tryz.f4.resultTypes.toList).any (Tryz.prog.veiledRec ·))) = true := by kernel_rfl
theorem replicaBytes_k31 : (Rows.replicaBytesRow.veiledFits Tryz.prog Tryz.f4.params.toList (Tryz.f4.params.toList ++ Rows.replicaBytesSpec.plain.varTypes Tryz.prog ++ Tryz.f4.resultTypes.toList)) = true := by kernel_rfl
set_option maxRecDepth 100000 in
theorem replicaBytes_closed : joinedFacts Tryz.prog 4 Tryz.f4 Rows.replicaBytesSpec Rows.replicaBytesRow = true :=
  Bool.and_eq_true_iff.2 ⟨(Bool.and_eq_true_iff.2 ⟨(Bool.and_eq_true_iff.2 ⟨(Bool.and_eq_true_iff.2 ⟨(Bool.and_eq_true_iff.2 ⟨(Bool.and_eq_true_iff.2 ⟨(Bool.and_eq_true_iff.2 ⟨(Bool.and_eq_true_iff.2 ⟨(Bool.and_eq_true_iff.2 ⟨(Bool.and_eq_true_iff.2 ⟨(Bool.and_eq_true_iff.2 ⟨(Bool.and_eq_true_iff.2 ⟨(Bool.and_eq_true_iff.2 ⟨(Bool.and_eq_true_iff.2 ⟨(Bool.and_eq_true_iff.2 ⟨(Bool.and_eq_true_iff.2 ⟨(Bool.and_eq_true_iff.2 ⟨(Bool.and_eq_true_iff.2 ⟨(Bool.and_eq_true_iff.2 ⟨(Bool.and_eq_true_iff.2 ⟨(Bool.and_eq_true_iff.2 ⟨(Bool.and_eq_true_iff.2 ⟨(Bool.and_eq_true_iff.2 ⟨(Bool.and_eq_true_iff.2 ⟨(Bool.and_eq_true_iff.2 ⟨(Bool.and_eq_true_iff.2 ⟨(Bool.and_eq_true_iff.2 ⟨(Bool.and_eq_true_iff.2 ⟨(Bool.and_eq_true_iff.2 ⟨(Bool.and_eq_true_iff.2 ⟨(Bool.and_eq_true_iff.2 ⟨replicaBytes_k0, replicaBytes_k1⟩), replicaBytes_k2⟩), replicaBytes_k3⟩), replicaBytes_k4⟩), replicaBytes_k5⟩), replicaBytes_k6⟩), replicaBytes_k7⟩), replicaBytes_k8⟩), replicaBytes_k9⟩), replicaBytes_k10⟩), replicaBytes_k11⟩), replicaBytes_k12⟩), replicaBytes_k13⟩), replicaBytes_k14⟩), replicaBytes_k15⟩), replicaBytes_k16⟩), replicaBytes_k17⟩), replicaBytes_k18⟩), replicaBytes_k19⟩), replicaBytes_k20⟩), replicaBytes_k21⟩), replicaBytes_k22⟩), replicaBytes_k23⟩), replicaBytes_k24⟩), replicaBytes_k25⟩), replicaBytes_k26⟩), replicaBytes_k27⟩), replicaBytes_k28⟩), replicaBytes_k29⟩), replicaBytes_k30⟩), replicaBytes_k31⟩
end Go.Proofs.YtnakhfmnchmhjaaGreat
/- ReplicaBytes returns true whatever the arguments are, and they read behind the call as they read before. No condition. -/
namespace Go.Proofs.YtnakhfmnchmhjaaGreat
open SL Cfg Rpl Go.ChangeShapes Go.WideShapes Go.ChangeAt Go.RowKit
set_option linter.unusedVariables false
set_option maxRecDepth 100000
theorem own : ownKnob Tryz.prog.godebug = none := by kernel_rfl
theorem laidOut : laidOutB Tryz.prog = true := by kernel_rfl
theorem law_contract (H : Type) (enc : TypeId × Value → H) (W : World) (base : Nat) (args : Array Value) (ds gs : List (DataW H)) (before : List MemPlace)
    (hval : ∀ (j : Nat) t v, Tryz.f4.params[j]? = some t → args[j]? = some v → Value.okWide Tryz.prog W .any base t v)
    (hW : DataW.Whole enc Tryz.prog Tryz.f4.params.toList Rows.replicaBytesSpec.vars false W args.toList ds gs before) :
    Calls Tryz.prog 4 args W fun e W' => ∃ v, e = .returned v ∧ Rows.replicaBytesSpec.post enc Tryz.prog Tryz.f4 false true false false W args v W' := by
  have hW' := hW
  obtain ⟨p, q, hA0, hV, rfl, hfz, hnd⟩ := hW
  have hA : DataW.TrodAll enc Tryz.prog W 0 (fun _ => true) true Tryz.f4.params.toList args.toList ds p := hA0
  rw [Tryz.params4] at hA hval
  obtain ⟨v0, vs0, d0, ds0, p0, q0, hargs, rfl, rfl, h0, r0⟩ := trodAll_cons hA
  obtain ⟨v1, vs1, d1, ds1, p1, q1, rfl, rfl, rfl, h1, r1⟩ := trodAll_cons r0
  obtain ⟨v2, vs2, d2, ds2, p2, q2, rfl, rfl, rfl, h2, r2⟩ := trodAll_cons r1
  obtain ⟨rfl, rfl, rfl⟩ := trodAll_nil r2
  obtain rfl : args = #[v0, v1, v2] := by cases args; simp_all
  obtain ⟨x, rfl, hX, hxo⟩ := r_arg (hval 0 73 v0 rfl rfl) h0
  obtain ⟨m, rfl, hM, hmo⟩ := m_arg (hval 1 59 v1 rfl rfl) h1
  obtain ⟨s, rfl, rfl, rfl, ws⟩ := Go.ChangeMaps.open_string Tryz.underlying9 (hval 2 9 v2 rfl rfl) h2
  refine (bytes_ct SL.Cv.root_ct x m s (oldH W) hX hM hxo hmo (W.os, W.output) emp W (mem_old W)).mono ?_
  rintro e W' ⟨v, Hs, rfl, ⟨rfl, rfl⟩, hm⟩
  exact ⟨_, rfl, law_post laidOut (by kernel_rfl) hW' rfl rfl Tryz.underlying4 rfl hm (c := 1) rfl⟩
theorem law_lifted (os : Os) (started : os.Started) (H : Type) (enc : TypeId × Value → H) :
    ReturnsInHanded {} Tryz.checked os 4 .any (Rows.replicaBytesSpec.pre6 enc Tryz.prog Tryz.f4 Rows.replicaBytesRow.domain false) (Rows.replicaBytesSpec.post enc Tryz.prog Tryz.f4 false true false false) := by
  refine returnsInHanded_of_change (C := Tryz.checked) own started (by kernel_rfl) Tryz.func4
    (ChangeSpec.witness6 (enc := enc) (C := Tryz.checked) false ⟨#[], #[.agg #[.int .i64 0, .int .i64 0, .int .i64 0, .int .i64 0, .string .empty, .slice none 0 0], .agg #[.int .i64 0, .int .i64 0, .int .i64 0, .int .i64 0, .int .i64 0, .int .i64 0, .int .i64 0, .int .i64 0, .bool false, .slice none 0 0, .int .i64 0, .string .empty, .bool false], .string .empty], []⟩ 8 (by kernel_rfl) (by kernel_rfl) (by kernel_rfl) (by kernel_rfl)) ?_
  intro W base args ds gs before hval hW _ _
  exact law_contract H enc W base args ds gs before hval hW
theorem replicaBytes_holds : Rows.ReplicaBytesSaid :=
  OpenClaim.holds_of_wide 4 Tryz.f4 rfl rfl rfl rfl rfl rfl rfl ⟨rfl, rfl, rfl, rfl, rfl⟩ rfl rfl rfl rfl rfl (by kernel_rfl) Tryz.func4 replicaBytes_closed
    (of_decide_eq_true (by kernel_rfl)) (by unfold Func.isWrapper; first | (rw [if_pos (by decide +kernel)]; kernel_rfl) | (rw [if_neg (by decide +kernel)]; exact ⟨rfl, rfl⟩))
    (fun os started H enc _ => law_lifted os started H enc)
end Go.Proofs.YtnakhfmnchmhjaaGreat
