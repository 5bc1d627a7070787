/- LinearizeExecutes returns true whatever the arguments are, and they read behind the call as they read before. -/
import Derived.Test.YtbgppnkccbhbpaaL20
import Derived.Test.YtbgppnkccbhbpaaSlEntryS
import Derived.Test.YtbgppnkccbhbpaaSlEntry
namespace Go.Proofs.Ytbgppnkccbhbpaa
open SL HistLaw Cfg Go.ChangeShapes Go.WideShapes Go.ChangeAt Go.RowKit
set_option linter.unusedVariables false
set_option maxRecDepth 100000
theorem own : ownKnob Try.prog.godebug = none := by kernel_rfl
theorem laidOut : laidOutB Try.prog = true := by kernel_rfl
theorem op_kds : kds Try.prog 6 42 = some [.int .i64, .int .i64, .int .i64, .int .i64, .string, .int .i64, .int .i64, .int .i64, .bool, .int .i64, .int .i64, .int .i64] := by kernel_rfl
theorem in_kds : kds Try.prog 6 3 = some [.int .i64] := by kernel_rfl
theorem op_of {H : Type} {enc : TypeId × Value → H} {w : World} {l : List Value} (h : Fit enc Try.prog w [.int .i64, .int .i64, .int .i64, .int .i64, .string, .int .i64, .int .i64, .int .i64, .bool, .int .i64, .int .i64, .int .i64] l) : ∃ a : O, a.c = l ∧ True := by
  obtain ⟨_, _, rfl, ⟨cl, rfl, w0⟩, h1⟩ := h.uncons
  obtain ⟨_, _, rfl, ⟨nu, rfl, w1⟩, h2⟩ := h1.uncons
  obtain ⟨_, _, rfl, ⟨gr, rfl, w2⟩, h3⟩ := h2.uncons
  obtain ⟨_, _, rfl, ⟨kd, rfl, w3⟩, h4⟩ := h3.uncons
  obtain ⟨_, _, rfl, ⟨key, rfl, w4⟩, h5⟩ := h4.uncons
  obtain ⟨_, _, rfl, ⟨val, rfl, w5⟩, h6⟩ := h5.uncons
  obtain ⟨_, _, rfl, ⟨old, rfl, w6⟩, h7⟩ := h6.uncons
  obtain ⟨_, _, rfl, ⟨code, rfl, w7⟩, h8⟩ := h7.uncons
  obtain ⟨_, _, rfl, ⟨fnd, rfl⟩, h9⟩ := h8.uncons
  obtain ⟨_, _, rfl, ⟨rv, rfl, w9⟩, h10⟩ := h9.uncons
  obtain ⟨_, _, rfl, ⟨inv, rfl, w10⟩, h11⟩ := h10.uncons
  obtain ⟨_, _, rfl, ⟨rsp, rfl, w11⟩, h12⟩ := h11.uncons
  cases h12.nil'
  exact ⟨⟨cl, nu, gr, kd, key, val, old, code, fnd, rv, inv, rsp⟩, rfl, trivial⟩
theorem p4_kds : kds Try.prog 6 38 = some [.int .i64, .string, .int .i64, .int .i64] := by kernel_rfl
theorem u8_kds : kds Try.prog 6 5 = some [.int .u8] := by kernel_rfl
theorem p4_of {H : Type} {enc : TypeId × Value → H} {w : World} {l : List Value} (h : Fit enc Try.prog w [.int .i64, .string, .int .i64, .int .i64] l) : ∃ a : P4, a.c = l ∧ True := by
  obtain ⟨_, _, rfl, ⟨a, rfl, w0⟩, h1⟩ := h.uncons
  obtain ⟨_, _, rfl, ⟨b, rfl, w1⟩, h2⟩ := h1.uncons
  obtain ⟨_, _, rfl, ⟨c, rfl, w2⟩, h3⟩ := h2.uncons
  obtain ⟨_, _, rfl, ⟨d, rfl, w3⟩, h4⟩ := h3.uncons
  cases h4.nil'
  exact ⟨⟨a, b, c, d⟩, rfl, trivial⟩
theorem u8_of {H : Type} {enc : TypeId × Value → H} {w : World} {l : List Value} (h : Fit enc Try.prog w [.int .u8] l) : ∃ a : Int, [Value.int .u8 a] = l ∧ 0 ≤ a ∧ a ≤ 255 := by
  obtain ⟨_, _, rfl, ⟨a, rfl, w0⟩, h1⟩ := h.uncons
  cases h1.nil'
  refine ⟨a, rfl, ?_⟩
  simpa [Lit.wf, IntKind.min, IntKind.max, IntKind.signed, IntKind.bits] using w0
theorem law_contract (H : Type) (enc : TypeId × Value → H) (W : World) (base : Nat) (args : Array Value) (ds gs : List (DataW H)) (before : List MemPlace)
    (hval : ∀ (j : Nat) t v, Try.f7.params[j]? = some t → args[j]? = some v → Value.okWide Try.prog W .any base t v)
    (hW : DataW.Whole enc Try.prog Try.f7.params.toList Rows.linearizeExecutesSpec.vars false W args.toList ds gs before) :
    Calls Try.prog 7 args W fun e W' => ∃ v, e = .returned v ∧ Rows.linearizeExecutesSpec.post enc Try.prog Try.f7 false true false false W args v W' := by
  have hW' := hW
  obtain ⟨p, q, hA0, hV, rfl, hfz, hnd⟩ := hW
  have hA : DataW.TrodAll enc Try.prog W 0 (fun _ => true) true Try.f7.params.toList args.toList ds p := hA0
  rw [Try.params7] at hA hval
  obtain ⟨v0, vs0, d0, ds0, p0, q0, hargs, rfl, rfl, h0, r0⟩ := trodAll_cons hA
  obtain ⟨v1, vs1, d1, ds1, p1, q1, rfl, rfl, rfl, h1, r1⟩ := trodAll_cons r0
  obtain ⟨rfl, rfl, rfl⟩ := trodAll_nil r1
  obtain rfl : args = #[v0, v1] := by cases args; simp_all
  obtain ⟨pp, c, ls, rfl, hS, hF⟩ := slice_arg (m := 6) Try.underlying45 p4_kds (by kernel_rfl) (hval 0 45 v0 rfl rfl) h0
  obtain ⟨ops, rfl, hwf⟩ := exists_map fun l hl => p4_of (hF l hl)
  obtain ⟨q, d, ls2, rfl, hQ, hF2⟩ := slice_arg (m := 6) Try.underlying46 u8_kds (by kernel_rfl) (hval 1 46 v1 rfl rfl) h1
  obtain ⟨wd, rfl, hwd⟩ := exists_map fun l hl => u8_of (hF2 l hl)
  rw [show ((wd.map fun z => [Value.int .u8 z]).length) = wd.length by simp] at *
  refine (linExecutes_ct ops (oldH W) pp c hS wd q d hQ hwd (W.os, W.output) emp W (mem_old W)).mono ?_
  rintro e W' ⟨v, Hs, rfl, ⟨rfl, rfl⟩, hm⟩
  exact ⟨_, rfl, law_post laidOut (by kernel_rfl) hW' rfl rfl Try.underlying4 rfl hm (c := 1) rfl⟩
theorem law_lifted (os : Os) (started : os.Started) (H : Type) (enc : TypeId × Value → H) :
    ReturnsInHanded {} Try.checked os 7 .any (Rows.linearizeExecutesSpec.pre6 enc Try.prog Try.f7 Rows.linearizeExecutesRow.domain false) (Rows.linearizeExecutesSpec.post enc Try.prog Try.f7 false true false false) := by
  refine returnsInHanded_of_change (C := Try.checked) own started (by kernel_rfl) Try.func7
    (ChangeSpec.witness6 (enc := enc) (C := Try.checked) false ⟨#[], #[.slice none 0 0, .slice none 0 0], []⟩ 8 (by kernel_rfl) (by kernel_rfl) (by kernel_rfl) (by kernel_rfl)) ?_
  intro W base args ds gs before hval hW _ _
  exact law_contract H enc W base args ds gs before hval hW
theorem linearizeExecutes_holds : Rows.LinearizeExecutesSaid :=
  OpenClaim.holds_of_wide 7 Try.f7 rfl rfl rfl rfl rfl rfl rfl ⟨rfl, rfl, rfl, rfl, rfl⟩ rfl rfl rfl rfl rfl (by kernel_rfl) Try.func7 (by kernel_rfl)
    (of_decide_eq_true (by kernel_rfl)) (by unfold Func.isWrapper; first | (rw [if_pos (by decide +kernel)]; kernel_rfl) | (rw [if_neg (by decide +kernel)]; exact ⟨rfl, rfl⟩))
    (fun os started H enc _ => law_lifted os started H enc)
end Go.Proofs.Ytbgppnkccbhbpaa
