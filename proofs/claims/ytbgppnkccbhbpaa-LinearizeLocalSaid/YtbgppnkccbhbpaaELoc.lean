/- LinearizeLocal returns true whatever the arguments are, and they read behind the call as they read before. -/
import Derived.Test.YtbgppnkccbhbpaaL21
import Derived.Test.YtbgppnkccbhbpaaSlEntryS
import Derived.Test.YtbgppnkccbhbpaaSlEntry
namespace Go.Proofs.Ytbgppnkccbhbpaa
open SL HistLaw Cfg Go.ChangeShapes Go.WideShapes Go.ChangeAt Go.RowKit
set_option linter.unusedVariables false
set_option maxRecDepth 100000
theorem own : ownKnob Try.prog.godebug = none := by kernel_rfl
theorem laidOut : laidOutB Try.prog = true := by kernel_rfl
theorem op_kds : kds Try.prog 6 42 = some [.int .i64, .int .i64, .int .i64, .int .i64, .string, .int .i64, .int .i64, .int .i64, .bool, .int .i64, .int .i64, .int .i64] := by kernel_rfl
theorem in_kds : kds Try.prog 6 3 = some [.int .i64] := by kernel_rfl
theorem op_of {H : Type} {enc : TypeId × Value → H} {w : World} {l : List Value} (h : Fit enc Try.prog w [.int .i64, .int .i64, .int .i64, .int .i64, .string, .int .i64, .int .i64, .int .i64, .bool, .int .i64, .int .i64, .int .i64] l) : ∃ a : O, a.c = l ∧ True := by
  obtain ⟨_, _, rfl, ⟨cl, rfl, w0⟩, h1⟩ := h.uncons
  obtain ⟨_, _, rfl, ⟨nu, rfl, w1⟩, h2⟩ := h1.uncons
  obtain ⟨_, _, rfl, ⟨gr, rfl, w2⟩, h3⟩ := h2.uncons
  obtain ⟨_, _, rfl, ⟨kd, rfl, w3⟩, h4⟩ := h3.uncons
  obtain ⟨_, _, rfl, ⟨key, rfl, w4⟩, h5⟩ := h4.uncons
  obtain ⟨_, _, rfl, ⟨val, rfl, w5⟩, h6⟩ := h5.uncons
  obtain ⟨_, _, rfl, ⟨old, rfl, w6⟩, h7⟩ := h6.uncons
  obtain ⟨_, _, rfl, ⟨code, rfl, w7⟩, h8⟩ := h7.uncons
  obtain ⟨_, _, rfl, ⟨fnd, rfl⟩, h9⟩ := h8.uncons
  obtain ⟨_, _, rfl, ⟨rv, rfl, w9⟩, h10⟩ := h9.uncons
  obtain ⟨_, _, rfl, ⟨inv, rfl, w10⟩, h11⟩ := h10.uncons
  obtain ⟨_, _, rfl, ⟨rsp, rfl, w11⟩, h12⟩ := h11.uncons
  cases h12.nil'
  exact ⟨⟨cl, nu, gr, kd, key, val, old, code, fnd, rv, inv, rsp⟩, rfl, trivial⟩
theorem law_contract (H : Type) (enc : TypeId × Value → H) (W : World) (base : Nat) (args : Array Value) (ds gs : List (DataW H)) (before : List MemPlace)
    (hval : ∀ (j : Nat) t v, Try.f4.params[j]? = some t → args[j]? = some v → Value.okWide Try.prog W .any base t v)
    (hW : DataW.Whole enc Try.prog Try.f4.params.toList Rows.linearizeLocalSpec.vars false W args.toList ds gs before) :
    Calls Try.prog 4 args W fun e W' => ∃ v, e = .returned v ∧ Rows.linearizeLocalSpec.post enc Try.prog Try.f4 false true false false W args v W' := by
  have hW' := hW
  obtain ⟨p, q, hA0, hV, rfl, hfz, hnd⟩ := hW
  have hA : DataW.TrodAll enc Try.prog W 0 (fun _ => true) true Try.f4.params.toList args.toList ds p := hA0
  rw [Try.params4] at hA hval
  obtain ⟨v0, d0, rfl, rfl, h0⟩ := trodAll_one hA
  obtain ⟨pp, c, ls, rfl, hS, hF⟩ := slice_arg (m := 6) Try.underlying22 op_kds (by kernel_rfl) (hval 0 22 v0 rfl rfl) h0
  obtain ⟨l, rfl, hwf⟩ := exists_map fun l hl => op_of (hF l hl)
  refine (linLocal_ct l (oldH W) pp c hS (W.os, W.output) emp W (mem_old W)).mono ?_
  rintro e W' ⟨v, Hs, rfl, ⟨rfl, rfl⟩, hm⟩
  exact ⟨_, rfl, law_post laidOut (by kernel_rfl) hW' rfl rfl Try.underlying4 rfl hm (c := 1) rfl⟩
theorem law_lifted (os : Os) (started : os.Started) (H : Type) (enc : TypeId × Value → H) :
    ReturnsInHanded {} Try.checked os 4 .any (Rows.linearizeLocalSpec.pre6 enc Try.prog Try.f4 Rows.linearizeLocalRow.domain false) (Rows.linearizeLocalSpec.post enc Try.prog Try.f4 false true false false) := by
  refine returnsInHanded_of_change (C := Try.checked) own started (by kernel_rfl) Try.func4
    (ChangeSpec.witness6 (enc := enc) (C := Try.checked) false ⟨#[], #[.slice none 0 0], []⟩ 8 (by kernel_rfl) (by kernel_rfl) (by kernel_rfl) (by kernel_rfl)) ?_
  intro W base args ds gs before hval hW _ _
  exact law_contract H enc W base args ds gs before hval hW
theorem linearizeLocal_holds : Rows.LinearizeLocalSaid :=
  OpenClaim.holds_of_wide 4 Try.f4 rfl rfl rfl rfl rfl rfl rfl ⟨rfl, rfl, rfl, rfl, rfl⟩ rfl rfl rfl rfl rfl (by kernel_rfl) Try.func4 (by kernel_rfl)
    (of_decide_eq_true (by kernel_rfl)) (by unfold Func.isWrapper; first | (rw [if_pos (by decide +kernel)]; kernel_rfl) | (rw [if_neg (by decide +kernel)]; exact ⟨rfl, rfl⟩))
    (fun os started H enc _ => law_lifted os started H enc)
end Go.Proofs.Ytbgppnkccbhbpaa
