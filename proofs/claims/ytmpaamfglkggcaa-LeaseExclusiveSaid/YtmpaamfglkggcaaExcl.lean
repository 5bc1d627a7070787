/-
  LeaseExclusive returns true whatever the list of acts is, and the list reads behind the call as it read before. No condition.
-/
import Derived.Test.YtmpaamfglkggcaaL3
import Derived.Test.YtmpaamfglkggcaaSlEntry
namespace Go.Proofs.Ytmpaamfglkggcaa
open SL LeaseLaw Go.ChangeShapes Go.WideShapes Go.ChangeAt Go.RowKit
set_option linter.unusedVariables false

theorem own : ownKnob Try.prog.godebug = none := by kernel_rfl
theorem laidOut : laidOutB Try.prog = true := by kernel_rfl

theorem wf_i {k : IntKind} {n : Int} (h : (Lit.int k n).wf = true) : k.min ≤ n ∧ n ≤ k.max := by simpa [Lit.wf] using h

theorem act_kds : kds Try.prog 6 34 = some [.int .i64, .int .i64, .int .i64, .int .i64, .int .i64, .int .u8, .int .u8, .int .u8, .int .u8] := by kernel_rfl

theorem act_of {H : Type} {enc : TypeId × Value → H} {w : World} {l : List Value} (h : Fit enc Try.prog w [.int .i64, .int .i64, .int .i64, .int .i64, .int .i64, .int .u8, .int .u8, .int .u8, .int .u8] l) :
    ∃ a : A, a.c = l ∧ ∀ i, 0 ≤ a.r i ∧ a.r i ≤ 255 := by
  obtain ⟨_, _, rfl, ⟨k, rfl, _⟩, h1⟩ := h.uncons
  obtain ⟨_, _, rfl, ⟨d, rfl, _⟩, h2⟩ := h1.uncons
  obtain ⟨_, _, rfl, ⟨hh, rfl, _⟩, h3⟩ := h2.uncons
  obtain ⟨_, _, rfl, ⟨n, rfl, _⟩, h4⟩ := h3.uncons
  obtain ⟨_, _, rfl, ⟨m, rfl, _⟩, h5⟩ := h4.uncons
  obtain ⟨_, _, rfl, ⟨r0, rfl, w0⟩, h6⟩ := h5.uncons
  obtain ⟨_, _, rfl, ⟨r1, rfl, w1⟩, h7⟩ := h6.uncons
  obtain ⟨_, _, rfl, ⟨r2, rfl, w2⟩, h8⟩ := h7.uncons
  obtain ⟨_, _, rfl, ⟨r3, rfl, w3⟩, h9⟩ := h8.uncons
  cases h9.nil'
  have b : ∀ {x : Int}, (Lit.int .u8 x).wf = true → 0 ≤ x ∧ x ≤ 255 := fun h => by simpa [IntKind.min, IntKind.max, IntKind.signed, IntKind.bits] using wf_i h
  refine ⟨⟨k, d, hh, n, m, fun i => match i with | 0 => r0 | 1 => r1 | 2 => r2 | _ => r3⟩, rfl, fun i => ?_⟩
  match i with
  | 0 => exact b w0
  | 1 => exact b w1
  | 2 => exact b w2
  | n + 3 => exact b w3

set_option maxRecDepth 100000 in
theorem leaseExclusive_lifted (os : Os) (started : os.Started) (H : Type) (enc : TypeId × Value → H) :
    ReturnsInHanded {} Try.checked os 3 .any (Rows.leaseExclusiveSpec.pre6 enc Try.prog Try.f3 Rows.leaseExclusiveRow.domain false) (Rows.leaseExclusiveSpec.post enc Try.prog Try.f3 false true false false) := by
  refine returnsInHanded_of_change (C := Try.checked) own started (by kernel_rfl) Try.func3
    (ChangeSpec.witness6 (enc := enc) (C := Try.checked) false ⟨#[], #[.slice none 0 0], []⟩ 8 (by kernel_rfl) (by kernel_rfl) (by kernel_rfl) (by kernel_rfl)) ?_
  intro W base args ds gs before hval0 hW hcnd _
  have hval : ∀ (j : Nat) t v, Try.f3.params[j]? = some t → args[j]? = some v → Value.okWide Try.prog W .any base t v := hval0
  have hW' := hW
  obtain ⟨p, q, hA0, hV, rfl, hfz, hnd⟩ := hW
  have hA : DataW.TrodAll enc Try.prog W 0 (fun _ => true) true Try.f3.params.toList args.toList ds p := hA0
  rw [Try.params3] at hA hval
  obtain ⟨v0, d0, rfl, rfl, h0⟩ := trodAll_one hA
  obtain ⟨pp, c, ls, rfl, hS, hF⟩ := slice_arg (m := 6) Try.underlying22 act_kds (by kernel_rfl) (hval 0 22 v0 rfl rfl) h0
  obtain ⟨acts, rfl, hwf⟩ := exists_map fun l hl => act_of (hF l hl)
  refine (law_ct acts hwf (oldH W) pp c hS (W.os, W.output) emp W (mem_old W)).mono ?_
  rintro e W' ⟨v, Hs, rfl, ⟨rfl, rfl⟩, hm⟩
  exact ⟨_, rfl, law_post laidOut (by kernel_rfl) hW' rfl rfl Try.underlying4 rfl hm (c := 1) rfl⟩

theorem leaseExclusive_holds : Rows.LeaseExclusiveSaid :=
  OpenClaim.holds_of_wide 3 Try.f3 rfl rfl rfl rfl rfl rfl rfl ⟨rfl, rfl, rfl, rfl, rfl⟩ rfl rfl rfl rfl rfl (by kernel_rfl) Try.func3 (by kernel_rfl)
    (of_decide_eq_true (by kernel_rfl)) (by unfold Func.isWrapper; first | (rw [if_pos (by decide +kernel)]; kernel_rfl) | (rw [if_neg (by decide +kernel)]; exact ⟨rfl, rfl⟩))
    (fun os started H enc _ => leaseExclusive_lifted os started H enc)

end Go.Proofs.Ytmpaamfglkggcaa
