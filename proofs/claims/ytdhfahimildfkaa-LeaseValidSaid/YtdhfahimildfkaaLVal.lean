/- LeaseValid returns true whatever the arguments are, and they read behind the call as they read before. No condition. -/
import Derived.Test.YtdhfahimildfkaaL2
import Derived.Test.YtdhfahimildfkaaSlEntryS
import Derived.Test.YtdhfahimildfkaaSlEntry
namespace Go.Proofs.Ytdhfahimildfkaa
open SL Cfg LeaseLaw Go.ChangeShapes Go.WideShapes Go.ChangeAt Go.RowKit
set_option linter.unusedVariables false
set_option maxRecDepth 100000
theorem own : ownKnob Try.prog.godebug = none := by kernel_rfl
theorem laidOut : laidOutB Try.prog = true := by kernel_rfl
theorem cf_kds : kds Try.prog 6 50 = some [.at 48, .at 48, .at 48] := by kernel_rfl
theorem in_kds : kds Try.prog 6 3 = some [.int .i64] := by kernel_rfl
theorem cf_cells : Try.prog.cellTypes Try.prog.depth 50 = some [48, 48, 48] := by kernel_rfl
theorem cf_arg {H : Type} {enc : TypeId × Value → H} {W : World} {base : Nat} {v : Value} {d : DataW H} {p : List MemPlace} (hok : Value.okWide Try.prog W .any base 50 v) (h : DataW.Trod enc Try.prog W 0 (fun _ => true) true 50 v d p) :
    ∃ x : Cf, v = .agg [.slice x.po x.o.length x.co, .slice x.pn x.n.length x.cn, .slice x.pl x.l.length x.cl].toArray ∧ x.In (oldH W) := by
  obtain ⟨cs, rfl, hf⟩ := struct_arg (m := 6) Try.underlying50 cf_kds hok h
  obtain ⟨v1, _, rfl, k1, h1⟩ := hf.uncons
  obtain ⟨v2, _, rfl, k2, h2⟩ := h1.uncons
  obtain ⟨v3, _, rfl, k3, h3⟩ := h2.uncons
  cases h3.nil'
  obtain ⟨p1, c1, l1, rfl, s1, f1⟩ := field_slice (m := 6) (i := 0) hok Try.underlying50 cf_cells rfl rfl Try.underlying48 in_kds (by kernel_rfl) k1
  obtain ⟨p2, c2, l2, rfl, s2, f2⟩ := field_slice (m := 6) (i := 1) hok Try.underlying50 cf_cells rfl rfl Try.underlying48 in_kds (by kernel_rfl) k2
  obtain ⟨p3, c3, l3, rfl, s3, f3⟩ := field_slice (m := 6) (i := 2) hok Try.underlying50 cf_cells rfl rfl Try.underlying48 in_kds (by kernel_rfl) k3
  obtain ⟨o, rfl⟩ := ints_of f1
  obtain ⟨n, rfl⟩ := ints_of f2
  obtain ⟨l, rfl⟩ := ints_of f3
  exact ⟨⟨o, n, l, p1, c1, p2, c2, p3, c3⟩, by simp, s1, s2, s3⟩
theorem gr_kds : kds Try.prog 6 40 = some [.string, .int .i64, .int .i64, .int .i64, .int .i64] := by kernel_rfl
theorem law_contract (H : Type) (enc : TypeId × Value → H) (W : World) (base : Nat) (args : Array Value) (ds gs : List (DataW H)) (before : List MemPlace)
    (hval : ∀ (j : Nat) t v, Try.f4.params[j]? = some t → args[j]? = some v → Value.okWide Try.prog W .any base t v)
    (hW : DataW.Whole enc Try.prog Try.f4.params.toList Rows.leaseValidSpec.vars false W args.toList ds gs before) :
    Calls Try.prog 4 args W fun e W' => ∃ v, e = .returned v ∧ Rows.leaseValidSpec.post enc Try.prog Try.f4 false true false false W args v W' := by
  have hW' := hW
  obtain ⟨p, q, hA0, hV, rfl, hfz, hnd⟩ := hW
  have hA : DataW.TrodAll enc Try.prog W 0 (fun _ => true) true Try.f4.params.toList args.toList ds p := hA0
  rw [Try.params4] at hA hval
  obtain ⟨v0, vs0, d0, ds0, p0, q0, hargs, rfl, rfl, h0, r0⟩ := trodAll_cons hA
  obtain ⟨v1, vs1, d1, ds1, p1, q1, rfl, rfl, rfl, h1, r1⟩ := trodAll_cons r0
  obtain ⟨v2, vs2, d2, ds2, p2, q2, rfl, rfl, rfl, h2, r2⟩ := trodAll_cons r1
  obtain ⟨v3, vs3, d3, ds3, p3, q3, rfl, rfl, rfl, h3, r3⟩ := trodAll_cons r2
  obtain ⟨v4, vs4, d4, ds4, p4, q4, rfl, rfl, rfl, h4, r4⟩ := trodAll_cons r3
  obtain ⟨rfl, rfl, rfl⟩ := trodAll_nil r4
  obtain rfl : args = #[v0, v1, v2, v3, v4] := by cases args; simp_all
  obtain ⟨gs, rfl, hg⟩ := struct_arg (m := 6) Try.underlying40 gr_kds (hval 0 40 v0 rfl rfl) h0
  obtain ⟨_, _, rfl, ⟨g0, rfl, _⟩, k0⟩ := hg.uncons
  obtain ⟨_, _, rfl, ⟨g1, rfl, _⟩, k1⟩ := k0.uncons
  obtain ⟨_, _, rfl, ⟨g2, rfl, _⟩, k2⟩ := k1.uncons
  obtain ⟨_, _, rfl, ⟨g3, rfl, _⟩, k3⟩ := k2.uncons
  obtain ⟨_, _, rfl, ⟨g4, rfl, _⟩, k4⟩ := k3.uncons
  cases k4.nil'
  obtain ⟨q, rfl, rfl, rfl, wq⟩ := open_int Try.underlying3 (hval 1 3 v1 rfl rfl) h1
  obtain ⟨w, rfl, rfl, rfl, ww⟩ := open_int Try.underlying3 (hval 2 3 v2 rfl rfl) h2
  obtain ⟨x, rfl, hx⟩ := cf_arg (hval 3 50 v3 rfl rfl) h3
  obtain ⟨b, rfl, rfl, rfl, wb⟩ := open_int Try.underlying51 (hval 4 51 v4 rfl rfl) h4
  have b16 : ∀ {x : Int}, (Lit.int .u16 x).wf = true → 0 ≤ x ∧ x ≤ 65535 := fun h => by simpa [Lit.wf, IntKind.min, IntKind.max, IntKind.signed, IntKind.bits] using h
  have bb := b16 wb
  refine (leaseValid_ct g0 g1 g2 g3 g4 q w x (oldH W) hx b bb.1 bb.2 (W.os, W.output) emp W (mem_old W)).mono ?_
  rintro e W' ⟨v, Hs, rfl, ⟨rfl, rfl⟩, hm⟩
  exact ⟨_, rfl, law_post laidOut (by kernel_rfl) hW' rfl rfl Try.underlying4 rfl hm (c := 1) rfl⟩
theorem law_lifted (os : Os) (started : os.Started) (H : Type) (enc : TypeId × Value → H) :
    ReturnsInHanded {} Try.checked os 4 .any (Rows.leaseValidSpec.pre6 enc Try.prog Try.f4 Rows.leaseValidRow.domain false) (Rows.leaseValidSpec.post enc Try.prog Try.f4 false true false false) := by
  refine returnsInHanded_of_change (C := Try.checked) own started (by kernel_rfl) Try.func4
    (ChangeSpec.witness6 (enc := enc) (C := Try.checked) false ⟨#[], #[.agg #[.string .empty, .int .i64 0, .int .i64 0, .int .i64 0, .int .i64 0], .int .i64 0, .int .i64 0, .agg #[.slice none 0 0, .slice none 0 0, .slice none 0 0], .int .u16 0], []⟩ 8 (by kernel_rfl) (by kernel_rfl) (by kernel_rfl) (by kernel_rfl)) ?_
  intro W base args ds gs before hval hW _ _
  exact law_contract H enc W base args ds gs before hval hW
theorem leaseValid_holds : Rows.LeaseValidSaid :=
  OpenClaim.holds_of_wide 4 Try.f4 rfl rfl rfl rfl rfl rfl rfl ⟨rfl, rfl, rfl, rfl, rfl⟩ rfl rfl rfl rfl rfl (by kernel_rfl) Try.func4 (by kernel_rfl)
    (of_decide_eq_true (by kernel_rfl)) (by unfold Func.isWrapper; first | (rw [if_pos (by decide +kernel)]; kernel_rfl) | (rw [if_neg (by decide +kernel)]; exact ⟨rfl, rfl⟩))
    (fun os started H enc _ => law_lifted os started H enc)
end Go.Proofs.Ytdhfahimildfkaa
