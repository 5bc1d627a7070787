/- HistoryParts returns true whatever the arguments are, and they read behind the call as they read before: the tied card. Condition: the three listed variables of math/bits and internal/strconv hold what the program's text lays (the card ties them). -/
import Derived.Test.YtbgppnkccbhbpaaDoorH14
import Derived.Test.YtbgppnkccbhbpaaDoorSlEntry
import Derived.Test.YtbgppnkccbhbpaaDoorCards
import Derived.Test.YtbgppnkccbhbpaaDoorTie
import Derived.Deep.DeepHandedRow
import Derived.Lib.LaidTab
namespace Go.Proofs.YtbgppnkccbhbpaaDoor
open SL HistLaw Cfg Go.ChangeShapes Go.WideShapes Go.ChangeAt Go.RowKit
set_option linter.unusedVariables false
set_option maxRecDepth 100000
theorem own : ownKnob Tryd.prog.godebug = none := by kernel_rfl
theorem laidOut : laidOutB Tryd.prog = true := by kernel_rfl
theorem i64_of {x : Int} (h : (Lit.int .i64 x).wf = true) : HistLaw.I64 x := by
  unfold HistLaw.I64
  simpa [Lit.wf, IntKind.min, IntKind.max, IntKind.signed, IntKind.bits] using h
theorem tab_third {W : World} {a b : String × DataW Unit} (h : laidMet Tryd.prog [a, b, ("internal/strconv.uint64pow10", Lib.tabData .u64 Lib.pow10Tab)] W) : HistLaw.TabH (oldH W) := by
  obtain ⟨a1, a2⟩ := a
  obtain ⟨b1, b2⟩ := b
  obtain ⟨ps, ⟨_, _, _, _, _, _, _, _, _, _, ⟨_, _, _, _, _, _, _, _, _, _, ⟨g', t', cs, fuel, p, q, hg', ht', hvar, hd, _, _⟩, _⟩, _⟩, _⟩ := h
  have hg : Tryd.prog.globalNamed "internal/strconv.uint64pow10" = some 0 := by kernel_rfl
  obtain rfl := Option.some.inj (hg.symm.trans hg')
  obtain rfl := Option.some.inj ((by kernel_rfl : (Tryd.prog.globals[0]?).map (·.type) = some 129).symm.trans ht')
  have hT : Lib.TabIs Tryd.prog W "internal/strconv.uint64pow10" .u64 Lib.pow10Tab := by
    unfold Lib.TabIs
    rw [hvar, ← Lib.cells_of_tab Tryd.underlying129 Tryd.underlying101 (by kernel_rfl) (by kernel_rfl) hd]
  intro w hs
  unfold Lib.TabIs World.var? at hT ⊢
  rw [hg] at hT ⊢
  simp only [Option.bind_some] at hT ⊢
  cases hW : W.heap[0]? with
  | none => rw [hW] at hT; cases hT
  | some o => rw [hs 0 o hW]; rw [hW] at hT; exact hT
theorem op_kds : kds Tryd.prog 6 32 = some [.int .i64, .int .i64, .int .i64, .int .i64, .string, .int .i64, .int .i64, .int .i64, .bool, .int .i64, .int .i64, .int .i64] := by kernel_rfl
theorem op_of {H : Type} {enc : TypeId × Value → H} {w : World} {l : List Value} (h : Fit enc Tryd.prog w [.int .i64, .int .i64, .int .i64, .int .i64, .string, .int .i64, .int .i64, .int .i64, .bool, .int .i64, .int .i64, .int .i64] l) : ∃ a : O, a.c = l ∧ a.Rg := by
  obtain ⟨_, _, rfl, ⟨cl, rfl, w0⟩, h1⟩ := h.uncons
  obtain ⟨_, _, rfl, ⟨nu, rfl, w1⟩, h2⟩ := h1.uncons
  obtain ⟨_, _, rfl, ⟨gr, rfl, w2⟩, h3⟩ := h2.uncons
  obtain ⟨_, _, rfl, ⟨kd, rfl, w3⟩, h4⟩ := h3.uncons
  obtain ⟨_, _, rfl, ⟨key, rfl, w4⟩, h5⟩ := h4.uncons
  obtain ⟨_, _, rfl, ⟨val, rfl, w5⟩, h6⟩ := h5.uncons
  obtain ⟨_, _, rfl, ⟨old, rfl, w6⟩, h7⟩ := h6.uncons
  obtain ⟨_, _, rfl, ⟨code, rfl, w7⟩, h8⟩ := h7.uncons
  obtain ⟨_, _, rfl, ⟨fnd, rfl⟩, h9⟩ := h8.uncons
  obtain ⟨_, _, rfl, ⟨rv, rfl, w9⟩, h10⟩ := h9.uncons
  obtain ⟨_, _, rfl, ⟨inv, rfl, w10⟩, h11⟩ := h10.uncons
  obtain ⟨_, _, rfl, ⟨rsp, rfl, w11⟩, h12⟩ := h11.uncons
  cases h12.nil'
  exact ⟨⟨cl, nu, gr, kd, key, val, old, code, fnd, rv, inv, rsp⟩, rfl, ⟨i64_of w0, i64_of w1, i64_of w2, i64_of w3, i64_of w5, i64_of w6, i64_of w7, i64_of w9, i64_of w10, i64_of w11⟩⟩
theorem law_contract (H : Type) (enc : TypeId × Value → H) (W : World) (base : Nat) (args : Array Value) (ds gs : List (DataW H)) (before : List MemPlace)
    (hval : ∀ (j : Nat) t v, Tryd.f8.params[j]? = some t → args[j]? = some v → Value.okWide Tryd.prog W .any base t v)
    (hW : DataW.Whole enc Tryd.prog Tryd.f8.params.toList Rows.historyPartsSpec.vars false W args.toList ds gs before) (hT : HistLaw.TabH (oldH W)) :
    Calls Tryd.prog 8 args W fun e W' => ∃ v, e = .returned v ∧ Rows.historyPartsSpec.post enc Tryd.prog Tryd.f8 false true false false W args v W' := by
  have hW' := hW
  obtain ⟨p, q, hA0, hV, rfl, hfz, hnd⟩ := hW
  have hA : DataW.TrodAll enc Tryd.prog W 0 (fun _ => true) true Tryd.f8.params.toList args.toList ds p := hA0
  rw [Tryd.params8] at hA hval
  obtain ⟨v0, vs0, d0, ds0, p0, q0, hargs, rfl, rfl, h0, r0⟩ := trodAll_cons hA
  obtain ⟨v1, vs1, d1, ds1, p1, q1, rfl, rfl, rfl, h1, r1⟩ := trodAll_cons r0
  obtain ⟨v2, vs2, d2, ds2, p2, q2, rfl, rfl, rfl, h2, r2⟩ := trodAll_cons r1
  obtain ⟨rfl, rfl, rfl⟩ := trodAll_nil r2
  obtain rfl : args = #[v0, v1, v2] := by cases args; simp_all
  obtain ⟨pp, c, ls, rfl, hS, hF⟩ := slice_arg (m := 6) Tryd.underlying22 op_kds (by kernel_rfl) (hval 0 22 v0 rfl rfl) h0
  obtain ⟨l, rfl, hwf⟩ := exists_map fun l hl => op_of (hF l hl)
  obtain ⟨k, rfl, rfl, rfl, wk⟩ := Go.ChangeMaps.open_string Tryd.underlying9 (hval 1 9 v1 rfl rfl) h1
  obtain ⟨n, rfl, rfl, rfl, wn⟩ := open_int Tryd.underlying3 (hval 2 3 v2 rfl rfl) h2
  refine (historyParts_ct l hwf (oldH W) pp c hS k n hT (W.os, W.output) emp W (mem_old W)).mono ?_
  rintro e W' ⟨v, Hs, rfl, ⟨rfl, rfl⟩, hm⟩
  exact ⟨_, rfl, law_post laidOut (by kernel_rfl) hW' rfl rfl Tryd.underlying4 rfl hm (c := 1) rfl⟩
def layObj (cs : Array Value) : Obj → Obj
  | .cells _ t fr => .cells cs t fr
  | o => o
noncomputable def laidWorld (os : Os) : World :=
  { World.holding Tryd.prog os ⟨#[], #[], []⟩ with heap := ((((World.holding Tryd.prog os ⟨#[], #[], []⟩).heap).modify 0 (layObj #[.int .u64 1, .int .u64 10, .int .u64 100, .int .u64 1000, .int .u64 10000, .int .u64 100000, .int .u64 1000000, .int .u64 10000000, .int .u64 100000000, .int .u64 1000000000, .int .u64 10000000000, .int .u64 100000000000, .int .u64 1000000000000, .int .u64 10000000000000, .int .u64 100000000000000, .int .u64 1000000000000000, .int .u64 10000000000000000, .int .u64 100000000000000000, .int .u64 1000000000000000000, .int .u64 10000000000000000000])).modify 1 (layObj #[.int .u8 0, .int .u8 1, .int .u8 28, .int .u8 2, .int .u8 29, .int .u8 14, .int .u8 24, .int .u8 3, .int .u8 30, .int .u8 22, .int .u8 20, .int .u8 15, .int .u8 25, .int .u8 17, .int .u8 4, .int .u8 8, .int .u8 31, .int .u8 27, .int .u8 13, .int .u8 23, .int .u8 21, .int .u8 19, .int .u8 16, .int .u8 7, .int .u8 26, .int .u8 12, .int .u8 18, .int .u8 6, .int .u8 11, .int .u8 5, .int .u8 10, .int .u8 9])).modify 2 (layObj #[.int .u8 0, .int .u8 1, .int .u8 56, .int .u8 2, .int .u8 57, .int .u8 49, .int .u8 28, .int .u8 3, .int .u8 61, .int .u8 58, .int .u8 42, .int .u8 50, .int .u8 38, .int .u8 29, .int .u8 17, .int .u8 4, .int .u8 62, .int .u8 47, .int .u8 59, .int .u8 36, .int .u8 45, .int .u8 43, .int .u8 51, .int .u8 22, .int .u8 53, .int .u8 39, .int .u8 33, .int .u8 30, .int .u8 24, .int .u8 18, .int .u8 12, .int .u8 5, .int .u8 63, .int .u8 55, .int .u8 48, .int .u8 27, .int .u8 60, .int .u8 41, .int .u8 37, .int .u8 16, .int .u8 46, .int .u8 35, .int .u8 44, .int .u8 21, .int .u8 52, .int .u8 32, .int .u8 23, .int .u8 11, .int .u8 54, .int .u8 26, .int .u8 40, .int .u8 15, .int .u8 34, .int .u8 20, .int .u8 31, .int .u8 10, .int .u8 25, .int .u8 14, .int .u8 19, .int .u8 9, .int .u8 13, .int .u8 8, .int .u8 7, .int .u8 6]) }
theorem laid_met (os : Os) : laidMet Tryd.prog Rows.historyPartsRow.laid ((laidWorld os).forCall (fun _ _ => 0) ⟨#[], #[.slice none 0 0, .string .empty, .int .i64 0], []⟩).memory :=
  laidMet_of_run' 8 (by kernel_rfl) (by kernel_rfl)
theorem law_reads (os : Os) {H : Type} (enc : TypeId × Value → H) : ∃ places, DataW.whole enc Tryd.prog ((laidWorld os).forCall (fun _ _ => 0) ⟨#[], #[.slice none 0 0, .string .empty, .int .i64 0], []⟩).memory Tryd.f8.params.toList Rows.historyPartsSpec.vars false (#[.slice none 0 0, .string .empty, .int .i64 0] : Array Value).toList 8 = some ([.nil, .lit (.string []), .lit (.int .i64 0)], [], places) :=
  ⟨[], by kernel_rfl⟩
theorem law_lifted (os : Os) (started : os.Started) (H : Type) (enc : TypeId × Value → H) (F : Stop.Interp) :
    ReturnsInHanded {} Tryd.checked os 8 .any ((OpenSpec.ofChange Rows.historyPartsSpec).preRow enc Tryd.prog Tryd.f8 Rows.historyPartsRow.domain false Rows.historyPartsRow.laid) (((OpenSpec.ofChange Rows.historyPartsSpec).at F).post enc Tryd.prog Tryd.f8 false true false false) := by
  obtain ⟨places, hx⟩ := law_reads os enc
  refine returnsInHanded_of_row (C := Tryd.checked) (s := OpenSpec.ofChange Rows.historyPartsSpec) own started (by kernel_rfl) Tryd.func8
    (witness_row_at (enc := enc) (C := Tryd.checked) false (laidWorld os) #[.slice none 0 0, .string .empty, .int .i64 0] rfl (by kernel_rfl) (by kernel_rfl) (by kernel_rfl)
      (OpenSpec.preRow_of_cond 8 hx (by kernel_rfl) (fun k hk => by cases hk) (by kernel_rfl) (laid_met os))) ?_
  intro W base args ds gs before hval hW _ _ _ hL _ _
  exact law_contract H enc W base args ds gs before hval hW (tab_third hL)
theorem law_said : Rows.HistoryPartsSaid :=
  OpenClaim.holds_of_cond 8 Tryd.f8 rfl rfl rfl rfl rfl rfl rfl ⟨rfl, rfl, rfl, rfl, rfl⟩ rfl rfl rfl rfl rfl (by kernel_rfl) Tryd.func8 (by kernel_rfl)
    (of_decide_eq_true (by kernel_rfl)) (by unfold Func.isWrapper; first | (rw [if_pos (by decide +kernel)]; kernel_rfl) | (rw [if_neg (by decide +kernel)]; exact ⟨rfl, rfl⟩))
    (fun os started H enc _ F => by rw [OpenClaim.pre_eq_preRow]; exact law_lifted os started H enc F)
theorem law_plain (f : FuncId) (fn : Func) (hf : Tryd.pinned.checked.prog.funcNamed Rows.historyPartsRow.func = some f) (hfn : Tryd.pinned.checked.prog.funcs[f]? = some fn) :
    false = Tryd.pinned.checked.prog.looks [] ∧ ∀ (j : Nat) t, fn.params[j]? = some t → Tryd.pinned.checked.prog.wantsStandIn t = false := by
  obtain rfl : f = 8 := Option.some.inj ((show Tryd.prog.funcNamed Rows.historyPartsRow.func = some 8 by kernel_rfl).symm.trans hf) |>.symm
  obtain rfl : fn = Tryd.f8 := (Option.some.inj (Tryd.func8.symm.trans hfn)).symm
  refine ⟨by kernel_rfl, fun j t ht => ?_⟩
  rw [Tryd.params8] at ht
  have h : t = 22 ∨ t = 9 ∨ t = 3 := by
    have := Array.mem_of_getElem? ht
    simp at this
    first | omega | exact this | ((repeat (refine Or.elim this (fun h => by simp [h]) (fun this => ?_))); simp [this])
  rcases h with rfl | rfl | rfl
  · exact (show Tryd.prog.wantsStandIn 22 = false by kernel_rfl)
  · exact (show Tryd.prog.wantsStandIn 9 = false by kernel_rfl)
  · exact (show Tryd.prog.wantsStandIn 3 = false by kernel_rfl)
theorem historyParts_card : Rows.HistoryPartsCardSaid :=
  Claim7.holds_tied_plain_at .later [] _ _ _ _ law_said (fun _ h => by cases h) (by kernel_rfl) (fun _ h => by cases h) historyParts_row_tie rfl ⟨rfl, rfl⟩ (by kernel_rfl) rfl law_plain (by kernel_rfl)
end Go.Proofs.YtbgppnkccbhbpaaDoor
