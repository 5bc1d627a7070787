/- HistoryOf returns true whatever the list of events and the group are, and they read behind the call as they read before: the tied card. Condition: the three listed variables of math/bits and internal/strconv hold what the program's text lays (the card ties them). -/
import Derived.Test.YtbgppnkccbhbpaaDoorH11
import Derived.Test.YtbgppnkccbhbpaaDoorSlEntry
import Derived.Test.YtbgppnkccbhbpaaDoorCards
import Derived.Test.YtbgppnkccbhbpaaDoorTie
import Derived.Deep.DeepHandedRow
import Derived.Lib.LaidTab
namespace Go.Proofs.YtbgppnkccbhbpaaDoor
open SL HistLaw Cfg Go.ChangeShapes Go.WideShapes Go.ChangeAt Go.RowKit
set_option linter.unusedVariables false
set_option maxRecDepth 100000
theorem own : ownKnob Tryd.prog.godebug = none := by kernel_rfl
theorem laidOut : laidOutB Tryd.prog = true := by kernel_rfl
theorem ev_kds : kds Tryd.prog 6 47 = some [.int .i64, .int .i64, .int .i64, .int .i64, .int .i64, .int .i64, .string, .int .i64, .int .i64, .int .i64, .bool, .int .i64, .at 41, .at 41, .at 41, .int .i64, .int .i64, .int .i64, .int .i64, .int .i64, .bool, .int .i64] := by kernel_rfl
theorem at_one {H : Type} {enc : TypeId × Value → H} {w : World} {t e : TypeId} {v : Value} (ht : Tryd.prog.underlying t = some (.slice e)) (h : Kd.ok enc Tryd.prog w (.at t) v) : v.oneCell' = true := by
  obtain ⟨n, x, hx⟩ := h
  cases n with
  | zero => simp [DataW.trod] at hx
  | succ n => cases v <;> simp_all [DataW.trod, Value.oneCell']
theorem ev_of {H : Type} {enc : TypeId × Value → H} {w : World} {l : List Value} (h : Fit enc Tryd.prog w [.int .i64, .int .i64, .int .i64, .int .i64, .int .i64, .int .i64, .string, .int .i64, .int .i64, .int .i64, .bool, .int .i64, .at 41, .at 41, .at 41, .int .i64, .int .i64, .int .i64, .int .i64, .int .i64, .bool, .int .i64] l) : ∃ a : EvC, a.c = l ∧ a.ok := by
  obtain ⟨_, _, rfl, ⟨f0, rfl, _⟩, h1⟩ := h.uncons
  obtain ⟨_, _, rfl, ⟨f1, rfl, _⟩, h2⟩ := h1.uncons
  obtain ⟨_, _, rfl, ⟨f2, rfl, _⟩, h3⟩ := h2.uncons
  obtain ⟨_, _, rfl, ⟨f3, rfl, _⟩, h4⟩ := h3.uncons
  obtain ⟨_, _, rfl, ⟨f4, rfl, _⟩, h5⟩ := h4.uncons
  obtain ⟨_, _, rfl, ⟨f5, rfl, _⟩, h6⟩ := h5.uncons
  obtain ⟨_, _, rfl, ⟨f6, rfl, _⟩, h7⟩ := h6.uncons
  obtain ⟨_, _, rfl, ⟨f7, rfl, _⟩, h8⟩ := h7.uncons
  obtain ⟨_, _, rfl, ⟨f8, rfl, _⟩, h9⟩ := h8.uncons
  obtain ⟨_, _, rfl, ⟨f9, rfl, _⟩, h10⟩ := h9.uncons
  obtain ⟨_, _, rfl, ⟨f10, rfl⟩, h11⟩ := h10.uncons
  obtain ⟨_, _, rfl, ⟨f11, rfl, _⟩, h12⟩ := h11.uncons
  obtain ⟨f12, _, rfl, k12, h13⟩ := h12.uncons
  obtain ⟨f13, _, rfl, k13, h14⟩ := h13.uncons
  obtain ⟨f14, _, rfl, k14, h15⟩ := h14.uncons
  obtain ⟨_, _, rfl, ⟨f15, rfl, _⟩, h16⟩ := h15.uncons
  obtain ⟨_, _, rfl, ⟨f16, rfl, _⟩, h17⟩ := h16.uncons
  obtain ⟨_, _, rfl, ⟨f17, rfl, _⟩, h18⟩ := h17.uncons
  obtain ⟨_, _, rfl, ⟨f18, rfl, _⟩, h19⟩ := h18.uncons
  obtain ⟨_, _, rfl, ⟨f19, rfl, _⟩, h20⟩ := h19.uncons
  obtain ⟨_, _, rfl, ⟨f20, rfl⟩, h21⟩ := h20.uncons
  obtain ⟨_, _, rfl, ⟨f21, rfl, _⟩, h22⟩ := h21.uncons
  cases h22.nil'
  exact ⟨{ ek := f0, mach := f1, cl := f2, nu := f3, gr := f4, kd := f5, key := f6, val := f7, old := f8, code := f9, fnd := f10, rv := f11, x0 := f12, x1 := f13, x2 := f14, x3 := .int .i64 f15, x4 := .int .i64 f16, x5 := .int .i64 f17, x6 := .int .i64 f18, x7 := .int .i64 f19, x8 := .bool f20, x9 := .int .i64 f21 }, rfl, at_one Tryd.underlying41 k12, at_one Tryd.underlying41 k13, at_one Tryd.underlying41 k14, rfl, rfl, rfl, rfl, rfl, rfl, rfl⟩
theorem law_contract (H : Type) (enc : TypeId × Value → H) (W : World) (base : Nat) (args : Array Value) (ds gs : List (DataW H)) (before : List MemPlace)
    (hval : ∀ (j : Nat) t v, Tryd.f6.params[j]? = some t → args[j]? = some v → Value.okWide Tryd.prog W .any base t v)
    (hW : DataW.Whole enc Tryd.prog Tryd.f6.params.toList Rows.historyOfSpec.vars false W args.toList ds gs before) :
    Calls Tryd.prog 6 args W fun e W' => ∃ v, e = .returned v ∧ Rows.historyOfSpec.post enc Tryd.prog Tryd.f6 false true false false W args v W' := by
  have hW' := hW
  obtain ⟨p, q, hA0, hV, rfl, hfz, hnd⟩ := hW
  have hA : DataW.TrodAll enc Tryd.prog W 0 (fun _ => true) true Tryd.f6.params.toList args.toList ds p := hA0
  rw [Tryd.params6] at hA hval
  obtain ⟨v0, vs0, d0, ds0, p0, q0, hargs, rfl, rfl, h0, r0⟩ := trodAll_cons hA
  obtain ⟨v1, vs1, d1, ds1, p1, q1, rfl, rfl, rfl, h1, r1⟩ := trodAll_cons r0
  obtain ⟨rfl, rfl, rfl⟩ := trodAll_nil r1
  obtain rfl : args = #[v0, v1] := by cases args; simp_all
  obtain ⟨pp, c, ls, rfl, hS, hF⟩ := slice_arg (m := 6) Tryd.underlying35 ev_kds (by kernel_rfl) (hval 0 35 v0 rfl rfl) h0
  obtain ⟨l, rfl, hwf⟩ := exists_map fun l hl => ev_of (hF l hl)
  obtain ⟨g, rfl, rfl, rfl, wg⟩ := open_int Tryd.underlying3 (hval 1 3 v1 rfl rfl) h1
  refine (historyOf_ct l hwf (oldH W) pp c hS g (W.os, W.output) emp W (mem_old W)).mono ?_
  rintro e W' ⟨v, Hs, rfl, ⟨rfl, rfl⟩, hm⟩
  exact ⟨_, rfl, law_post laidOut (by kernel_rfl) hW' rfl rfl Tryd.underlying4 rfl hm (c := 1) rfl⟩
def layObj (cs : Array Value) : Obj → Obj
  | .cells _ t fr => .cells cs t fr
  | o => o
noncomputable def laidWorld (os : Os) : World :=
  { World.holding Tryd.prog os ⟨#[], #[], []⟩ with heap := ((((World.holding Tryd.prog os ⟨#[], #[], []⟩).heap).modify 0 (layObj #[.int .u64 1, .int .u64 10, .int .u64 100, .int .u64 1000, .int .u64 10000, .int .u64 100000, .int .u64 1000000, .int .u64 10000000, .int .u64 100000000, .int .u64 1000000000, .int .u64 10000000000, .int .u64 100000000000, .int .u64 1000000000000, .int .u64 10000000000000, .int .u64 100000000000000, .int .u64 1000000000000000, .int .u64 10000000000000000, .int .u64 100000000000000000, .int .u64 1000000000000000000, .int .u64 10000000000000000000])).modify 1 (layObj #[.int .u8 0, .int .u8 1, .int .u8 28, .int .u8 2, .int .u8 29, .int .u8 14, .int .u8 24, .int .u8 3, .int .u8 30, .int .u8 22, .int .u8 20, .int .u8 15, .int .u8 25, .int .u8 17, .int .u8 4, .int .u8 8, .int .u8 31, .int .u8 27, .int .u8 13, .int .u8 23, .int .u8 21, .int .u8 19, .int .u8 16, .int .u8 7, .int .u8 26, .int .u8 12, .int .u8 18, .int .u8 6, .int .u8 11, .int .u8 5, .int .u8 10, .int .u8 9])).modify 2 (layObj #[.int .u8 0, .int .u8 1, .int .u8 56, .int .u8 2, .int .u8 57, .int .u8 49, .int .u8 28, .int .u8 3, .int .u8 61, .int .u8 58, .int .u8 42, .int .u8 50, .int .u8 38, .int .u8 29, .int .u8 17, .int .u8 4, .int .u8 62, .int .u8 47, .int .u8 59, .int .u8 36, .int .u8 45, .int .u8 43, .int .u8 51, .int .u8 22, .int .u8 53, .int .u8 39, .int .u8 33, .int .u8 30, .int .u8 24, .int .u8 18, .int .u8 12, .int .u8 5, .int .u8 63, .int .u8 55, .int .u8 48, .int .u8 27, .int .u8 60, .int .u8 41, .int .u8 37, .int .u8 16, .int .u8 46, .int .u8 35, .int .u8 44, .int .u8 21, .int .u8 52, .int .u8 32, .int .u8 23, .int .u8 11, .int .u8 54, .int .u8 26, .int .u8 40, .int .u8 15, .int .u8 34, .int .u8 20, .int .u8 31, .int .u8 10, .int .u8 25, .int .u8 14, .int .u8 19, .int .u8 9, .int .u8 13, .int .u8 8, .int .u8 7, .int .u8 6]) }
theorem laid_met (os : Os) : laidMet Tryd.prog Rows.historyOfRow.laid ((laidWorld os).forCall (fun _ _ => 0) ⟨#[], #[.slice none 0 0, .int .i64 0], []⟩).memory :=
  laidMet_of_run' 8 (by kernel_rfl) (by kernel_rfl)
theorem law_reads (os : Os) {H : Type} (enc : TypeId × Value → H) : ∃ places, DataW.whole enc Tryd.prog ((laidWorld os).forCall (fun _ _ => 0) ⟨#[], #[.slice none 0 0, .int .i64 0], []⟩).memory Tryd.f6.params.toList Rows.historyOfSpec.vars false (#[.slice none 0 0, .int .i64 0] : Array Value).toList 8 = some ([.nil, .lit (.int .i64 0)], [], places) :=
  ⟨[], by kernel_rfl⟩
theorem law_lifted (os : Os) (started : os.Started) (H : Type) (enc : TypeId × Value → H) (F : Stop.Interp) :
    ReturnsInHanded {} Tryd.checked os 6 .any ((OpenSpec.ofChange Rows.historyOfSpec).preRow enc Tryd.prog Tryd.f6 Rows.historyOfRow.domain false Rows.historyOfRow.laid) (((OpenSpec.ofChange Rows.historyOfSpec).at F).post enc Tryd.prog Tryd.f6 false true false false) := by
  obtain ⟨places, hx⟩ := law_reads os enc
  refine returnsInHanded_of_row (C := Tryd.checked) (s := OpenSpec.ofChange Rows.historyOfSpec) own started (by kernel_rfl) Tryd.func6
    (witness_row_at (enc := enc) (C := Tryd.checked) false (laidWorld os) #[.slice none 0 0, .int .i64 0] rfl (by kernel_rfl) (by kernel_rfl) (by kernel_rfl)
      (OpenSpec.preRow_of_cond 8 hx (by kernel_rfl) (fun k hk => by cases hk) (by kernel_rfl) (laid_met os))) ?_
  intro W base args ds gs before hval hW _ _ _ hL _ _
  exact law_contract H enc W base args ds gs before hval hW
theorem law_said : Rows.HistoryOfSaid :=
  OpenClaim.holds_of_cond 6 Tryd.f6 rfl rfl rfl rfl rfl rfl rfl ⟨rfl, rfl, rfl, rfl, rfl⟩ rfl rfl rfl rfl rfl (by kernel_rfl) Tryd.func6 (by kernel_rfl)
    (of_decide_eq_true (by kernel_rfl)) (by unfold Func.isWrapper; first | (rw [if_pos (by decide +kernel)]; kernel_rfl) | (rw [if_neg (by decide +kernel)]; exact ⟨rfl, rfl⟩))
    (fun os started H enc _ F => by rw [OpenClaim.pre_eq_preRow]; exact law_lifted os started H enc F)
theorem law_plain (f : FuncId) (fn : Func) (hf : Tryd.pinned.checked.prog.funcNamed Rows.historyOfRow.func = some f) (hfn : Tryd.pinned.checked.prog.funcs[f]? = some fn) :
    false = Tryd.pinned.checked.prog.looks [] ∧ ∀ (j : Nat) t, fn.params[j]? = some t → Tryd.pinned.checked.prog.wantsStandIn t = false := by
  obtain rfl : f = 6 := Option.some.inj ((show Tryd.prog.funcNamed Rows.historyOfRow.func = some 6 by kernel_rfl).symm.trans hf) |>.symm
  obtain rfl : fn = Tryd.f6 := (Option.some.inj (Tryd.func6.symm.trans hfn)).symm
  refine ⟨by kernel_rfl, fun j t ht => ?_⟩
  rw [Tryd.params6] at ht
  have h : t = 35 ∨ t = 3 := by
    have := Array.mem_of_getElem? ht
    simp at this
    omega
  rcases h with rfl | rfl
  · exact (show Tryd.prog.wantsStandIn 35 = false by kernel_rfl)
  · exact (show Tryd.prog.wantsStandIn 3 = false by kernel_rfl)
theorem historyOf_card : Rows.HistoryOfCardSaid :=
  Claim7.holds_tied_plain_at .later [] _ _ _ _ law_said (fun _ h => by cases h) (by kernel_rfl) (fun _ h => by cases h) historyOf_row_tie rfl ⟨rfl, rfl⟩ (by kernel_rfl) rfl law_plain (by kernel_rfl)
end Go.Proofs.YtbgppnkccbhbpaaDoor
