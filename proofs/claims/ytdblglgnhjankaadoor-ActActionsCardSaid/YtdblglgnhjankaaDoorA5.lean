/- The actions of the phases. Written by program (walk2.py). -/
import Derived.Test.YtdblglgnhjankaaDoorA4
namespace Go.Proofs.YtdblglgnhjankaaDoor
open SL Cfg
set_option linter.unusedVariables false
set_option linter.unusedSimpArgs false
theorem ent62 : Ent Tryd.prog 62 := ⟨_, _, Tryd.func62, by kernel_rfl, rfl⟩
theorem ent63 : Ent Tryd.prog 63 := ⟨_, _, Tryd.func63, by kernel_rfl, rfl⟩
theorem fo44_4 : fieldOff Tryd.prog 44 4 = some 4 := by kernel_rfl
theorem fo44_5 : fieldOff Tryd.prog 44 5 = some 5 := by kernel_rfl
theorem fo42_2 : fieldOff Tryd.prog 42 2 = some 2 := by kernel_rfl
theorem fo44_1 : fieldOff Tryd.prog 44 1 = some 1 := by kernel_rfl
theorem fo49_3 : fieldOff Tryd.prog 49 3 = some 3 := by kernel_rfl
theorem fo42_3 : fieldOff Tryd.prog 42 3 = some 3 := by kernel_rfl
theorem sz2 : sz Tryd.prog 2 1 := (by kernel_rfl : (Tryd.prog.info? 2).map (·.size) = some 1)
theorem lay94 : layS Tryd.prog 94 = some ([.int .i64 0, .bool false, .int .i64 0], [(0, 1), (1, 1), (2, 1)]) := by kernel_rfl
theorem key94 : KeyOK Tryd.prog 94 (enc3 .i64) := key3 (q := .i64) Tryd.underlying94 (by kernel_rfl) rfl rfl rfl rfl rfl rfl Tryd.underlying3 Tryd.underlying4 Tryd.underlying3
structure Cfg.B3 where
  u18 : Value
  u22 : Value
  u24 : Value
  u28 : Value
  u9 : Value
  u10 : Value
  u11 : Value
  u12 : Value
  h9 : PH
  h10 : PH
  h11 : PH
  h12 : PH
structure Cfg.B9 where
  u56 : Value
  u69 : Value
  u74 : Value
  u81 : Value
  u86 : Value
  u93 : Value
  u98 : Value
  u51 : Value
  h : PH
  es : Array MapEntry
  ck : Nat
  m : List ((Int × Bool × Int) × Value)
def Cfg.opV (x : Mv) (y : St) : Value := .agg [.int .i64 0, .int .i64 x.t, .int .i64 x.i, .int .i64 0, .int .i64 y.r, .int .i64 0, .int .i64 x.i, .int .i64 y.r, .int .i64 0].toArray
def Cfg.waitV (x : Mv) (y : St) : Value := .agg [.int .i64 2, .int .i64 0, .int .i64 x.i, .int .i64 0, .int .i64 y.r, .int .i64 0, .int .i64 0, .int .i64 0, .int .i64 0].toArray
def Cfg.repV (x : Mv) (y : St) : Value := .agg [.int .i64 1, .int .i64 x.f, .int .i64 x.i, .int .i64 2, .int .i64 y.r, .int .i64 0, .int .i64 0, .int .i64 0, .int .i64 0].toArray
def Cfg.leaveV (x : Mv) : Value := .agg [.int .i64 0, .int .i64 x.f, .int .i64 x.i, .int .i64 0, .int .i64 0, .int .i64 1, .int .i64 x.i, .int .i64 0, .int .i64 0].toArray
def Cfg.startV (x : Mv) (s : Int) : Value := .agg [.int .i64 0, .int .i64 x.t, .int .i64 0, .int .i64 0, .int .i64 0, .int .i64 2, .int .i64 x.i, .int .i64 0, .int .i64 s].toArray
def Cfg.actD (D : Nat → Bool) (x : Mv) (y : St) (s : Int) (q : Int × Bool × Int) (v : Value) : Prop :=
  (D 3 = true ∧ q = (0, false, 1) ∧ v = opV x y) ∨ (D 7 = true ∧ q = (0, false, 2) ∧ v = admV x y 0) ∨ (D 14 = true ∧ q = (0, false, 3) ∧ v = waitV x y) ∨ (D 17 = true ∧ q = (0, false, 4) ∧ v = repV x y) ∨ (D 20 = true ∧ q = (0, false, 5) ∧ v = leaveV x) ∨ (D 24 = true ∧ q = (0, false, 11) ∧ v = admV x y 1) ∨ (D 30 = true ∧ q = (2, false, 1) ∧ v = unitV x x.f 4) ∨ (D 33 = true ∧ q = (2, false, 2) ∧ v = startV x s) ∨ (D 39 = true ∧ q = (2, false, 3) ∧ v = unitV x x.f 5) ∨ (D 45 = true ∧ q = (2, false, 11) ∧ v = unitV x x.f 2) ∨ (D 48 = true ∧ q = (1, true, 1) ∧ v = startV x s) ∨ (D 54 = true ∧ q = (1, false, 1) ∧ v = unitV x x.f 3) ∨ (D 60 = true ∧ q = (1, false, 2) ∧ v = unitV x x.f 5)

theorem Cfg.ins_step {m : List ((Int × Bool × Int) × Value)} {P R : Int × Bool × Int → Value → Prop} {k q : Int × Bool × Int} {u v : Value} (h : ∀ q v, mget m q = some v ↔ P q v) (h1 : R k v ↔ v = u) (h2 : q ≠ k → (R q v ↔ P q v)) : mget (mset m k u) q = some v ↔ R q v := by
  rw [mget_mset]
  by_cases e : k = q
  · subst e; rw [if_pos rfl, h1, Option.some.injEq]; exact ⟨fun h => h.symm, fun h => h.symm⟩
  · rw [if_neg e, h, h2 (fun h => e h.symm)]

set_option maxRecDepth 100000 in
set_option maxHeartbeats 6400000 in
theorem actions_ct (k : Int) (x : Mv) (y : St) : Ct Tryd.prog 34 [.int .i64 k, .agg [.int .i64 x.i, .int .i64 x.f, .int .i64 x.t].toArray, .agg [.int .i64 y.d, .int .i64 y.b, .int .i64 y.r, .int .i64 y.v].toArray] [] (fun v Hs => ∃ b es ck m, v = .map (some b) ∧ MapP (enc3 .i64) es ck m ∧ (∀ q v, mget m q = some v ↔ actD (fun _ => true) x y (if k = 2 then y.v else 0) q v) ∧ Hs = [single b (.map es ck)]) := by
  refine Ct.body Tryd.func34 rfl Tryd.ntmps34 rfl ?_
  intro E F
  refine W.seq ?_
  refine W.region ?_
  refine RL.e (Eff.box 104 _ rfl rfl) rfl ?_
  rintro _ _ ⟨b4, rfl, rfl⟩
  refine RL.e (Eff.box 105 _ rfl rfl) rfl ?_
  rintro _ _ ⟨b5, rfl, rfl⟩
  refine RL.q (Yld.assign rfl) rfl ?_
  refine RL.nil ?_
  refine N.next ?_
  refine W.seq ?_
  refine W.region ?_
  refine RL.q (Yld.makeFunc eval0 (eval1 rfl)) rfl ?_
  refine RL.q (Yld.assign rfl) rfl ?_
  refine RL.nil ?_
  refine N.next ?_
  refine W.keep (.cons (k := 0) rfl (.cons (k := 4) rfl (.cons (k := 5) rfl (.cons (k := 7) rfl .nil)))) (.cons (k := 0) rfl (.cons (k := 104) rfl (.cons (k := 105) rfl .nil))) ?_
  refine W.seq ?_
  refine W.region ?_
  refine RL.q (Yld.makeFunc eval0 (eval2 rfl rfl)) rfl ?_
  refine RL.q (Yld.assign rfl) rfl ?_
  refine RL.nil ?_
  refine N.next ?_
  refine W.seq ?_
  refine W.imp (Imp.empty _ 109) ?_
  refine W.imp (Imp.empty _ 110) ?_
  refine W.imp (Imp.empty _ 111) ?_
  refine W.imp (Imp.empty _ 112) ?_
  refine W.any 18 rfl (fun u18 => ?_)
  refine W.any 22 rfl (fun u22 => ?_)
  refine W.any 24 rfl (fun u24 => ?_)
  refine W.any 28 rfl (fun u28 => ?_)
  refine W.any 9 rfl (fun u9 => ?_)
  refine W.any 10 rfl (fun u10 => ?_)
  refine W.any 11 rfl (fun u11 => ?_)
  refine W.any 12 rfl (fun u12 => ?_)
  refine W.draw (.q 0 (.q 1 (.q 2 (.q 4 (.q 5 (.q 6 (.q 8 (.q 10 (.q 11 (.q 12 (.bag [(3, []), (7, [3]), (9, [7]), (13, [9]), (14, []), (15, []), (16, []), (17, [])] (.one 18 (.one 19 (.one 20 (.one 21 .done))))))))))))))) (.cons (k := 0) rfl (.cons (k := 104) rfl (.cons (k := 105) rfl .nil))) mix (by kernel_rfl) (by kernel_rfl) ?_
  refine DL.q rfl (Yld.move rfl) rfl ?_
  refine DL.q rfl (Yld.fieldAddr fo84_2 rfl) rfl ?_
  refine DL.q rfl (Yld.load1 (c := 104) Tryd.underlying3 rfl rfl rfl (by first | exact single_self _ _ | exact pset_self _ _ _ | assumption) rfl) rfl ?_
  refine DL.q rfl (Yld.move rfl) rfl ?_
  refine DL.q rfl (Yld.fieldAddr fo84_2 rfl) rfl ?_
  refine DL.q rfl (Yld.load1 (c := 104) Tryd.underlying3 rfl rfl rfl (by first | exact single_self _ _ | exact pset_self _ _ _ | assumption) rfl) rfl ?_
  refine DL.q rfl (Yld.move rfl) rfl ?_
  refine DL.q rfl (Yld.move rfl) rfl ?_
  refine DL.q rfl (Yld.fieldAddr fo84_1 rfl) rfl ?_
  refine DL.q rfl (Yld.load1 (c := 104) Tryd.underlying3 rfl rfl rfl (by first | exact single_self _ _ | exact pset_self _ _ _ | assumption) rfl) rfl ?_
  refine DL.bagK (ι := B3) (fun D g => ((D 3 = true → g.u18 = unitV x x.t 0) ∧ (D 7 = true → g.u22 = unitV x x.t 2) ∧ (D 9 = true → g.u24 = admV x y 2) ∧ (D 13 = true → g.u28 = unitV x x.f 1) ∧ (D 14 = true → ∃ b, g.u9 = .pointer (some ⟨b, 0, none⟩) ∧ g.h9 = single b (.cells [.int .i64 0, .int .i64 0, .int .i64 0, .int .i64 0, .int .i64 0, .int .i64 0, .int .i64 0, .int .i64 0, .int .i64 0].toArray 44 (0, 0))) ∧ (D 15 = true → ∃ b, g.u10 = .pointer (some ⟨b, 0, none⟩) ∧ g.h10 = single b (.cells [.int .i64 0, .int .i64 0, .int .i64 0, .int .i64 0, .int .i64 0, .int .i64 0, .int .i64 0, .int .i64 0, .int .i64 0].toArray 44 (0, 0))) ∧ (D 16 = true → ∃ b, g.u11 = .pointer (some ⟨b, 0, none⟩) ∧ g.h11 = single b (.cells [.int .i64 0, .int .i64 0, .int .i64 0, .int .i64 0, .int .i64 0, .int .i64 0, .int .i64 0, .int .i64 0, .int .i64 0].toArray 44 (0, 0))) ∧ (D 17 = true → ∃ b, g.u12 = .pointer (some ⟨b, 0, none⟩) ∧ g.h12 = single b (.cells [.int .i64 0, .int .i64 0, .int .i64 0, .int .i64 0, .int .i64 0, .int .i64 0, .int .i64 0, .int .i64 0, .int .i64 0].toArray 44 (0, 0))))) (fun g => [(9, g.u9), (10, g.u10), (11, g.u11), (12, g.u12), (18, g.u18), (22, g.u22), (24, g.u24), (28, g.u28)]) (fun g => [(109, g.h9), (110, g.h10), (111, g.h11), (112, g.h12)]) (.cons (k := 0) rfl (.cons (k := 4) rfl (.cons (k := 5) rfl (.cons (k := 7) rfl (.cons (k := 8) rfl (.cons (k := 14) rfl (.cons (k := 15) rfl (.cons (k := 16) rfl (.cons (k := 17) rfl (.cons (k := 19) rfl (.cons (k := 20) rfl (.cons (k := 21) rfl (.cons (k := 23) rfl (.cons (k := 25) rfl (.cons (k := 26) rfl (.cons (k := 27) rfl .nil)))))))))))))))) (.cons (k := 0) rfl (.cons (k := 104) rfl (.cons (k := 105) rfl .nil))) ⟨u18, u22, u24, u28, u9, u10, u11, u12, emp, emp, emp, emp⟩ ?_ ?_ ?_ (fun x => (.cons (k := 0) rfl (.cons (k := 104) rfl (.cons (k := 105) rfl .nil)))) ?_ ?_
  · intro D hD
    have e : ∀ {i : Nat} {l : List Nat} {p : Prop}, (i, l) ∈ ([(3, []), (7, [3]), (9, [7]), (13, [9]), (14, []), (15, []), (16, []), (17, [])] : List (Nat × List Nat)) → D i = true → p := fun ht h => by rw [hD _ ht] at h; cases h
    exact ⟨e (i := 3) (l := []) (by decide), e (i := 7) (l := [3]) (by decide), e (i := 9) (l := [7]) (by decide), e (i := 13) (l := [9]) (by decide), e (i := 14) (l := []) (by decide), e (i := 15) (l := []) (by decide), e (i := 16) (l := []) (by decide), e (i := 17) (l := []) (by decide)⟩
  · exact (.cons rfl (.cons rfl (.cons rfl (.cons rfl (.cons rfl (.cons rfl (.cons rfl (.cons rfl .nil))))))))
  · exact (.cons rfl (.cons rfl (.cons rfl (.cons rfl .nil))))
  ·
    refine bagCons ?_ ?_
    ·
      rintro D g ⟨h3, h7, h9, h13, h14, h15, h16, h17⟩ hD hd
      refine BS.keep (σ' := _) (L' := _) (.cons (k := 9) rfl (.cons (k := 10) rfl (.cons (k := 11) rfl (.cons (k := 12) rfl (.cons (k := 18) rfl (.cons (k := 22) rfl (.cons (k := 24) rfl (.cons (k := 28) rfl (.cons (k := 0) rfl (.cons (k := 4) rfl (.cons (k := 5) rfl (.cons (k := 7) rfl (.cons (k := 8) rfl (.cons (k := 14) rfl (.cons (k := 15) rfl (.cons (k := 16) rfl (.cons (k := 17) rfl (.cons (k := 19) rfl (.cons (k := 20) rfl (.cons (k := 21) rfl (.cons (k := 23) rfl (.cons (k := 25) rfl (.cons (k := 26) rfl (.cons (k := 27) rfl .nil)))))))))))))))))))))))) (.cons (k := 109) rfl (.cons (k := 110) rfl (.cons (k := 111) rfl (.cons (k := 112) rfl (.cons (k := 0) rfl (.cons (k := 104) rfl (.cons (k := 105) rfl .nil))))))) ?_
      refine BS.one rfl (Eff.callV ent62 [104] [104] rfl (.cons rfl (.cons rfl .nil)) (unit_ct b4 x x.t 0) rfl rfl rfl rfl (by rintro _ _ ⟨_, rfl⟩; rfl)) rfl ?_
      rintro _ _ ⟨_, ⟨rfl, rfl⟩, rfl⟩
      exact ⟨{ g with u18 := unitV x x.t 0 }, ⟨fun _ => rfl, h7, h9, h13, h14, h15, h16, h17⟩, (.cons rfl (.cons rfl (.cons rfl (.cons rfl (.cons rfl (.cons rfl (.cons rfl (.cons rfl .nil)))))))), (.cons rfl (.cons rfl (.cons rfl (.cons rfl (.cons rfl (.cons rfl (.cons rfl (.cons rfl (.cons rfl (.cons rfl (.cons rfl (.cons rfl (.cons rfl (.cons rfl (.cons rfl (.cons rfl .nil)))))))))))))))), (.cons rfl (.cons rfl (.cons rfl (.cons rfl .nil)))), (.cons rfl (.cons rfl (.cons rfl .nil)))⟩
    refine bagCons ?_ ?_
    ·
      rintro D g ⟨h3, h7, h9, h13, h14, h15, h16, h17⟩ hD hd
      refine BS.keep (σ' := _) (L' := _) (.cons (k := 9) rfl (.cons (k := 10) rfl (.cons (k := 11) rfl (.cons (k := 12) rfl (.cons (k := 18) rfl (.cons (k := 22) rfl (.cons (k := 24) rfl (.cons (k := 28) rfl (.cons (k := 0) rfl (.cons (k := 4) rfl (.cons (k := 5) rfl (.cons (k := 7) rfl (.cons (k := 8) rfl (.cons (k := 14) rfl (.cons (k := 15) rfl (.cons (k := 16) rfl (.cons (k := 17) rfl (.cons (k := 19) rfl (.cons (k := 20) rfl (.cons (k := 21) rfl (.cons (k := 23) rfl (.cons (k := 25) rfl (.cons (k := 26) rfl (.cons (k := 27) rfl .nil)))))))))))))))))))))))) (.cons (k := 109) rfl (.cons (k := 110) rfl (.cons (k := 111) rfl (.cons (k := 112) rfl (.cons (k := 0) rfl (.cons (k := 104) rfl (.cons (k := 105) rfl .nil))))))) ?_
      refine BS.one rfl (Eff.callV ent62 [104] [104] rfl (.cons rfl (.cons rfl .nil)) (unit_ct b4 x x.t 2) rfl rfl rfl rfl (by rintro _ _ ⟨_, rfl⟩; rfl)) rfl ?_
      rintro _ _ ⟨_, ⟨rfl, rfl⟩, rfl⟩
      exact ⟨{ g with u22 := unitV x x.t 2 }, ⟨h3, fun _ => rfl, h9, h13, h14, h15, h16, h17⟩, (.cons rfl (.cons rfl (.cons rfl (.cons rfl (.cons rfl (.cons rfl (.cons rfl (.cons rfl .nil)))))))), (.cons rfl (.cons rfl (.cons rfl (.cons rfl (.cons rfl (.cons rfl (.cons rfl (.cons rfl (.cons rfl (.cons rfl (.cons rfl (.cons rfl (.cons rfl (.cons rfl (.cons rfl (.cons rfl .nil)))))))))))))))), (.cons rfl (.cons rfl (.cons rfl (.cons rfl .nil)))), (.cons rfl (.cons rfl (.cons rfl .nil)))⟩
    refine bagCons ?_ ?_
    ·
      rintro D g ⟨h3, h7, h9, h13, h14, h15, h16, h17⟩ hD hd
      refine BS.keep (σ' := _) (L' := _) (.cons (k := 9) rfl (.cons (k := 10) rfl (.cons (k := 11) rfl (.cons (k := 12) rfl (.cons (k := 18) rfl (.cons (k := 22) rfl (.cons (k := 24) rfl (.cons (k := 28) rfl (.cons (k := 0) rfl (.cons (k := 4) rfl (.cons (k := 5) rfl (.cons (k := 7) rfl (.cons (k := 8) rfl (.cons (k := 14) rfl (.cons (k := 15) rfl (.cons (k := 16) rfl (.cons (k := 17) rfl (.cons (k := 19) rfl (.cons (k := 20) rfl (.cons (k := 21) rfl (.cons (k := 23) rfl (.cons (k := 25) rfl (.cons (k := 26) rfl (.cons (k := 27) rfl .nil)))))))))))))))))))))))) (.cons (k := 109) rfl (.cons (k := 110) rfl (.cons (k := 111) rfl (.cons (k := 112) rfl (.cons (k := 0) rfl (.cons (k := 104) rfl (.cons (k := 105) rfl .nil))))))) ?_
      refine BS.one rfl (Eff.callV ent63 [104, 105] [104, 105] rfl (.cons rfl .nil) (adm_ct b4 b5 x y 2) rfl rfl rfl rfl (by rintro _ _ ⟨_, rfl⟩; rfl)) rfl ?_
      rintro _ _ ⟨_, ⟨rfl, rfl⟩, rfl⟩
      exact ⟨{ g with u24 := admV x y 2 }, ⟨h3, h7, fun _ => rfl, h13, h14, h15, h16, h17⟩, (.cons rfl (.cons rfl (.cons rfl (.cons rfl (.cons rfl (.cons rfl (.cons rfl (.cons rfl .nil)))))))), (.cons rfl (.cons rfl (.cons rfl (.cons rfl (.cons rfl (.cons rfl (.cons rfl (.cons rfl (.cons rfl (.cons rfl (.cons rfl (.cons rfl (.cons rfl (.cons rfl (.cons rfl (.cons rfl .nil)))))))))))))))), (.cons rfl (.cons rfl (.cons rfl (.cons rfl .nil)))), (.cons rfl (.cons rfl (.cons rfl .nil)))⟩
    refine bagCons ?_ ?_
    ·
      rintro D g ⟨h3, h7, h9, h13, h14, h15, h16, h17⟩ hD hd
      refine BS.keep (σ' := _) (L' := _) (.cons (k := 9) rfl (.cons (k := 10) rfl (.cons (k := 11) rfl (.cons (k := 12) rfl (.cons (k := 18) rfl (.cons (k := 22) rfl (.cons (k := 24) rfl (.cons (k := 28) rfl (.cons (k := 0) rfl (.cons (k := 4) rfl (.cons (k := 5) rfl (.cons (k := 7) rfl (.cons (k := 8) rfl (.cons (k := 14) rfl (.cons (k := 15) rfl (.cons (k := 16) rfl (.cons (k := 17) rfl (.cons (k := 19) rfl (.cons (k := 20) rfl (.cons (k := 21) rfl (.cons (k := 23) rfl (.cons (k := 25) rfl (.cons (k := 26) rfl (.cons (k := 27) rfl .nil)))))))))))))))))))))))) (.cons (k := 109) rfl (.cons (k := 110) rfl (.cons (k := 111) rfl (.cons (k := 112) rfl (.cons (k := 0) rfl (.cons (k := 104) rfl (.cons (k := 105) rfl .nil))))))) ?_
      refine BS.one rfl (Eff.callV ent62 [104] [104] rfl (.cons rfl (.cons rfl .nil)) (unit_ct b4 x x.f 1) rfl rfl rfl rfl (by rintro _ _ ⟨_, rfl⟩; rfl)) rfl ?_
      rintro _ _ ⟨_, ⟨rfl, rfl⟩, rfl⟩
      exact ⟨{ g with u28 := unitV x x.f 1 }, ⟨h3, h7, h9, fun _ => rfl, h14, h15, h16, h17⟩, (.cons rfl (.cons rfl (.cons rfl (.cons rfl (.cons rfl (.cons rfl (.cons rfl (.cons rfl .nil)))))))), (.cons rfl (.cons rfl (.cons rfl (.cons rfl (.cons rfl (.cons rfl (.cons rfl (.cons rfl (.cons rfl (.cons rfl (.cons rfl (.cons rfl (.cons rfl (.cons rfl (.cons rfl (.cons rfl .nil)))))))))))))))), (.cons rfl (.cons rfl (.cons rfl (.cons rfl .nil)))), (.cons rfl (.cons rfl (.cons rfl .nil)))⟩
    refine bagCons ?_ ?_
    ·
      rintro D g ⟨h3, h7, h9, h13, h14, h15, h16, h17⟩ hD hd
      refine BS.keep (σ' := _) (L' := _) (.cons (k := 9) rfl (.cons (k := 10) rfl (.cons (k := 11) rfl (.cons (k := 12) rfl (.cons (k := 18) rfl (.cons (k := 22) rfl (.cons (k := 24) rfl (.cons (k := 28) rfl (.cons (k := 0) rfl (.cons (k := 4) rfl (.cons (k := 5) rfl (.cons (k := 7) rfl (.cons (k := 8) rfl (.cons (k := 14) rfl (.cons (k := 15) rfl (.cons (k := 16) rfl (.cons (k := 17) rfl (.cons (k := 19) rfl (.cons (k := 20) rfl (.cons (k := 21) rfl (.cons (k := 23) rfl (.cons (k := 25) rfl (.cons (k := 26) rfl (.cons (k := 27) rfl .nil)))))))))))))))))))))))) (.cons (k := 109) rfl (.cons (k := 110) rfl (.cons (k := 111) rfl (.cons (k := 112) rfl (.cons (k := 0) rfl (.cons (k := 104) rfl (.cons (k := 105) rfl .nil))))))) ?_
      refine BS.one rfl (Eff.alloc 109 zc44) rfl ?_
      rintro _ _ ⟨b9, rfl, rfl⟩
      exact ⟨{ g with u9 := .pointer (some ⟨b9, 0, none⟩), h9 := single b9 (.cells [.int .i64 0, .int .i64 0, .int .i64 0, .int .i64 0, .int .i64 0, .int .i64 0, .int .i64 0, .int .i64 0, .int .i64 0].toArray 44 (0, 0)) }, ⟨h3, h7, h9, h13, fun _ => ⟨_, rfl, rfl⟩, h15, h16, h17⟩, (.cons rfl (.cons rfl (.cons rfl (.cons rfl (.cons rfl (.cons rfl (.cons rfl (.cons rfl .nil)))))))), (.cons rfl (.cons rfl (.cons rfl (.cons rfl (.cons rfl (.cons rfl (.cons rfl (.cons rfl (.cons rfl (.cons rfl (.cons rfl (.cons rfl (.cons rfl (.cons rfl (.cons rfl (.cons rfl .nil)))))))))))))))), (.cons rfl (.cons rfl (.cons rfl (.cons rfl .nil)))), (.cons rfl (.cons rfl (.cons rfl .nil)))⟩
    refine bagCons ?_ ?_
    ·
      rintro D g ⟨h3, h7, h9, h13, h14, h15, h16, h17⟩ hD hd
      refine BS.keep (σ' := _) (L' := _) (.cons (k := 9) rfl (.cons (k := 10) rfl (.cons (k := 11) rfl (.cons (k := 12) rfl (.cons (k := 18) rfl (.cons (k := 22) rfl (.cons (k := 24) rfl (.cons (k := 28) rfl (.cons (k := 0) rfl (.cons (k := 4) rfl (.cons (k := 5) rfl (.cons (k := 7) rfl (.cons (k := 8) rfl (.cons (k := 14) rfl (.cons (k := 15) rfl (.cons (k := 16) rfl (.cons (k := 17) rfl (.cons (k := 19) rfl (.cons (k := 20) rfl (.cons (k := 21) rfl (.cons (k := 23) rfl (.cons (k := 25) rfl (.cons (k := 26) rfl (.cons (k := 27) rfl .nil)))))))))))))))))))))))) (.cons (k := 109) rfl (.cons (k := 110) rfl (.cons (k := 111) rfl (.cons (k := 112) rfl (.cons (k := 0) rfl (.cons (k := 104) rfl (.cons (k := 105) rfl .nil))))))) ?_
      refine BS.one rfl (Eff.alloc 110 zc44) rfl ?_
      rintro _ _ ⟨b10, rfl, rfl⟩
      exact ⟨{ g with u10 := .pointer (some ⟨b10, 0, none⟩), h10 := single b10 (.cells [.int .i64 0, .int .i64 0, .int .i64 0, .int .i64 0, .int .i64 0, .int .i64 0, .int .i64 0, .int .i64 0, .int .i64 0].toArray 44 (0, 0)) }, ⟨h3, h7, h9, h13, h14, fun _ => ⟨_, rfl, rfl⟩, h16, h17⟩, (.cons rfl (.cons rfl (.cons rfl (.cons rfl (.cons rfl (.cons rfl (.cons rfl (.cons rfl .nil)))))))), (.cons rfl (.cons rfl (.cons rfl (.cons rfl (.cons rfl (.cons rfl (.cons rfl (.cons rfl (.cons rfl (.cons rfl (.cons rfl (.cons rfl (.cons rfl (.cons rfl (.cons rfl (.cons rfl .nil)))))))))))))))), (.cons rfl (.cons rfl (.cons rfl (.cons rfl .nil)))), (.cons rfl (.cons rfl (.cons rfl .nil)))⟩
    refine bagCons ?_ ?_
    ·
      rintro D g ⟨h3, h7, h9, h13, h14, h15, h16, h17⟩ hD hd
      refine BS.keep (σ' := _) (L' := _) (.cons (k := 9) rfl (.cons (k := 10) rfl (.cons (k := 11) rfl (.cons (k := 12) rfl (.cons (k := 18) rfl (.cons (k := 22) rfl (.cons (k := 24) rfl (.cons (k := 28) rfl (.cons (k := 0) rfl (.cons (k := 4) rfl (.cons (k := 5) rfl (.cons (k := 7) rfl (.cons (k := 8) rfl (.cons (k := 14) rfl (.cons (k := 15) rfl (.cons (k := 16) rfl (.cons (k := 17) rfl (.cons (k := 19) rfl (.cons (k := 20) rfl (.cons (k := 21) rfl (.cons (k := 23) rfl (.cons (k := 25) rfl (.cons (k := 26) rfl (.cons (k := 27) rfl .nil)))))))))))))))))))))))) (.cons (k := 109) rfl (.cons (k := 110) rfl (.cons (k := 111) rfl (.cons (k := 112) rfl (.cons (k := 0) rfl (.cons (k := 104) rfl (.cons (k := 105) rfl .nil))))))) ?_
      refine BS.one rfl (Eff.alloc 111 zc44) rfl ?_
      rintro _ _ ⟨b11, rfl, rfl⟩
      exact ⟨{ g with u11 := .pointer (some ⟨b11, 0, none⟩), h11 := single b11 (.cells [.int .i64 0, .int .i64 0, .int .i64 0, .int .i64 0, .int .i64 0, .int .i64 0, .int .i64 0, .int .i64 0, .int .i64 0].toArray 44 (0, 0)) }, ⟨h3, h7, h9, h13, h14, h15, fun _ => ⟨_, rfl, rfl⟩, h17⟩, (.cons rfl (.cons rfl (.cons rfl (.cons rfl (.cons rfl (.cons rfl (.cons rfl (.cons rfl .nil)))))))), (.cons rfl (.cons rfl (.cons rfl (.cons rfl (.cons rfl (.cons rfl (.cons rfl (.cons rfl (.cons rfl (.cons rfl (.cons rfl (.cons rfl (.cons rfl (.cons rfl (.cons rfl (.cons rfl .nil)))))))))))))))), (.cons rfl (.cons rfl (.cons rfl (.cons rfl .nil)))), (.cons rfl (.cons rfl (.cons rfl .nil)))⟩
    refine bagCons ?_ ?_
    ·
      rintro D g ⟨h3, h7, h9, h13, h14, h15, h16, h17⟩ hD hd
      refine BS.keep (σ' := _) (L' := _) (.cons (k := 9) rfl (.cons (k := 10) rfl (.cons (k := 11) rfl (.cons (k := 12) rfl (.cons (k := 18) rfl (.cons (k := 22) rfl (.cons (k := 24) rfl (.cons (k := 28) rfl (.cons (k := 0) rfl (.cons (k := 4) rfl (.cons (k := 5) rfl (.cons (k := 7) rfl (.cons (k := 8) rfl (.cons (k := 14) rfl (.cons (k := 15) rfl (.cons (k := 16) rfl (.cons (k := 17) rfl (.cons (k := 19) rfl (.cons (k := 20) rfl (.cons (k := 21) rfl (.cons (k := 23) rfl (.cons (k := 25) rfl (.cons (k := 26) rfl (.cons (k := 27) rfl .nil)))))))))))))))))))))))) (.cons (k := 109) rfl (.cons (k := 110) rfl (.cons (k := 111) rfl (.cons (k := 112) rfl (.cons (k := 0) rfl (.cons (k := 104) rfl (.cons (k := 105) rfl .nil))))))) ?_
      refine BS.one rfl (Eff.alloc 112 zc44) rfl ?_
      rintro _ _ ⟨b12, rfl, rfl⟩
      exact ⟨{ g with u12 := .pointer (some ⟨b12, 0, none⟩), h12 := single b12 (.cells [.int .i64 0, .int .i64 0, .int .i64 0, .int .i64 0, .int .i64 0, .int .i64 0, .int .i64 0, .int .i64 0, .int .i64 0].toArray 44 (0, 0)) }, ⟨h3, h7, h9, h13, h14, h15, h16, fun _ => ⟨_, rfl, rfl⟩⟩, (.cons rfl (.cons rfl (.cons rfl (.cons rfl (.cons rfl (.cons rfl (.cons rfl (.cons rfl .nil)))))))), (.cons rfl (.cons rfl (.cons rfl (.cons rfl (.cons rfl (.cons rfl (.cons rfl (.cons rfl (.cons rfl (.cons rfl (.cons rfl (.cons rfl (.cons rfl (.cons rfl (.cons rfl (.cons rfl .nil)))))))))))))))), (.cons rfl (.cons rfl (.cons rfl (.cons rfl .nil)))), (.cons rfl (.cons rfl (.cons rfl .nil)))⟩
    exact bagNil
  rintro D ⟨u18, u22, u24, u28, u9, u10, u11, u12, h9_, h10_, h11_, h12_⟩ ⟨h3, h7, h9, h13, h14, h15, h16, h17⟩ hall
  have hallM : ∀ i : Nat, i ∈ List.map (·.1) ([(3, []), (7, [3]), (9, [7]), (13, [9]), (14, []), (15, []), (16, []), (17, [])] : List (Nat × List Nat)) → D i = true := fun i hi => by
    obtain ⟨t, ht, rfl⟩ := List.mem_map.1 hi
    exact hall t ht
  obtain rfl : u18 = unitV x x.t 0 := h3 (hallM 3 (by decide))
  obtain rfl : u22 = unitV x x.t 2 := h7 (hallM 7 (by decide))
  obtain rfl : u24 = admV x y 2 := h9 (hallM 9 (by decide))
  obtain rfl : u28 = unitV x x.f 1 := h13 (hallM 13 (by decide))
  obtain ⟨b9, rfl, rfl⟩ : ∃ b, u9 = .pointer (some ⟨b, 0, none⟩) ∧ h9_ = single b (.cells [.int .i64 0, .int .i64 0, .int .i64 0, .int .i64 0, .int .i64 0, .int .i64 0, .int .i64 0, .int .i64 0, .int .i64 0].toArray 44 (0, 0)) := h14 (hallM 14 (by decide))
  obtain ⟨b10, rfl, rfl⟩ : ∃ b, u10 = .pointer (some ⟨b, 0, none⟩) ∧ h10_ = single b (.cells [.int .i64 0, .int .i64 0, .int .i64 0, .int .i64 0, .int .i64 0, .int .i64 0, .int .i64 0, .int .i64 0, .int .i64 0].toArray 44 (0, 0)) := h15 (hallM 15 (by decide))
  obtain ⟨b11, rfl, rfl⟩ : ∃ b, u11 = .pointer (some ⟨b, 0, none⟩) ∧ h11_ = single b (.cells [.int .i64 0, .int .i64 0, .int .i64 0, .int .i64 0, .int .i64 0, .int .i64 0, .int .i64 0, .int .i64 0, .int .i64 0].toArray 44 (0, 0)) := h16 (hallM 16 (by decide))
  obtain ⟨b12, rfl, rfl⟩ : ∃ b, u12 = .pointer (some ⟨b, 0, none⟩) ∧ h12_ = single b (.cells [.int .i64 0, .int .i64 0, .int .i64 0, .int .i64 0, .int .i64 0, .int .i64 0, .int .i64 0, .int .i64 0, .int .i64 0].toArray 44 (0, 0)) := h17 (hallM 17 (by decide))
  refine DL.keep (σ' := _) (L' := _) (.cons (k := 9) rfl (.cons (k := 10) rfl (.cons (k := 11) rfl (.cons (k := 12) rfl (.cons (k := 18) rfl (.cons (k := 22) rfl (.cons (k := 24) rfl (.cons (k := 28) rfl (.cons (k := 0) rfl (.cons (k := 4) rfl (.cons (k := 5) rfl (.cons (k := 7) rfl (.cons (k := 8) rfl (.cons (k := 14) rfl (.cons (k := 15) rfl (.cons (k := 16) rfl (.cons (k := 17) rfl (.cons (k := 19) rfl (.cons (k := 20) rfl (.cons (k := 21) rfl (.cons (k := 23) rfl (.cons (k := 25) rfl (.cons (k := 26) rfl (.cons (k := 27) rfl .nil)))))))))))))))))))))))) (.cons (k := 109) rfl (.cons (k := 110) rfl (.cons (k := 111) rfl (.cons (k := 112) rfl (.cons (k := 0) rfl (.cons (k := 104) rfl (.cons (k := 105) rfl .nil))))))) ?_
  refine DL.one0 rfl (Eff.storeS (c := 109) _ sz44 rfl rfl rfl rfl rfl rfl rfl (by (try simp only [putAt, List.take, List.drop, List.nil_append, List.cons_append, List.append_nil, List.length_cons, List.length_nil, Nat.add_zero, Nat.zero_add, Nat.reduceAdd]); rfl)) (by rintro _ _ rfl; repeat (first | exact .nil | refine .cons rfl ?_)) ?_
  rintro _ _ rfl
  refine DL.one0 rfl (Eff.storeS (c := 110) _ sz44 rfl rfl rfl rfl rfl rfl rfl (by (try simp only [putAt, List.take, List.drop, List.nil_append, List.cons_append, List.append_nil, List.length_cons, List.length_nil, Nat.add_zero, Nat.zero_add, Nat.reduceAdd]); rfl)) (by rintro _ _ rfl; repeat (first | exact .nil | refine .cons rfl ?_)) ?_
  rintro _ _ rfl
  refine DL.one0 rfl (Eff.storeS (c := 111) _ sz44 rfl rfl rfl rfl rfl rfl rfl (by (try simp only [putAt, List.take, List.drop, List.nil_append, List.cons_append, List.append_nil, List.length_cons, List.length_nil, Nat.add_zero, Nat.zero_add, Nat.reduceAdd]); rfl)) (by rintro _ _ rfl; repeat (first | exact .nil | refine .cons rfl ?_)) ?_
  rintro _ _ rfl
  refine DL.one0 rfl (Eff.storeS (c := 112) _ sz44 rfl rfl rfl rfl rfl rfl rfl (by (try simp only [putAt, List.take, List.drop, List.nil_append, List.cons_append, List.append_nil, List.length_cons, List.length_nil, Nat.add_zero, Nat.zero_add, Nat.reduceAdd]); rfl)) (by rintro _ _ rfl; repeat (first | exact .nil | refine .cons rfl ?_)) ?_
  rintro _ _ rfl
  refine DL.done ?_
  refine N.next ?_
  refine W.keep (.cons (k := 0) rfl (.cons (k := 4) rfl (.cons (k := 5) rfl (.cons (k := 7) rfl (.cons (k := 8) rfl (.cons (k := 9) rfl (.cons (k := 10) rfl (.cons (k := 11) rfl (.cons (k := 12) rfl .nil))))))))) (.cons (k := 0) rfl (.cons (k := 104) rfl (.cons (k := 105) rfl (.cons (k := 109) rfl (.cons (k := 110) rfl (.cons (k := 111) rfl (.cons (k := 112) rfl .nil))))))) ?_
  refine W.seq ?_
  refine W.draw (.q 0 (.q 1 (.q 2 (.q 3 (.q 4 (.q 5 (.q 6 (.one 7 (.q 8 (.one 9 (.q 10 (.q 11 (.one 12 .done))))))))))))) (.cons (k := 0) rfl (.cons (k := 104) rfl (.cons (k := 105) rfl (.cons (k := 110) rfl (.cons (k := 111) rfl (.cons (k := 112) rfl .nil)))))) mix (by kernel_rfl) (by kernel_rfl) ?_
  refine DL.q rfl (Yld.fieldAddr fo84_0 rfl) rfl ?_
  refine DL.q rfl (Yld.load1 (c := 104) Tryd.underlying3 rfl rfl rfl (by first | exact single_self _ _ | exact pset_self _ _ _ | assumption) rfl) rfl ?_
  refine DL.q rfl (Yld.fieldAddr fo49_2 rfl) rfl ?_
  refine DL.q rfl (Yld.load1 (c := 105) Tryd.underlying3 rfl rfl rfl (by first | exact single_self _ _ | exact pset_self _ _ _ | assumption) rfl) rfl ?_
  refine DL.q rfl (Yld.fieldAddr fo49_2 rfl) rfl ?_
  refine DL.q rfl (Yld.load1 (c := 105) Tryd.underlying3 rfl rfl rfl (by first | exact single_self _ _ | exact pset_self _ _ _ | assumption) rfl) rfl ?_
  refine DL.q rfl (Yld.fieldAddr fo44_2 rfl) rfl ?_
  refine DL.one0 rfl (Eff.storeS (c := 109) _ sz3 rfl rfl rfl rfl rfl rfl rfl (by (try simp only [putAt, List.take, List.drop, List.nil_append, List.cons_append, List.append_nil, List.length_cons, List.length_nil, Nat.add_zero, Nat.zero_add, Nat.reduceAdd]); rfl)) (by rintro _ _ rfl; repeat (first | exact .nil | refine .cons rfl ?_)) ?_
  rintro _ _ rfl
  refine DL.q rfl (Yld.fieldAddr fo44_4 rfl) rfl ?_
  refine DL.one0 rfl (Eff.storeS (c := 109) _ sz3 rfl rfl rfl rfl rfl rfl rfl (by (try simp only [putAt, List.take, List.drop, List.nil_append, List.cons_append, List.append_nil, List.length_cons, List.length_nil, Nat.add_zero, Nat.zero_add, Nat.reduceAdd]); rfl)) (by rintro _ _ rfl; repeat (first | exact .nil | refine .cons rfl ?_)) ?_
  rintro _ _ rfl
  refine DL.q rfl (Yld.fieldAddr fo44_5 rfl) rfl ?_
  refine DL.q rfl (Yld.fieldAddr fo42_2 rfl) rfl ?_
  refine DL.one0 rfl (Eff.storeS (c := 109) _ sz3 rfl rfl rfl rfl rfl rfl rfl (by (try simp only [putAt, List.take, List.drop, List.nil_append, List.cons_append, List.append_nil, List.length_cons, List.length_nil, Nat.add_zero, Nat.zero_add, Nat.reduceAdd]); rfl)) (by rintro _ _ rfl; repeat (first | exact .nil | refine .cons rfl ?_)) ?_
  rintro _ _ rfl
  refine DL.done ?_
  refine N.next ?_
  refine W.keep (.cons (k := 0) rfl (.cons (k := 4) rfl (.cons (k := 5) rfl (.cons (k := 7) rfl (.cons (k := 8) rfl (.cons (k := 9) rfl (.cons (k := 10) rfl (.cons (k := 11) rfl (.cons (k := 12) rfl .nil))))))))) (.cons (k := 0) rfl (.cons (k := 104) rfl (.cons (k := 105) rfl (.cons (k := 109) rfl (.cons (k := 110) rfl (.cons (k := 111) rfl (.cons (k := 112) rfl .nil))))))) ?_
  refine W.seq ?_
  refine W.region ?_
  refine RL.q (Yld.fieldAddr fo84_0 rfl) rfl ?_
  refine RL.q (Yld.load1 (c := 104) Tryd.underlying3 rfl rfl rfl (by first | exact single_self _ _ | exact pset_self _ _ _ | assumption) rfl) rfl ?_
  refine RL.q (Yld.fieldAddr fo44_2 rfl) rfl ?_
  refine RL.e0 (Eff.storeS (c := 112) _ sz3 rfl rfl rfl rfl rfl rfl rfl (by (try simp only [putAt, List.take, List.drop, List.nil_append, List.cons_append, List.append_nil, List.length_cons, List.length_nil, Nat.add_zero, Nat.zero_add, Nat.reduceAdd]); rfl)) ?_
  rintro _ _ rfl
  refine RL.nil ?_
  refine N.next ?_
  refine W.seq ?_
  refine W.region ?_
  refine RL.q (Yld.fieldAddr fo84_1 rfl) rfl ?_
  refine RL.q (Yld.load1 (c := 104) Tryd.underlying3 rfl rfl rfl (by first | exact single_self _ _ | exact pset_self _ _ _ | assumption) rfl) rfl ?_
  refine RL.q (Yld.fieldAddr fo44_1 rfl) rfl ?_
  refine RL.e0 (Eff.storeS (c := 111) _ sz3 rfl rfl rfl rfl rfl rfl rfl (by (try simp only [putAt, List.take, List.drop, List.nil_append, List.cons_append, List.append_nil, List.length_cons, List.length_nil, Nat.add_zero, Nat.zero_add, Nat.reduceAdd]); rfl)) ?_
  rintro _ _ rfl
  refine RL.nil ?_
  refine N.next ?_
  refine W.keep (.cons (k := 0) rfl (.cons (k := 4) rfl (.cons (k := 5) rfl (.cons (k := 7) rfl (.cons (k := 8) rfl (.cons (k := 9) rfl (.cons (k := 10) rfl (.cons (k := 11) rfl (.cons (k := 12) rfl .nil))))))))) (.cons (k := 0) rfl (.cons (k := 104) rfl (.cons (k := 105) rfl (.cons (k := 109) rfl (.cons (k := 110) rfl (.cons (k := 111) rfl (.cons (k := 112) rfl .nil))))))) ?_
  refine W.cutK (ι := Int) (fun s => (s = if k = 2 then y.v else 0)) (fun s => []) (fun s => [(110, single b10 (.cells [.int .i64 0, .int .i64 x.t, .int .i64 0, .int .i64 0, .int .i64 0, .int .i64 2, .int .i64 x.i, .int .i64 0, .int .i64 s].toArray 44 (0, 0)))]) (.cons (k := 4) rfl (.cons (k := 5) rfl (.cons (k := 7) rfl (.cons (k := 8) rfl (.cons (k := 9) rfl (.cons (k := 10) rfl (.cons (k := 11) rfl (.cons (k := 12) rfl .nil)))))))) (.cons (k := 0) rfl (.cons (k := 104) rfl (.cons (k := 105) rfl (.cons (k := 109) rfl (.cons (k := 111) rfl (.cons (k := 112) rfl .nil)))))) ?_ ?_
  ·
    refine W.seq ?_
    refine W.region ?_
    refine RL.q (Yld.move rfl) rfl ?_
    refine RL.q (Yld.bin rfl rfl BinV.eql) rfl ?_
    refine RL.nil ?_
    refine N.next ?_
    first | refine W.condD rfl (fun hc46 => ?_) (fun hc46 => ?_) | (refine W.cond rfl (fun hc46 => ?_) (fun hc46 => ?_) <;> try simp only [Bool.or_eq_true, Bool.and_eq_true, Bool.not_eq_true', Bool.not_eq_false', decide_eq_true_eq, Bool.or_eq_false_iff, Bool.and_eq_false_iff, decide_eq_false_iff_not, beq_iff_eq, beq_eq_false_iff_ne, ne_eq, Decidable.not_not] at hc46)
    ·
      refine W.region ?_
      refine RL.q (Yld.fieldAddr fo49_3 rfl) rfl ?_
      refine RL.q (Yld.load1 (c := 105) Tryd.underlying2 rfl rfl rfl (by first | exact single_self _ _ | exact pset_self _ _ _ | assumption) rfl) rfl ?_
      refine RL.q (Yld.fieldAddr fo44_5 rfl) rfl ?_
      refine RL.q (Yld.fieldAddr fo42_3 rfl) rfl ?_
      refine RL.e0 (Eff.storeS (c := 110) _ sz2 rfl rfl rfl rfl rfl rfl rfl (by (try simp only [putAt, List.take, List.drop, List.nil_append, List.cons_append, List.append_nil, List.length_cons, List.length_nil, Nat.add_zero, Nat.zero_add, Nat.reduceAdd]); rfl)) ?_
      rintro _ _ rfl
      refine RL.nil ?_
      exact N.famK y.v (if_pos (by omega)).symm .nil (.cons rfl (.cons rfl (.cons rfl (.cons rfl (.cons rfl (.cons rfl (.cons rfl (.cons rfl .nil)))))))) (.cons rfl .nil) (.cons rfl (.cons rfl (.cons rfl (.cons rfl (.cons rfl (.cons rfl .nil))))))
    ·
      refine W.skip ?_
      exact N.famK 0 (if_neg (by omega)).symm .nil (.cons rfl (.cons rfl (.cons rfl (.cons rfl (.cons rfl (.cons rfl (.cons rfl (.cons rfl .nil)))))))) (.cons rfl .nil) (.cons rfl (.cons rfl (.cons rfl (.cons rfl (.cons rfl (.cons rfl .nil))))))
  rintro s hs
  refine W.keep (.cons (k := 4) rfl (.cons (k := 5) rfl (.cons (k := 7) rfl (.cons (k := 8) rfl (.cons (k := 9) rfl (.cons (k := 10) rfl (.cons (k := 11) rfl (.cons (k := 12) rfl .nil)))))))) (.cons (k := 110) rfl (.cons (k := 0) rfl (.cons (k := 104) rfl (.cons (k := 105) rfl (.cons (k := 109) rfl (.cons (k := 111) rfl (.cons (k := 112) rfl .nil))))))) ?_
  refine W.seq ?_
  refine W.imp (Imp.empty _ 151) ?_
  refine W.any 56 rfl (fun u56 => ?_)
  refine W.any 69 rfl (fun u69 => ?_)
  refine W.any 74 rfl (fun u74 => ?_)
  refine W.any 81 rfl (fun u81 => ?_)
  refine W.any 86 rfl (fun u86 => ?_)
  refine W.any 93 rfl (fun u93 => ?_)
  refine W.any 98 rfl (fun u98 => ?_)
  refine W.any 51 rfl (fun u51 => ?_)
  refine W.draw (.q 1 (.q 2 (.q 4 (.q 5 (.q 8 (.q 9 (.q 10 (.q 11 (.q 12 (.q 13 (.q 15 (.q 16 (.q 18 (.q 19 (.q 21 (.q 22 (.q 25 (.q 26 (.q 27 (.q 28 (.q 31 (.q 32 (.q 34 (.q 35 (.q 36 (.q 37 (.q 40 (.q 41 (.q 42 (.q 43 (.q 46 (.q 47 (.q 49 (.q 50 (.q 51 (.q 52 (.q 55 (.q 56 (.q 57 (.q 58 (.bag [(0, []), (3, [0]), (6, []), (7, [0, 6]), (14, [0]), (17, [0]), (20, [0]), (23, [6]), (24, [0, 23]), (29, [23]), (30, [0, 29]), (33, [0]), (38, [29]), (39, [0, 38]), (44, [38]), (45, [0, 44]), (48, [0]), (53, [44]), (54, [0, 53]), (59, [53]), (60, [0, 59])] (.q 61 (.q 62 .done))))))))))))))))))))))))))))))))))))))))))) (.cons (k := 0) rfl (.cons (k := 104) rfl (.cons (k := 105) rfl (.cons (k := 109) rfl (.cons (k := 110) rfl (.cons (k := 111) rfl (.cons (k := 112) rfl .nil))))))) mix (by kernel_rfl) (by kernel_rfl) ?_
  refine DL.q rfl (Yld.buildP lay94 (.cons rfl rfl (.cons rfl rfl (.cons rfl rfl .nil))) rfl) rfl ?_
  refine DL.q rfl (Yld.loadW (c := 109) Tryd.underlying44 rfl sz44 rfl rfl (by first | exact single_self _ _ | exact pset_self _ _ _ | assumption) rfl) rfl ?_
  refine DL.q rfl (Yld.buildP lay94 (.cons rfl rfl (.cons rfl rfl (.cons rfl rfl .nil))) rfl) rfl ?_
  refine DL.q rfl (Yld.move rfl) rfl ?_
  refine DL.q rfl (Yld.buildP lay94 (.cons rfl rfl (.cons rfl rfl (.cons rfl rfl .nil))) rfl) rfl ?_
  refine DL.q rfl (Yld.fieldAddr fo84_0 rfl) rfl ?_
  refine DL.q rfl (Yld.load1 (c := 104) Tryd.underlying3 rfl rfl rfl (by first | exact single_self _ _ | exact pset_self _ _ _ | assumption) rfl) rfl ?_
  refine DL.q rfl (Yld.fieldAddr fo49_2 rfl) rfl ?_
  refine DL.q rfl (Yld.load1 (c := 105) Tryd.underlying3 rfl rfl rfl (by first | exact single_self _ _ | exact pset_self _ _ _ | assumption) rfl) rfl ?_
  refine DL.q rfl (Yld.buildP lay44 (.cons rfl rfl (.cons rfl rfl (.cons rfl rfl .nil))) rfl) rfl ?_
  refine DL.q rfl (Yld.buildP lay94 (.cons rfl rfl (.cons rfl rfl (.cons rfl rfl .nil))) rfl) rfl ?_
  refine DL.q rfl (Yld.loadW (c := 111) Tryd.underlying44 rfl sz44 rfl rfl (by first | exact single_self _ _ | exact pset_self _ _ _ | assumption) rfl) rfl ?_
  refine DL.q rfl (Yld.buildP lay94 (.cons rfl rfl (.cons rfl rfl (.cons rfl rfl .nil))) rfl) rfl ?_
  refine DL.q rfl (Yld.loadW (c := 112) Tryd.underlying44 rfl sz44 rfl rfl (by first | exact single_self _ _ | exact pset_self _ _ _ | assumption) rfl) rfl ?_
  refine DL.q rfl (Yld.buildP lay94 (.cons rfl rfl (.cons rfl rfl (.cons rfl rfl .nil))) rfl) rfl ?_
  refine DL.q rfl (Yld.move rfl) rfl ?_
  refine DL.q rfl (Yld.buildP lay94 (.cons rfl rfl (.cons rfl rfl (.cons rfl rfl .nil))) rfl) rfl ?_
  refine DL.q rfl (Yld.move rfl) rfl ?_
  refine DL.q rfl (Yld.fieldAddr fo84_1 rfl) rfl ?_
  refine DL.q rfl (Yld.load1 (c := 104) Tryd.underlying3 rfl rfl rfl (by first | exact single_self _ _ | exact pset_self _ _ _ | assumption) rfl) rfl ?_
  refine DL.q rfl (Yld.buildP lay94 (.cons rfl rfl (.cons rfl rfl (.cons rfl rfl .nil))) rfl) rfl ?_
  refine DL.q rfl (Yld.loadW (c := 110) Tryd.underlying44 rfl sz44 rfl rfl (by first | exact single_self _ _ | exact pset_self _ _ _ | assumption) rfl) rfl ?_
  refine DL.q rfl (Yld.buildP lay94 (.cons rfl rfl (.cons rfl rfl (.cons rfl rfl .nil))) rfl) rfl ?_
  refine DL.q rfl (Yld.move rfl) rfl ?_
  refine DL.q rfl (Yld.fieldAddr fo84_1 rfl) rfl ?_
  refine DL.q rfl (Yld.load1 (c := 104) Tryd.underlying3 rfl rfl rfl (by first | exact single_self _ _ | exact pset_self _ _ _ | assumption) rfl) rfl ?_
  refine DL.q rfl (Yld.buildP lay94 (.cons rfl rfl (.cons rfl rfl (.cons rfl rfl .nil))) rfl) rfl ?_
  refine DL.q rfl (Yld.move rfl) rfl ?_
  refine DL.q rfl (Yld.fieldAddr fo84_1 rfl) rfl ?_
  refine DL.q rfl (Yld.load1 (c := 104) Tryd.underlying3 rfl rfl rfl (by first | exact single_self _ _ | exact pset_self _ _ _ | assumption) rfl) rfl ?_
  refine DL.q rfl (Yld.buildP lay94 (.cons rfl rfl (.cons rfl rfl (.cons rfl rfl .nil))) rfl) rfl ?_
  refine DL.q rfl (Yld.loadW (c := 110) Tryd.underlying44 rfl sz44 rfl rfl (by first | exact single_self _ _ | exact pset_self _ _ _ | assumption) rfl) rfl ?_
  refine DL.q rfl (Yld.buildP lay94 (.cons rfl rfl (.cons rfl rfl (.cons rfl rfl .nil))) rfl) rfl ?_
  refine DL.q rfl (Yld.move rfl) rfl ?_
  refine DL.q rfl (Yld.fieldAddr fo84_1 rfl) rfl ?_
  refine DL.q rfl (Yld.load1 (c := 104) Tryd.underlying3 rfl rfl rfl (by first | exact single_self _ _ | exact pset_self _ _ _ | assumption) rfl) rfl ?_
  refine DL.q rfl (Yld.buildP lay94 (.cons rfl rfl (.cons rfl rfl (.cons rfl rfl .nil))) rfl) rfl ?_
  refine DL.q rfl (Yld.move rfl) rfl ?_
  refine DL.q rfl (Yld.fieldAddr fo84_1 rfl) rfl ?_
  refine DL.q rfl (Yld.load1 (c := 104) Tryd.underlying3 rfl rfl rfl (by first | exact single_self _ _ | exact pset_self _ _ _ | assumption) rfl) rfl ?_
  refine DL.bagK (ι := B9) (fun D g => ((D 6 = true → g.u56 = admV x y 0) ∧ (D 23 = true → g.u69 = admV x y 1) ∧ (D 29 = true → g.u74 = unitV x x.f 4) ∧ (D 38 = true → g.u81 = unitV x x.f 5) ∧ (D 44 = true → g.u86 = unitV x x.f 2) ∧ (D 53 = true → g.u93 = unitV x x.f 3) ∧ (D 59 = true → g.u98 = unitV x x.f 5) ∧ ((D 3 || D 7 || D 14 || D 17 || D 20 || D 24 || D 30 || D 33 || D 39 || D 45 || D 48 || D 54 || D 60) = true → D 0 = true) ∧ (D 0 = true → ∃ b, g.u51 = .map (some b) ∧ g.h = single b (.map g.es g.ck) ∧ MapP (enc3 .i64) g.es g.ck g.m ∧ ∀ q v, mget g.m q = some v ↔ actD D x y s q v))) (fun g => [(51, g.u51), (56, g.u56), (69, g.u69), (74, g.u74), (81, g.u81), (86, g.u86), (93, g.u93), (98, g.u98)]) (fun g => [(151, g.h)]) (.cons (k := 4) rfl (.cons (k := 5) rfl (.cons (k := 7) rfl (.cons (k := 8) rfl (.cons (k := 9) rfl (.cons (k := 10) rfl (.cons (k := 11) rfl (.cons (k := 12) rfl (.cons (k := 52) rfl (.cons (k := 53) rfl (.cons (k := 54) rfl (.cons (k := 55) rfl (.cons (k := 57) rfl (.cons (k := 58) rfl (.cons (k := 59) rfl (.cons (k := 60) rfl (.cons (k := 61) rfl (.cons (k := 62) rfl (.cons (k := 63) rfl (.cons (k := 64) rfl (.cons (k := 65) rfl (.cons (k := 66) rfl (.cons (k := 67) rfl (.cons (k := 68) rfl (.cons (k := 70) rfl (.cons (k := 71) rfl (.cons (k := 72) rfl (.cons (k := 73) rfl (.cons (k := 75) rfl (.cons (k := 76) rfl (.cons (k := 77) rfl (.cons (k := 78) rfl (.cons (k := 79) rfl (.cons (k := 80) rfl (.cons (k := 82) rfl (.cons (k := 83) rfl (.cons (k := 84) rfl (.cons (k := 85) rfl (.cons (k := 87) rfl (.cons (k := 88) rfl (.cons (k := 89) rfl (.cons (k := 90) rfl (.cons (k := 91) rfl (.cons (k := 92) rfl (.cons (k := 94) rfl (.cons (k := 95) rfl (.cons (k := 96) rfl (.cons (k := 97) rfl .nil)))))))))))))))))))))))))))))))))))))))))))))))) (.cons (k := 0) rfl (.cons (k := 104) rfl (.cons (k := 105) rfl (.cons (k := 109) rfl (.cons (k := 110) rfl (.cons (k := 111) rfl (.cons (k := 112) rfl .nil))))))) ⟨u56, u69, u74, u81, u86, u93, u98, u51, emp, #[], 0, []⟩ ?_ ?_ ?_ (fun x => (.cons (k := 0) rfl (.cons (k := 104) rfl (.cons (k := 105) rfl (.cons (k := 109) rfl (.cons (k := 110) rfl (.cons (k := 111) rfl (.cons (k := 112) rfl .nil)))))))) ?_ ?_
  · intro D hD
    have e : ∀ {i : Nat} {l : List Nat} {p : Prop}, (i, l) ∈ ([(0, []), (3, [0]), (6, []), (7, [0, 6]), (14, [0]), (17, [0]), (20, [0]), (23, [6]), (24, [0, 23]), (29, [23]), (30, [0, 29]), (33, [0]), (38, [29]), (39, [0, 38]), (44, [38]), (45, [0, 44]), (48, [0]), (53, [44]), (54, [0, 53]), (59, [53]), (60, [0, 59])] : List (Nat × List Nat)) → D i = true → p := fun ht h => by rw [hD _ ht] at h; cases h
    have e2 : ∀ {i : Nat} {l : List Nat}, (i, l) ∈ ([(0, []), (3, [0]), (6, []), (7, [0, 6]), (14, [0]), (17, [0]), (20, [0]), (23, [6]), (24, [0, 23]), (29, [23]), (30, [0, 29]), (33, [0]), (38, [29]), (39, [0, 38]), (44, [38]), (45, [0, 44]), (48, [0]), (53, [44]), (54, [0, 53]), (59, [53]), (60, [0, 59])] : List (Nat × List Nat)) → D i = false := fun ht => hD _ ht
    exact ⟨e (i := 6) (l := []) (by decide), e (i := 23) (l := [6]) (by decide), e (i := 29) (l := [23]) (by decide), e (i := 38) (l := [29]) (by decide), e (i := 44) (l := [38]) (by decide), e (i := 53) (l := [44]) (by decide), e (i := 59) (l := [53]) (by decide), fun h => (by rw [e2 (i := 3) (l := [0]) (by decide), e2 (i := 7) (l := [0, 6]) (by decide), e2 (i := 14) (l := [0]) (by decide), e2 (i := 17) (l := [0]) (by decide), e2 (i := 20) (l := [0]) (by decide), e2 (i := 24) (l := [0, 23]) (by decide), e2 (i := 30) (l := [0, 29]) (by decide), e2 (i := 33) (l := [0]) (by decide), e2 (i := 39) (l := [0, 38]) (by decide), e2 (i := 45) (l := [0, 44]) (by decide), e2 (i := 48) (l := [0]) (by decide), e2 (i := 54) (l := [0, 53]) (by decide), e2 (i := 60) (l := [0, 59]) (by decide)] at h; cases h), e (i := 0) (l := []) (by decide)⟩
  · exact (.cons rfl (.cons rfl (.cons rfl (.cons rfl (.cons rfl (.cons rfl (.cons rfl (.cons rfl .nil))))))))
  · exact (.cons rfl .nil)
  ·
    refine bagCons ?_ ?_
    ·
      rintro D g ⟨h6, h23, h29, h38, h44, h53, h59, hz, hmp⟩ hD hd
      refine BS.keep (σ' := _) (L' := _) (.cons (k := 51) rfl (.cons (k := 56) rfl (.cons (k := 69) rfl (.cons (k := 74) rfl (.cons (k := 81) rfl (.cons (k := 86) rfl (.cons (k := 93) rfl (.cons (k := 98) rfl (.cons (k := 4) rfl (.cons (k := 5) rfl (.cons (k := 7) rfl (.cons (k := 8) rfl (.cons (k := 9) rfl (.cons (k := 10) rfl (.cons (k := 11) rfl (.cons (k := 12) rfl (.cons (k := 52) rfl (.cons (k := 53) rfl (.cons (k := 54) rfl (.cons (k := 55) rfl (.cons (k := 57) rfl (.cons (k := 58) rfl (.cons (k := 59) rfl (.cons (k := 60) rfl (.cons (k := 61) rfl (.cons (k := 62) rfl (.cons (k := 63) rfl (.cons (k := 64) rfl (.cons (k := 65) rfl (.cons (k := 66) rfl (.cons (k := 67) rfl (.cons (k := 68) rfl (.cons (k := 70) rfl (.cons (k := 71) rfl (.cons (k := 72) rfl (.cons (k := 73) rfl (.cons (k := 75) rfl (.cons (k := 76) rfl (.cons (k := 77) rfl (.cons (k := 78) rfl (.cons (k := 79) rfl (.cons (k := 80) rfl (.cons (k := 82) rfl (.cons (k := 83) rfl (.cons (k := 84) rfl (.cons (k := 85) rfl (.cons (k := 87) rfl (.cons (k := 88) rfl (.cons (k := 89) rfl (.cons (k := 90) rfl (.cons (k := 91) rfl (.cons (k := 92) rfl (.cons (k := 94) rfl (.cons (k := 95) rfl (.cons (k := 96) rfl (.cons (k := 97) rfl .nil)))))))))))))))))))))))))))))))))))))))))))))))))))))))) (.cons (k := 151) rfl (.cons (k := 0) rfl (.cons (k := 104) rfl (.cons (k := 105) rfl (.cons (k := 109) rfl (.cons (k := 110) rfl (.cons (k := 111) rfl (.cons (k := 112) rfl .nil)))))))) ?_
      have hno : ∀ q v, ¬ actD (bput D 0) x y s q v := fun q v h => by
        have hz2 : ∀ {p : Prop}, (D 3 || D 7 || D 14 || D 17 || D 20 || D 24 || D 30 || D 33 || D 39 || D 45 || D 48 || D 54 || D 60) = true → p := fun h => by rw [hz h] at hD; cases hD
        rcases h with h | h | h | h | h | h | h | h | h | h | h | h | h <;> exact hz2 (by simp only [show D _ = true from h.1, Bool.true_or, Bool.or_true])
      refine BS.one rfl (Eff.makeMap 151) rfl ?_
      rintro _ _ ⟨b51, rfl, rfl⟩
      exact ⟨{ g with u51 := .map (some b51), h := single b51 (.map #[] 0), es := #[], ck := 0, m := [] }, ⟨h6, h23, h29, h38, h44, h53, h59, fun _ => rfl, fun _ => ⟨b51, rfl, rfl, MapP.empty _, fun q v => ⟨fun h => (by cases h), fun h => (hno q v h).elim⟩⟩⟩, (.cons rfl (.cons rfl (.cons rfl (.cons rfl (.cons rfl (.cons rfl (.cons rfl (.cons rfl .nil)))))))), (.cons rfl (.cons rfl (.cons rfl (.cons rfl (.cons rfl (.cons rfl (.cons rfl (.cons rfl (.cons rfl (.cons rfl (.cons rfl (.cons rfl (.cons rfl (.cons rfl (.cons rfl (.cons rfl (.cons rfl (.cons rfl (.cons rfl (.cons rfl (.cons rfl (.cons rfl (.cons rfl (.cons rfl (.cons rfl (.cons rfl (.cons rfl (.cons rfl (.cons rfl (.cons rfl (.cons rfl (.cons rfl (.cons rfl (.cons rfl (.cons rfl (.cons rfl (.cons rfl (.cons rfl (.cons rfl (.cons rfl (.cons rfl (.cons rfl (.cons rfl (.cons rfl (.cons rfl (.cons rfl (.cons rfl (.cons rfl .nil)))))))))))))))))))))))))))))))))))))))))))))))), (.cons rfl .nil), (.cons rfl (.cons rfl (.cons rfl (.cons rfl (.cons rfl (.cons rfl (.cons rfl .nil)))))))⟩
    refine bagCons ?_ ?_
    ·
      rintro D g ⟨h6, h23, h29, h38, h44, h53, h59, hz, hmp⟩ hD hd
      refine BS.keep (σ' := _) (L' := _) (.cons (k := 51) rfl (.cons (k := 56) rfl (.cons (k := 69) rfl (.cons (k := 74) rfl (.cons (k := 81) rfl (.cons (k := 86) rfl (.cons (k := 93) rfl (.cons (k := 98) rfl (.cons (k := 4) rfl (.cons (k := 5) rfl (.cons (k := 7) rfl (.cons (k := 8) rfl (.cons (k := 9) rfl (.cons (k := 10) rfl (.cons (k := 11) rfl (.cons (k := 12) rfl (.cons (k := 52) rfl (.cons (k := 53) rfl (.cons (k := 54) rfl (.cons (k := 55) rfl (.cons (k := 57) rfl (.cons (k := 58) rfl (.cons (k := 59) rfl (.cons (k := 60) rfl (.cons (k := 61) rfl (.cons (k := 62) rfl (.cons (k := 63) rfl (.cons (k := 64) rfl (.cons (k := 65) rfl (.cons (k := 66) rfl (.cons (k := 67) rfl (.cons (k := 68) rfl (.cons (k := 70) rfl (.cons (k := 71) rfl (.cons (k := 72) rfl (.cons (k := 73) rfl (.cons (k := 75) rfl (.cons (k := 76) rfl (.cons (k := 77) rfl (.cons (k := 78) rfl (.cons (k := 79) rfl (.cons (k := 80) rfl (.cons (k := 82) rfl (.cons (k := 83) rfl (.cons (k := 84) rfl (.cons (k := 85) rfl (.cons (k := 87) rfl (.cons (k := 88) rfl (.cons (k := 89) rfl (.cons (k := 90) rfl (.cons (k := 91) rfl (.cons (k := 92) rfl (.cons (k := 94) rfl (.cons (k := 95) rfl (.cons (k := 96) rfl (.cons (k := 97) rfl .nil)))))))))))))))))))))))))))))))))))))))))))))))))))))))) (.cons (k := 151) rfl (.cons (k := 0) rfl (.cons (k := 104) rfl (.cons (k := 105) rfl (.cons (k := 109) rfl (.cons (k := 110) rfl (.cons (k := 111) rfl (.cons (k := 112) rfl .nil)))))))) ?_
      obtain ⟨b51, e51, eh, hM, hmg⟩ := hmp (hd 0 (by decide))
      obtain ⟨u56, u69, u74, u81, u86, u93, u98, u51, hh, es, ck, mm⟩ := g
      dsimp only at e51 eh hM hmg 
      subst e51 eh
      refine BS.one0 rfl (Eff.insert (c := 151) (k := (0, false, 1)) Tryd.underlying91 key94 rfl rfl rfl rfl (by assumption)) ?_
      rintro _ _ ⟨es2, ck2, hM2, rfl⟩
      exact ⟨⟨u56, u69, u74, u81, u86, u93, u98, _, _, es2, ck2, _⟩, ⟨h6, h23, h29, h38, h44, h53, h59, fun _ => hd 0 (by decide), fun _ => ⟨b51, rfl, rfl, hM2, fun q v => ins_step hmg (by first | (simp [actD, bput_self, bput_ne]; done) | (simp [actD, bput_self, bput_ne]; exact Iff.rfl)) (fun hq => by simp [actD, bput_self, bput_ne, hq])⟩⟩, (.cons rfl (.cons rfl (.cons rfl (.cons rfl (.cons rfl (.cons rfl (.cons rfl (.cons rfl .nil)))))))), (.cons rfl (.cons rfl (.cons rfl (.cons rfl (.cons rfl (.cons rfl (.cons rfl (.cons rfl (.cons rfl (.cons rfl (.cons rfl (.cons rfl (.cons rfl (.cons rfl (.cons rfl (.cons rfl (.cons rfl (.cons rfl (.cons rfl (.cons rfl (.cons rfl (.cons rfl (.cons rfl (.cons rfl (.cons rfl (.cons rfl (.cons rfl (.cons rfl (.cons rfl (.cons rfl (.cons rfl (.cons rfl (.cons rfl (.cons rfl (.cons rfl (.cons rfl (.cons rfl (.cons rfl (.cons rfl (.cons rfl (.cons rfl (.cons rfl (.cons rfl (.cons rfl (.cons rfl (.cons rfl (.cons rfl (.cons rfl .nil)))))))))))))))))))))))))))))))))))))))))))))))), (.cons rfl .nil), (.cons rfl (.cons rfl (.cons rfl (.cons rfl (.cons rfl (.cons rfl (.cons rfl .nil)))))))⟩
    refine bagCons ?_ ?_
    ·
      rintro D g ⟨h6, h23, h29, h38, h44, h53, h59, hz, hmp⟩ hD hd
      refine BS.keep (σ' := _) (L' := _) (.cons (k := 51) rfl (.cons (k := 56) rfl (.cons (k := 69) rfl (.cons (k := 74) rfl (.cons (k := 81) rfl (.cons (k := 86) rfl (.cons (k := 93) rfl (.cons (k := 98) rfl (.cons (k := 4) rfl (.cons (k := 5) rfl (.cons (k := 7) rfl (.cons (k := 8) rfl (.cons (k := 9) rfl (.cons (k := 10) rfl (.cons (k := 11) rfl (.cons (k := 12) rfl (.cons (k := 52) rfl (.cons (k := 53) rfl (.cons (k := 54) rfl (.cons (k := 55) rfl (.cons (k := 57) rfl (.cons (k := 58) rfl (.cons (k := 59) rfl (.cons (k := 60) rfl (.cons (k := 61) rfl (.cons (k := 62) rfl (.cons (k := 63) rfl (.cons (k := 64) rfl (.cons (k := 65) rfl (.cons (k := 66) rfl (.cons (k := 67) rfl (.cons (k := 68) rfl (.cons (k := 70) rfl (.cons (k := 71) rfl (.cons (k := 72) rfl (.cons (k := 73) rfl (.cons (k := 75) rfl (.cons (k := 76) rfl (.cons (k := 77) rfl (.cons (k := 78) rfl (.cons (k := 79) rfl (.cons (k := 80) rfl (.cons (k := 82) rfl (.cons (k := 83) rfl (.cons (k := 84) rfl (.cons (k := 85) rfl (.cons (k := 87) rfl (.cons (k := 88) rfl (.cons (k := 89) rfl (.cons (k := 90) rfl (.cons (k := 91) rfl (.cons (k := 92) rfl (.cons (k := 94) rfl (.cons (k := 95) rfl (.cons (k := 96) rfl (.cons (k := 97) rfl .nil)))))))))))))))))))))))))))))))))))))))))))))))))))))))) (.cons (k := 151) rfl (.cons (k := 0) rfl (.cons (k := 104) rfl (.cons (k := 105) rfl (.cons (k := 109) rfl (.cons (k := 110) rfl (.cons (k := 111) rfl (.cons (k := 112) rfl .nil)))))))) ?_
      refine BS.one rfl (Eff.callV ent63 [104, 105] [104, 105] rfl (.cons rfl .nil) (adm_ct b4 b5 x y 0) rfl rfl rfl rfl (by rintro _ _ ⟨_, rfl⟩; rfl)) rfl ?_
      rintro _ _ ⟨_, ⟨rfl, rfl⟩, rfl⟩
      exact ⟨{ g with u56 := admV x y 0 }, ⟨fun _ => rfl, h23, h29, h38, h44, h53, h59, hz, hmp⟩, (.cons rfl (.cons rfl (.cons rfl (.cons rfl (.cons rfl (.cons rfl (.cons rfl (.cons rfl .nil)))))))), (.cons rfl (.cons rfl (.cons rfl (.cons rfl (.cons rfl (.cons rfl (.cons rfl (.cons rfl (.cons rfl (.cons rfl (.cons rfl (.cons rfl (.cons rfl (.cons rfl (.cons rfl (.cons rfl (.cons rfl (.cons rfl (.cons rfl (.cons rfl (.cons rfl (.cons rfl (.cons rfl (.cons rfl (.cons rfl (.cons rfl (.cons rfl (.cons rfl (.cons rfl (.cons rfl (.cons rfl (.cons rfl (.cons rfl (.cons rfl (.cons rfl (.cons rfl (.cons rfl (.cons rfl (.cons rfl (.cons rfl (.cons rfl (.cons rfl (.cons rfl (.cons rfl (.cons rfl (.cons rfl (.cons rfl (.cons rfl .nil)))))))))))))))))))))))))))))))))))))))))))))))), (.cons rfl .nil), (.cons rfl (.cons rfl (.cons rfl (.cons rfl (.cons rfl (.cons rfl (.cons rfl .nil)))))))⟩
    refine bagCons ?_ ?_
    ·
      rintro D g ⟨h6, h23, h29, h38, h44, h53, h59, hz, hmp⟩ hD hd
      refine BS.keep (σ' := _) (L' := _) (.cons (k := 51) rfl (.cons (k := 56) rfl (.cons (k := 69) rfl (.cons (k := 74) rfl (.cons (k := 81) rfl (.cons (k := 86) rfl (.cons (k := 93) rfl (.cons (k := 98) rfl (.cons (k := 4) rfl (.cons (k := 5) rfl (.cons (k := 7) rfl (.cons (k := 8) rfl (.cons (k := 9) rfl (.cons (k := 10) rfl (.cons (k := 11) rfl (.cons (k := 12) rfl (.cons (k := 52) rfl (.cons (k := 53) rfl (.cons (k := 54) rfl (.cons (k := 55) rfl (.cons (k := 57) rfl (.cons (k := 58) rfl (.cons (k := 59) rfl (.cons (k := 60) rfl (.cons (k := 61) rfl (.cons (k := 62) rfl (.cons (k := 63) rfl (.cons (k := 64) rfl (.cons (k := 65) rfl (.cons (k := 66) rfl (.cons (k := 67) rfl (.cons (k := 68) rfl (.cons (k := 70) rfl (.cons (k := 71) rfl (.cons (k := 72) rfl (.cons (k := 73) rfl (.cons (k := 75) rfl (.cons (k := 76) rfl (.cons (k := 77) rfl (.cons (k := 78) rfl (.cons (k := 79) rfl (.cons (k := 80) rfl (.cons (k := 82) rfl (.cons (k := 83) rfl (.cons (k := 84) rfl (.cons (k := 85) rfl (.cons (k := 87) rfl (.cons (k := 88) rfl (.cons (k := 89) rfl (.cons (k := 90) rfl (.cons (k := 91) rfl (.cons (k := 92) rfl (.cons (k := 94) rfl (.cons (k := 95) rfl (.cons (k := 96) rfl (.cons (k := 97) rfl .nil)))))))))))))))))))))))))))))))))))))))))))))))))))))))) (.cons (k := 151) rfl (.cons (k := 0) rfl (.cons (k := 104) rfl (.cons (k := 105) rfl (.cons (k := 109) rfl (.cons (k := 110) rfl (.cons (k := 111) rfl (.cons (k := 112) rfl .nil)))))))) ?_
      obtain ⟨b51, e51, eh, hM, hmg⟩ := hmp (hd 0 (by decide))
      have e6 := h6 (hd 6 (by decide))
      obtain ⟨u56, u69, u74, u81, u86, u93, u98, u51, hh, es, ck, mm⟩ := g
      dsimp only at e51 eh hM hmg e6
      subst e51 eh e6
      refine BS.one0 rfl (Eff.insert (c := 151) (k := (0, false, 2)) Tryd.underlying91 key94 rfl rfl rfl rfl (by assumption)) ?_
      rintro _ _ ⟨es2, ck2, hM2, rfl⟩
      exact ⟨⟨_, u69, u74, u81, u86, u93, u98, _, _, es2, ck2, _⟩, ⟨h6, h23, h29, h38, h44, h53, h59, fun _ => hd 0 (by decide), fun _ => ⟨b51, rfl, rfl, hM2, fun q v => ins_step hmg (by first | (simp [actD, bput_self, bput_ne]; done) | (simp [actD, bput_self, bput_ne]; exact Iff.rfl)) (fun hq => by simp [actD, bput_self, bput_ne, hq])⟩⟩, (.cons rfl (.cons rfl (.cons rfl (.cons rfl (.cons rfl (.cons rfl (.cons rfl (.cons rfl .nil)))))))), (.cons rfl (.cons rfl (.cons rfl (.cons rfl (.cons rfl (.cons rfl (.cons rfl (.cons rfl (.cons rfl (.cons rfl (.cons rfl (.cons rfl (.cons rfl (.cons rfl (.cons rfl (.cons rfl (.cons rfl (.cons rfl (.cons rfl (.cons rfl (.cons rfl (.cons rfl (.cons rfl (.cons rfl (.cons rfl (.cons rfl (.cons rfl (.cons rfl (.cons rfl (.cons rfl (.cons rfl (.cons rfl (.cons rfl (.cons rfl (.cons rfl (.cons rfl (.cons rfl (.cons rfl (.cons rfl (.cons rfl (.cons rfl (.cons rfl (.cons rfl (.cons rfl (.cons rfl (.cons rfl (.cons rfl (.cons rfl .nil)))))))))))))))))))))))))))))))))))))))))))))))), (.cons rfl .nil), (.cons rfl (.cons rfl (.cons rfl (.cons rfl (.cons rfl (.cons rfl (.cons rfl .nil)))))))⟩
    refine bagCons ?_ ?_
    ·
      rintro D g ⟨h6, h23, h29, h38, h44, h53, h59, hz, hmp⟩ hD hd
      refine BS.keep (σ' := _) (L' := _) (.cons (k := 51) rfl (.cons (k := 56) rfl (.cons (k := 69) rfl (.cons (k := 74) rfl (.cons (k := 81) rfl (.cons (k := 86) rfl (.cons (k := 93) rfl (.cons (k := 98) rfl (.cons (k := 4) rfl (.cons (k := 5) rfl (.cons (k := 7) rfl (.cons (k := 8) rfl (.cons (k := 9) rfl (.cons (k := 10) rfl (.cons (k := 11) rfl (.cons (k := 12) rfl (.cons (k := 52) rfl (.cons (k := 53) rfl (.cons (k := 54) rfl (.cons (k := 55) rfl (.cons (k := 57) rfl (.cons (k := 58) rfl (.cons (k := 59) rfl (.cons (k := 60) rfl (.cons (k := 61) rfl (.cons (k := 62) rfl (.cons (k := 63) rfl (.cons (k := 64) rfl (.cons (k := 65) rfl (.cons (k := 66) rfl (.cons (k := 67) rfl (.cons (k := 68) rfl (.cons (k := 70) rfl (.cons (k := 71) rfl (.cons (k := 72) rfl (.cons (k := 73) rfl (.cons (k := 75) rfl (.cons (k := 76) rfl (.cons (k := 77) rfl (.cons (k := 78) rfl (.cons (k := 79) rfl (.cons (k := 80) rfl (.cons (k := 82) rfl (.cons (k := 83) rfl (.cons (k := 84) rfl (.cons (k := 85) rfl (.cons (k := 87) rfl (.cons (k := 88) rfl (.cons (k := 89) rfl (.cons (k := 90) rfl (.cons (k := 91) rfl (.cons (k := 92) rfl (.cons (k := 94) rfl (.cons (k := 95) rfl (.cons (k := 96) rfl (.cons (k := 97) rfl .nil)))))))))))))))))))))))))))))))))))))))))))))))))))))))) (.cons (k := 151) rfl (.cons (k := 0) rfl (.cons (k := 104) rfl (.cons (k := 105) rfl (.cons (k := 109) rfl (.cons (k := 110) rfl (.cons (k := 111) rfl (.cons (k := 112) rfl .nil)))))))) ?_
      obtain ⟨b51, e51, eh, hM, hmg⟩ := hmp (hd 0 (by decide))
      obtain ⟨u56, u69, u74, u81, u86, u93, u98, u51, hh, es, ck, mm⟩ := g
      dsimp only at e51 eh hM hmg 
      subst e51 eh
      refine BS.one0 rfl (Eff.insert (c := 151) (k := (0, false, 3)) Tryd.underlying91 key94 rfl rfl rfl rfl (by assumption)) ?_
      rintro _ _ ⟨es2, ck2, hM2, rfl⟩
      exact ⟨⟨u56, u69, u74, u81, u86, u93, u98, _, _, es2, ck2, _⟩, ⟨h6, h23, h29, h38, h44, h53, h59, fun _ => hd 0 (by decide), fun _ => ⟨b51, rfl, rfl, hM2, fun q v => ins_step hmg (by first | (simp [actD, bput_self, bput_ne]; done) | (simp [actD, bput_self, bput_ne]; exact Iff.rfl)) (fun hq => by simp [actD, bput_self, bput_ne, hq])⟩⟩, (.cons rfl (.cons rfl (.cons rfl (.cons rfl (.cons rfl (.cons rfl (.cons rfl (.cons rfl .nil)))))))), (.cons rfl (.cons rfl (.cons rfl (.cons rfl (.cons rfl (.cons rfl (.cons rfl (.cons rfl (.cons rfl (.cons rfl (.cons rfl (.cons rfl (.cons rfl (.cons rfl (.cons rfl (.cons rfl (.cons rfl (.cons rfl (.cons rfl (.cons rfl (.cons rfl (.cons rfl (.cons rfl (.cons rfl (.cons rfl (.cons rfl (.cons rfl (.cons rfl (.cons rfl (.cons rfl (.cons rfl (.cons rfl (.cons rfl (.cons rfl (.cons rfl (.cons rfl (.cons rfl (.cons rfl (.cons rfl (.cons rfl (.cons rfl (.cons rfl (.cons rfl (.cons rfl (.cons rfl (.cons rfl (.cons rfl (.cons rfl .nil)))))))))))))))))))))))))))))))))))))))))))))))), (.cons rfl .nil), (.cons rfl (.cons rfl (.cons rfl (.cons rfl (.cons rfl (.cons rfl (.cons rfl .nil)))))))⟩
    refine bagCons ?_ ?_
    ·
      rintro D g ⟨h6, h23, h29, h38, h44, h53, h59, hz, hmp⟩ hD hd
      refine BS.keep (σ' := _) (L' := _) (.cons (k := 51) rfl (.cons (k := 56) rfl (.cons (k := 69) rfl (.cons (k := 74) rfl (.cons (k := 81) rfl (.cons (k := 86) rfl (.cons (k := 93) rfl (.cons (k := 98) rfl (.cons (k := 4) rfl (.cons (k := 5) rfl (.cons (k := 7) rfl (.cons (k := 8) rfl (.cons (k := 9) rfl (.cons (k := 10) rfl (.cons (k := 11) rfl (.cons (k := 12) rfl (.cons (k := 52) rfl (.cons (k := 53) rfl (.cons (k := 54) rfl (.cons (k := 55) rfl (.cons (k := 57) rfl (.cons (k := 58) rfl (.cons (k := 59) rfl (.cons (k := 60) rfl (.cons (k := 61) rfl (.cons (k := 62) rfl (.cons (k := 63) rfl (.cons (k := 64) rfl (.cons (k := 65) rfl (.cons (k := 66) rfl (.cons (k := 67) rfl (.cons (k := 68) rfl (.cons (k := 70) rfl (.cons (k := 71) rfl (.cons (k := 72) rfl (.cons (k := 73) rfl (.cons (k := 75) rfl (.cons (k := 76) rfl (.cons (k := 77) rfl (.cons (k := 78) rfl (.cons (k := 79) rfl (.cons (k := 80) rfl (.cons (k := 82) rfl (.cons (k := 83) rfl (.cons (k := 84) rfl (.cons (k := 85) rfl (.cons (k := 87) rfl (.cons (k := 88) rfl (.cons (k := 89) rfl (.cons (k := 90) rfl (.cons (k := 91) rfl (.cons (k := 92) rfl (.cons (k := 94) rfl (.cons (k := 95) rfl (.cons (k := 96) rfl (.cons (k := 97) rfl .nil)))))))))))))))))))))))))))))))))))))))))))))))))))))))) (.cons (k := 151) rfl (.cons (k := 0) rfl (.cons (k := 104) rfl (.cons (k := 105) rfl (.cons (k := 109) rfl (.cons (k := 110) rfl (.cons (k := 111) rfl (.cons (k := 112) rfl .nil)))))))) ?_
      obtain ⟨b51, e51, eh, hM, hmg⟩ := hmp (hd 0 (by decide))
      obtain ⟨u56, u69, u74, u81, u86, u93, u98, u51, hh, es, ck, mm⟩ := g
      dsimp only at e51 eh hM hmg 
      subst e51 eh
      refine BS.one0 rfl (Eff.insert (c := 151) (k := (0, false, 4)) Tryd.underlying91 key94 rfl rfl rfl rfl (by assumption)) ?_
      rintro _ _ ⟨es2, ck2, hM2, rfl⟩
      exact ⟨⟨u56, u69, u74, u81, u86, u93, u98, _, _, es2, ck2, _⟩, ⟨h6, h23, h29, h38, h44, h53, h59, fun _ => hd 0 (by decide), fun _ => ⟨b51, rfl, rfl, hM2, fun q v => ins_step hmg (by first | (simp [actD, bput_self, bput_ne]; done) | (simp [actD, bput_self, bput_ne]; exact Iff.rfl)) (fun hq => by simp [actD, bput_self, bput_ne, hq])⟩⟩, (.cons rfl (.cons rfl (.cons rfl (.cons rfl (.cons rfl (.cons rfl (.cons rfl (.cons rfl .nil)))))))), (.cons rfl (.cons rfl (.cons rfl (.cons rfl (.cons rfl (.cons rfl (.cons rfl (.cons rfl (.cons rfl (.cons rfl (.cons rfl (.cons rfl (.cons rfl (.cons rfl (.cons rfl (.cons rfl (.cons rfl (.cons rfl (.cons rfl (.cons rfl (.cons rfl (.cons rfl (.cons rfl (.cons rfl (.cons rfl (.cons rfl (.cons rfl (.cons rfl (.cons rfl (.cons rfl (.cons rfl (.cons rfl (.cons rfl (.cons rfl (.cons rfl (.cons rfl (.cons rfl (.cons rfl (.cons rfl (.cons rfl (.cons rfl (.cons rfl (.cons rfl (.cons rfl (.cons rfl (.cons rfl (.cons rfl (.cons rfl .nil)))))))))))))))))))))))))))))))))))))))))))))))), (.cons rfl .nil), (.cons rfl (.cons rfl (.cons rfl (.cons rfl (.cons rfl (.cons rfl (.cons rfl .nil)))))))⟩
    refine bagCons ?_ ?_
    ·
      rintro D g ⟨h6, h23, h29, h38, h44, h53, h59, hz, hmp⟩ hD hd
      refine BS.keep (σ' := _) (L' := _) (.cons (k := 51) rfl (.cons (k := 56) rfl (.cons (k := 69) rfl (.cons (k := 74) rfl (.cons (k := 81) rfl (.cons (k := 86) rfl (.cons (k := 93) rfl (.cons (k := 98) rfl (.cons (k := 4) rfl (.cons (k := 5) rfl (.cons (k := 7) rfl (.cons (k := 8) rfl (.cons (k := 9) rfl (.cons (k := 10) rfl (.cons (k := 11) rfl (.cons (k := 12) rfl (.cons (k := 52) rfl (.cons (k := 53) rfl (.cons (k := 54) rfl (.cons (k := 55) rfl (.cons (k := 57) rfl (.cons (k := 58) rfl (.cons (k := 59) rfl (.cons (k := 60) rfl (.cons (k := 61) rfl (.cons (k := 62) rfl (.cons (k := 63) rfl (.cons (k := 64) rfl (.cons (k := 65) rfl (.cons (k := 66) rfl (.cons (k := 67) rfl (.cons (k := 68) rfl (.cons (k := 70) rfl (.cons (k := 71) rfl (.cons (k := 72) rfl (.cons (k := 73) rfl (.cons (k := 75) rfl (.cons (k := 76) rfl (.cons (k := 77) rfl (.cons (k := 78) rfl (.cons (k := 79) rfl (.cons (k := 80) rfl (.cons (k := 82) rfl (.cons (k := 83) rfl (.cons (k := 84) rfl (.cons (k := 85) rfl (.cons (k := 87) rfl (.cons (k := 88) rfl (.cons (k := 89) rfl (.cons (k := 90) rfl (.cons (k := 91) rfl (.cons (k := 92) rfl (.cons (k := 94) rfl (.cons (k := 95) rfl (.cons (k := 96) rfl (.cons (k := 97) rfl .nil)))))))))))))))))))))))))))))))))))))))))))))))))))))))) (.cons (k := 151) rfl (.cons (k := 0) rfl (.cons (k := 104) rfl (.cons (k := 105) rfl (.cons (k := 109) rfl (.cons (k := 110) rfl (.cons (k := 111) rfl (.cons (k := 112) rfl .nil)))))))) ?_
      obtain ⟨b51, e51, eh, hM, hmg⟩ := hmp (hd 0 (by decide))
      obtain ⟨u56, u69, u74, u81, u86, u93, u98, u51, hh, es, ck, mm⟩ := g
      dsimp only at e51 eh hM hmg 
      subst e51 eh
      refine BS.one0 rfl (Eff.insert (c := 151) (k := (0, false, 5)) Tryd.underlying91 key94 rfl rfl rfl rfl (by assumption)) ?_
      rintro _ _ ⟨es2, ck2, hM2, rfl⟩
      exact ⟨⟨u56, u69, u74, u81, u86, u93, u98, _, _, es2, ck2, _⟩, ⟨h6, h23, h29, h38, h44, h53, h59, fun _ => hd 0 (by decide), fun _ => ⟨b51, rfl, rfl, hM2, fun q v => ins_step hmg (by first | (simp [actD, bput_self, bput_ne]; done) | (simp [actD, bput_self, bput_ne]; exact Iff.rfl)) (fun hq => by simp [actD, bput_self, bput_ne, hq])⟩⟩, (.cons rfl (.cons rfl (.cons rfl (.cons rfl (.cons rfl (.cons rfl (.cons rfl (.cons rfl .nil)))))))), (.cons rfl (.cons rfl (.cons rfl (.cons rfl (.cons rfl (.cons rfl (.cons rfl (.cons rfl (.cons rfl (.cons rfl (.cons rfl (.cons rfl (.cons rfl (.cons rfl (.cons rfl (.cons rfl (.cons rfl (.cons rfl (.cons rfl (.cons rfl (.cons rfl (.cons rfl (.cons rfl (.cons rfl (.cons rfl (.cons rfl (.cons rfl (.cons rfl (.cons rfl (.cons rfl (.cons rfl (.cons rfl (.cons rfl (.cons rfl (.cons rfl (.cons rfl (.cons rfl (.cons rfl (.cons rfl (.cons rfl (.cons rfl (.cons rfl (.cons rfl (.cons rfl (.cons rfl (.cons rfl (.cons rfl (.cons rfl .nil)))))))))))))))))))))))))))))))))))))))))))))))), (.cons rfl .nil), (.cons rfl (.cons rfl (.cons rfl (.cons rfl (.cons rfl (.cons rfl (.cons rfl .nil)))))))⟩
    refine bagCons ?_ ?_
    ·
      rintro D g ⟨h6, h23, h29, h38, h44, h53, h59, hz, hmp⟩ hD hd
      refine BS.keep (σ' := _) (L' := _) (.cons (k := 51) rfl (.cons (k := 56) rfl (.cons (k := 69) rfl (.cons (k := 74) rfl (.cons (k := 81) rfl (.cons (k := 86) rfl (.cons (k := 93) rfl (.cons (k := 98) rfl (.cons (k := 4) rfl (.cons (k := 5) rfl (.cons (k := 7) rfl (.cons (k := 8) rfl (.cons (k := 9) rfl (.cons (k := 10) rfl (.cons (k := 11) rfl (.cons (k := 12) rfl (.cons (k := 52) rfl (.cons (k := 53) rfl (.cons (k := 54) rfl (.cons (k := 55) rfl (.cons (k := 57) rfl (.cons (k := 58) rfl (.cons (k := 59) rfl (.cons (k := 60) rfl (.cons (k := 61) rfl (.cons (k := 62) rfl (.cons (k := 63) rfl (.cons (k := 64) rfl (.cons (k := 65) rfl (.cons (k := 66) rfl (.cons (k := 67) rfl (.cons (k := 68) rfl (.cons (k := 70) rfl (.cons (k := 71) rfl (.cons (k := 72) rfl (.cons (k := 73) rfl (.cons (k := 75) rfl (.cons (k := 76) rfl (.cons (k := 77) rfl (.cons (k := 78) rfl (.cons (k := 79) rfl (.cons (k := 80) rfl (.cons (k := 82) rfl (.cons (k := 83) rfl (.cons (k := 84) rfl (.cons (k := 85) rfl (.cons (k := 87) rfl (.cons (k := 88) rfl (.cons (k := 89) rfl (.cons (k := 90) rfl (.cons (k := 91) rfl (.cons (k := 92) rfl (.cons (k := 94) rfl (.cons (k := 95) rfl (.cons (k := 96) rfl (.cons (k := 97) rfl .nil)))))))))))))))))))))))))))))))))))))))))))))))))))))))) (.cons (k := 151) rfl (.cons (k := 0) rfl (.cons (k := 104) rfl (.cons (k := 105) rfl (.cons (k := 109) rfl (.cons (k := 110) rfl (.cons (k := 111) rfl (.cons (k := 112) rfl .nil)))))))) ?_
      refine BS.one rfl (Eff.callV ent63 [104, 105] [104, 105] rfl (.cons rfl .nil) (adm_ct b4 b5 x y 1) rfl rfl rfl rfl (by rintro _ _ ⟨_, rfl⟩; rfl)) rfl ?_
      rintro _ _ ⟨_, ⟨rfl, rfl⟩, rfl⟩
      exact ⟨{ g with u69 := admV x y 1 }, ⟨h6, fun _ => rfl, h29, h38, h44, h53, h59, hz, hmp⟩, (.cons rfl (.cons rfl (.cons rfl (.cons rfl (.cons rfl (.cons rfl (.cons rfl (.cons rfl .nil)))))))), (.cons rfl (.cons rfl (.cons rfl (.cons rfl (.cons rfl (.cons rfl (.cons rfl (.cons rfl (.cons rfl (.cons rfl (.cons rfl (.cons rfl (.cons rfl (.cons rfl (.cons rfl (.cons rfl (.cons rfl (.cons rfl (.cons rfl (.cons rfl (.cons rfl (.cons rfl (.cons rfl (.cons rfl (.cons rfl (.cons rfl (.cons rfl (.cons rfl (.cons rfl (.cons rfl (.cons rfl (.cons rfl (.cons rfl (.cons rfl (.cons rfl (.cons rfl (.cons rfl (.cons rfl (.cons rfl (.cons rfl (.cons rfl (.cons rfl (.cons rfl (.cons rfl (.cons rfl (.cons rfl (.cons rfl (.cons rfl .nil)))))))))))))))))))))))))))))))))))))))))))))))), (.cons rfl .nil), (.cons rfl (.cons rfl (.cons rfl (.cons rfl (.cons rfl (.cons rfl (.cons rfl .nil)))))))⟩
    refine bagCons ?_ ?_
    ·
      rintro D g ⟨h6, h23, h29, h38, h44, h53, h59, hz, hmp⟩ hD hd
      refine BS.keep (σ' := _) (L' := _) (.cons (k := 51) rfl (.cons (k := 56) rfl (.cons (k := 69) rfl (.cons (k := 74) rfl (.cons (k := 81) rfl (.cons (k := 86) rfl (.cons (k := 93) rfl (.cons (k := 98) rfl (.cons (k := 4) rfl (.cons (k := 5) rfl (.cons (k := 7) rfl (.cons (k := 8) rfl (.cons (k := 9) rfl (.cons (k := 10) rfl (.cons (k := 11) rfl (.cons (k := 12) rfl (.cons (k := 52) rfl (.cons (k := 53) rfl (.cons (k := 54) rfl (.cons (k := 55) rfl (.cons (k := 57) rfl (.cons (k := 58) rfl (.cons (k := 59) rfl (.cons (k := 60) rfl (.cons (k := 61) rfl (.cons (k := 62) rfl (.cons (k := 63) rfl (.cons (k := 64) rfl (.cons (k := 65) rfl (.cons (k := 66) rfl (.cons (k := 67) rfl (.cons (k := 68) rfl (.cons (k := 70) rfl (.cons (k := 71) rfl (.cons (k := 72) rfl (.cons (k := 73) rfl (.cons (k := 75) rfl (.cons (k := 76) rfl (.cons (k := 77) rfl (.cons (k := 78) rfl (.cons (k := 79) rfl (.cons (k := 80) rfl (.cons (k := 82) rfl (.cons (k := 83) rfl (.cons (k := 84) rfl (.cons (k := 85) rfl (.cons (k := 87) rfl (.cons (k := 88) rfl (.cons (k := 89) rfl (.cons (k := 90) rfl (.cons (k := 91) rfl (.cons (k := 92) rfl (.cons (k := 94) rfl (.cons (k := 95) rfl (.cons (k := 96) rfl (.cons (k := 97) rfl .nil)))))))))))))))))))))))))))))))))))))))))))))))))))))))) (.cons (k := 151) rfl (.cons (k := 0) rfl (.cons (k := 104) rfl (.cons (k := 105) rfl (.cons (k := 109) rfl (.cons (k := 110) rfl (.cons (k := 111) rfl (.cons (k := 112) rfl .nil)))))))) ?_
      obtain ⟨b51, e51, eh, hM, hmg⟩ := hmp (hd 0 (by decide))
      have e23 := h23 (hd 23 (by decide))
      obtain ⟨u56, u69, u74, u81, u86, u93, u98, u51, hh, es, ck, mm⟩ := g
      dsimp only at e51 eh hM hmg e23
      subst e51 eh e23
      refine BS.one0 rfl (Eff.insert (c := 151) (k := (0, false, 11)) Tryd.underlying91 key94 rfl rfl rfl rfl (by assumption)) ?_
      rintro _ _ ⟨es2, ck2, hM2, rfl⟩
      exact ⟨⟨u56, _, u74, u81, u86, u93, u98, _, _, es2, ck2, _⟩, ⟨h6, h23, h29, h38, h44, h53, h59, fun _ => hd 0 (by decide), fun _ => ⟨b51, rfl, rfl, hM2, fun q v => ins_step hmg (by first | (simp [actD, bput_self, bput_ne]; done) | (simp [actD, bput_self, bput_ne]; exact Iff.rfl)) (fun hq => by simp [actD, bput_self, bput_ne, hq])⟩⟩, (.cons rfl (.cons rfl (.cons rfl (.cons rfl (.cons rfl (.cons rfl (.cons rfl (.cons rfl .nil)))))))), (.cons rfl (.cons rfl (.cons rfl (.cons rfl (.cons rfl (.cons rfl (.cons rfl (.cons rfl (.cons rfl (.cons rfl (.cons rfl (.cons rfl (.cons rfl (.cons rfl (.cons rfl (.cons rfl (.cons rfl (.cons rfl (.cons rfl (.cons rfl (.cons rfl (.cons rfl (.cons rfl (.cons rfl (.cons rfl (.cons rfl (.cons rfl (.cons rfl (.cons rfl (.cons rfl (.cons rfl (.cons rfl (.cons rfl (.cons rfl (.cons rfl (.cons rfl (.cons rfl (.cons rfl (.cons rfl (.cons rfl (.cons rfl (.cons rfl (.cons rfl (.cons rfl (.cons rfl (.cons rfl (.cons rfl (.cons rfl .nil)))))))))))))))))))))))))))))))))))))))))))))))), (.cons rfl .nil), (.cons rfl (.cons rfl (.cons rfl (.cons rfl (.cons rfl (.cons rfl (.cons rfl .nil)))))))⟩
    refine bagCons ?_ ?_
    ·
      rintro D g ⟨h6, h23, h29, h38, h44, h53, h59, hz, hmp⟩ hD hd
      refine BS.keep (σ' := _) (L' := _) (.cons (k := 51) rfl (.cons (k := 56) rfl (.cons (k := 69) rfl (.cons (k := 74) rfl (.cons (k := 81) rfl (.cons (k := 86) rfl (.cons (k := 93) rfl (.cons (k := 98) rfl (.cons (k := 4) rfl (.cons (k := 5) rfl (.cons (k := 7) rfl (.cons (k := 8) rfl (.cons (k := 9) rfl (.cons (k := 10) rfl (.cons (k := 11) rfl (.cons (k := 12) rfl (.cons (k := 52) rfl (.cons (k := 53) rfl (.cons (k := 54) rfl (.cons (k := 55) rfl (.cons (k := 57) rfl (.cons (k := 58) rfl (.cons (k := 59) rfl (.cons (k := 60) rfl (.cons (k := 61) rfl (.cons (k := 62) rfl (.cons (k := 63) rfl (.cons (k := 64) rfl (.cons (k := 65) rfl (.cons (k := 66) rfl (.cons (k := 67) rfl (.cons (k := 68) rfl (.cons (k := 70) rfl (.cons (k := 71) rfl (.cons (k := 72) rfl (.cons (k := 73) rfl (.cons (k := 75) rfl (.cons (k := 76) rfl (.cons (k := 77) rfl (.cons (k := 78) rfl (.cons (k := 79) rfl (.cons (k := 80) rfl (.cons (k := 82) rfl (.cons (k := 83) rfl (.cons (k := 84) rfl (.cons (k := 85) rfl (.cons (k := 87) rfl (.cons (k := 88) rfl (.cons (k := 89) rfl (.cons (k := 90) rfl (.cons (k := 91) rfl (.cons (k := 92) rfl (.cons (k := 94) rfl (.cons (k := 95) rfl (.cons (k := 96) rfl (.cons (k := 97) rfl .nil)))))))))))))))))))))))))))))))))))))))))))))))))))))))) (.cons (k := 151) rfl (.cons (k := 0) rfl (.cons (k := 104) rfl (.cons (k := 105) rfl (.cons (k := 109) rfl (.cons (k := 110) rfl (.cons (k := 111) rfl (.cons (k := 112) rfl .nil)))))))) ?_
      refine BS.one rfl (Eff.callV ent62 [104] [104] rfl (.cons rfl (.cons rfl .nil)) (unit_ct b4 x x.f 4) rfl rfl rfl rfl (by rintro _ _ ⟨_, rfl⟩; rfl)) rfl ?_
      rintro _ _ ⟨_, ⟨rfl, rfl⟩, rfl⟩
      exact ⟨{ g with u74 := unitV x x.f 4 }, ⟨h6, h23, fun _ => rfl, h38, h44, h53, h59, hz, hmp⟩, (.cons rfl (.cons rfl (.cons rfl (.cons rfl (.cons rfl (.cons rfl (.cons rfl (.cons rfl .nil)))))))), (.cons rfl (.cons rfl (.cons rfl (.cons rfl (.cons rfl (.cons rfl (.cons rfl (.cons rfl (.cons rfl (.cons rfl (.cons rfl (.cons rfl (.cons rfl (.cons rfl (.cons rfl (.cons rfl (.cons rfl (.cons rfl (.cons rfl (.cons rfl (.cons rfl (.cons rfl (.cons rfl (.cons rfl (.cons rfl (.cons rfl (.cons rfl (.cons rfl (.cons rfl (.cons rfl (.cons rfl (.cons rfl (.cons rfl (.cons rfl (.cons rfl (.cons rfl (.cons rfl (.cons rfl (.cons rfl (.cons rfl (.cons rfl (.cons rfl (.cons rfl (.cons rfl (.cons rfl (.cons rfl (.cons rfl (.cons rfl .nil)))))))))))))))))))))))))))))))))))))))))))))))), (.cons rfl .nil), (.cons rfl (.cons rfl (.cons rfl (.cons rfl (.cons rfl (.cons rfl (.cons rfl .nil)))))))⟩
    refine bagCons ?_ ?_
    ·
      rintro D g ⟨h6, h23, h29, h38, h44, h53, h59, hz, hmp⟩ hD hd
      refine BS.keep (σ' := _) (L' := _) (.cons (k := 51) rfl (.cons (k := 56) rfl (.cons (k := 69) rfl (.cons (k := 74) rfl (.cons (k := 81) rfl (.cons (k := 86) rfl (.cons (k := 93) rfl (.cons (k := 98) rfl (.cons (k := 4) rfl (.cons (k := 5) rfl (.cons (k := 7) rfl (.cons (k := 8) rfl (.cons (k := 9) rfl (.cons (k := 10) rfl (.cons (k := 11) rfl (.cons (k := 12) rfl (.cons (k := 52) rfl (.cons (k := 53) rfl (.cons (k := 54) rfl (.cons (k := 55) rfl (.cons (k := 57) rfl (.cons (k := 58) rfl (.cons (k := 59) rfl (.cons (k := 60) rfl (.cons (k := 61) rfl (.cons (k := 62) rfl (.cons (k := 63) rfl (.cons (k := 64) rfl (.cons (k := 65) rfl (.cons (k := 66) rfl (.cons (k := 67) rfl (.cons (k := 68) rfl (.cons (k := 70) rfl (.cons (k := 71) rfl (.cons (k := 72) rfl (.cons (k := 73) rfl (.cons (k := 75) rfl (.cons (k := 76) rfl (.cons (k := 77) rfl (.cons (k := 78) rfl (.cons (k := 79) rfl (.cons (k := 80) rfl (.cons (k := 82) rfl (.cons (k := 83) rfl (.cons (k := 84) rfl (.cons (k := 85) rfl (.cons (k := 87) rfl (.cons (k := 88) rfl (.cons (k := 89) rfl (.cons (k := 90) rfl (.cons (k := 91) rfl (.cons (k := 92) rfl (.cons (k := 94) rfl (.cons (k := 95) rfl (.cons (k := 96) rfl (.cons (k := 97) rfl .nil)))))))))))))))))))))))))))))))))))))))))))))))))))))))) (.cons (k := 151) rfl (.cons (k := 0) rfl (.cons (k := 104) rfl (.cons (k := 105) rfl (.cons (k := 109) rfl (.cons (k := 110) rfl (.cons (k := 111) rfl (.cons (k := 112) rfl .nil)))))))) ?_
      obtain ⟨b51, e51, eh, hM, hmg⟩ := hmp (hd 0 (by decide))
      have e29 := h29 (hd 29 (by decide))
      obtain ⟨u56, u69, u74, u81, u86, u93, u98, u51, hh, es, ck, mm⟩ := g
      dsimp only at e51 eh hM hmg e29
      subst e51 eh e29
      refine BS.one0 rfl (Eff.insert (c := 151) (k := (2, false, 1)) Tryd.underlying91 key94 rfl rfl rfl rfl (by assumption)) ?_
      rintro _ _ ⟨es2, ck2, hM2, rfl⟩
      exact ⟨⟨u56, u69, _, u81, u86, u93, u98, _, _, es2, ck2, _⟩, ⟨h6, h23, h29, h38, h44, h53, h59, fun _ => hd 0 (by decide), fun _ => ⟨b51, rfl, rfl, hM2, fun q v => ins_step hmg (by first | (simp [actD, bput_self, bput_ne]; done) | (simp [actD, bput_self, bput_ne]; exact Iff.rfl)) (fun hq => by simp [actD, bput_self, bput_ne, hq])⟩⟩, (.cons rfl (.cons rfl (.cons rfl (.cons rfl (.cons rfl (.cons rfl (.cons rfl (.cons rfl .nil)))))))), (.cons rfl (.cons rfl (.cons rfl (.cons rfl (.cons rfl (.cons rfl (.cons rfl (.cons rfl (.cons rfl (.cons rfl (.cons rfl (.cons rfl (.cons rfl (.cons rfl (.cons rfl (.cons rfl (.cons rfl (.cons rfl (.cons rfl (.cons rfl (.cons rfl (.cons rfl (.cons rfl (.cons rfl (.cons rfl (.cons rfl (.cons rfl (.cons rfl (.cons rfl (.cons rfl (.cons rfl (.cons rfl (.cons rfl (.cons rfl (.cons rfl (.cons rfl (.cons rfl (.cons rfl (.cons rfl (.cons rfl (.cons rfl (.cons rfl (.cons rfl (.cons rfl (.cons rfl (.cons rfl (.cons rfl (.cons rfl .nil)))))))))))))))))))))))))))))))))))))))))))))))), (.cons rfl .nil), (.cons rfl (.cons rfl (.cons rfl (.cons rfl (.cons rfl (.cons rfl (.cons rfl .nil)))))))⟩
    refine bagCons ?_ ?_
    ·
      rintro D g ⟨h6, h23, h29, h38, h44, h53, h59, hz, hmp⟩ hD hd
      refine BS.keep (σ' := _) (L' := _) (.cons (k := 51) rfl (.cons (k := 56) rfl (.cons (k := 69) rfl (.cons (k := 74) rfl (.cons (k := 81) rfl (.cons (k := 86) rfl (.cons (k := 93) rfl (.cons (k := 98) rfl (.cons (k := 4) rfl (.cons (k := 5) rfl (.cons (k := 7) rfl (.cons (k := 8) rfl (.cons (k := 9) rfl (.cons (k := 10) rfl (.cons (k := 11) rfl (.cons (k := 12) rfl (.cons (k := 52) rfl (.cons (k := 53) rfl (.cons (k := 54) rfl (.cons (k := 55) rfl (.cons (k := 57) rfl (.cons (k := 58) rfl (.cons (k := 59) rfl (.cons (k := 60) rfl (.cons (k := 61) rfl (.cons (k := 62) rfl (.cons (k := 63) rfl (.cons (k := 64) rfl (.cons (k := 65) rfl (.cons (k := 66) rfl (.cons (k := 67) rfl (.cons (k := 68) rfl (.cons (k := 70) rfl (.cons (k := 71) rfl (.cons (k := 72) rfl (.cons (k := 73) rfl (.cons (k := 75) rfl (.cons (k := 76) rfl (.cons (k := 77) rfl (.cons (k := 78) rfl (.cons (k := 79) rfl (.cons (k := 80) rfl (.cons (k := 82) rfl (.cons (k := 83) rfl (.cons (k := 84) rfl (.cons (k := 85) rfl (.cons (k := 87) rfl (.cons (k := 88) rfl (.cons (k := 89) rfl (.cons (k := 90) rfl (.cons (k := 91) rfl (.cons (k := 92) rfl (.cons (k := 94) rfl (.cons (k := 95) rfl (.cons (k := 96) rfl (.cons (k := 97) rfl .nil)))))))))))))))))))))))))))))))))))))))))))))))))))))))) (.cons (k := 151) rfl (.cons (k := 0) rfl (.cons (k := 104) rfl (.cons (k := 105) rfl (.cons (k := 109) rfl (.cons (k := 110) rfl (.cons (k := 111) rfl (.cons (k := 112) rfl .nil)))))))) ?_
      obtain ⟨b51, e51, eh, hM, hmg⟩ := hmp (hd 0 (by decide))
      obtain ⟨u56, u69, u74, u81, u86, u93, u98, u51, hh, es, ck, mm⟩ := g
      dsimp only at e51 eh hM hmg 
      subst e51 eh
      refine BS.one0 rfl (Eff.insert (c := 151) (k := (2, false, 2)) Tryd.underlying91 key94 rfl rfl rfl rfl (by assumption)) ?_
      rintro _ _ ⟨es2, ck2, hM2, rfl⟩
      exact ⟨⟨u56, u69, u74, u81, u86, u93, u98, _, _, es2, ck2, _⟩, ⟨h6, h23, h29, h38, h44, h53, h59, fun _ => hd 0 (by decide), fun _ => ⟨b51, rfl, rfl, hM2, fun q v => ins_step hmg (by first | (simp [actD, bput_self, bput_ne]; done) | (simp [actD, bput_self, bput_ne]; exact Iff.rfl)) (fun hq => by simp [actD, bput_self, bput_ne, hq])⟩⟩, (.cons rfl (.cons rfl (.cons rfl (.cons rfl (.cons rfl (.cons rfl (.cons rfl (.cons rfl .nil)))))))), (.cons rfl (.cons rfl (.cons rfl (.cons rfl (.cons rfl (.cons rfl (.cons rfl (.cons rfl (.cons rfl (.cons rfl (.cons rfl (.cons rfl (.cons rfl (.cons rfl (.cons rfl (.cons rfl (.cons rfl (.cons rfl (.cons rfl (.cons rfl (.cons rfl (.cons rfl (.cons rfl (.cons rfl (.cons rfl (.cons rfl (.cons rfl (.cons rfl (.cons rfl (.cons rfl (.cons rfl (.cons rfl (.cons rfl (.cons rfl (.cons rfl (.cons rfl (.cons rfl (.cons rfl (.cons rfl (.cons rfl (.cons rfl (.cons rfl (.cons rfl (.cons rfl (.cons rfl (.cons rfl (.cons rfl (.cons rfl .nil)))))))))))))))))))))))))))))))))))))))))))))))), (.cons rfl .nil), (.cons rfl (.cons rfl (.cons rfl (.cons rfl (.cons rfl (.cons rfl (.cons rfl .nil)))))))⟩
    refine bagCons ?_ ?_
    ·
      rintro D g ⟨h6, h23, h29, h38, h44, h53, h59, hz, hmp⟩ hD hd
      refine BS.keep (σ' := _) (L' := _) (.cons (k := 51) rfl (.cons (k := 56) rfl (.cons (k := 69) rfl (.cons (k := 74) rfl (.cons (k := 81) rfl (.cons (k := 86) rfl (.cons (k := 93) rfl (.cons (k := 98) rfl (.cons (k := 4) rfl (.cons (k := 5) rfl (.cons (k := 7) rfl (.cons (k := 8) rfl (.cons (k := 9) rfl (.cons (k := 10) rfl (.cons (k := 11) rfl (.cons (k := 12) rfl (.cons (k := 52) rfl (.cons (k := 53) rfl (.cons (k := 54) rfl (.cons (k := 55) rfl (.cons (k := 57) rfl (.cons (k := 58) rfl (.cons (k := 59) rfl (.cons (k := 60) rfl (.cons (k := 61) rfl (.cons (k := 62) rfl (.cons (k := 63) rfl (.cons (k := 64) rfl (.cons (k := 65) rfl (.cons (k := 66) rfl (.cons (k := 67) rfl (.cons (k := 68) rfl (.cons (k := 70) rfl (.cons (k := 71) rfl (.cons (k := 72) rfl (.cons (k := 73) rfl (.cons (k := 75) rfl (.cons (k := 76) rfl (.cons (k := 77) rfl (.cons (k := 78) rfl (.cons (k := 79) rfl (.cons (k := 80) rfl (.cons (k := 82) rfl (.cons (k := 83) rfl (.cons (k := 84) rfl (.cons (k := 85) rfl (.cons (k := 87) rfl (.cons (k := 88) rfl (.cons (k := 89) rfl (.cons (k := 90) rfl (.cons (k := 91) rfl (.cons (k := 92) rfl (.cons (k := 94) rfl (.cons (k := 95) rfl (.cons (k := 96) rfl (.cons (k := 97) rfl .nil)))))))))))))))))))))))))))))))))))))))))))))))))))))))) (.cons (k := 151) rfl (.cons (k := 0) rfl (.cons (k := 104) rfl (.cons (k := 105) rfl (.cons (k := 109) rfl (.cons (k := 110) rfl (.cons (k := 111) rfl (.cons (k := 112) rfl .nil)))))))) ?_
      refine BS.one rfl (Eff.callV ent62 [104] [104] rfl (.cons rfl (.cons rfl .nil)) (unit_ct b4 x x.f 5) rfl rfl rfl rfl (by rintro _ _ ⟨_, rfl⟩; rfl)) rfl ?_
      rintro _ _ ⟨_, ⟨rfl, rfl⟩, rfl⟩
      exact ⟨{ g with u81 := unitV x x.f 5 }, ⟨h6, h23, h29, fun _ => rfl, h44, h53, h59, hz, hmp⟩, (.cons rfl (.cons rfl (.cons rfl (.cons rfl (.cons rfl (.cons rfl (.cons rfl (.cons rfl .nil)))))))), (.cons rfl (.cons rfl (.cons rfl (.cons rfl (.cons rfl (.cons rfl (.cons rfl (.cons rfl (.cons rfl (.cons rfl (.cons rfl (.cons rfl (.cons rfl (.cons rfl (.cons rfl (.cons rfl (.cons rfl (.cons rfl (.cons rfl (.cons rfl (.cons rfl (.cons rfl (.cons rfl (.cons rfl (.cons rfl (.cons rfl (.cons rfl (.cons rfl (.cons rfl (.cons rfl (.cons rfl (.cons rfl (.cons rfl (.cons rfl (.cons rfl (.cons rfl (.cons rfl (.cons rfl (.cons rfl (.cons rfl (.cons rfl (.cons rfl (.cons rfl (.cons rfl (.cons rfl (.cons rfl (.cons rfl (.cons rfl .nil)))))))))))))))))))))))))))))))))))))))))))))))), (.cons rfl .nil), (.cons rfl (.cons rfl (.cons rfl (.cons rfl (.cons rfl (.cons rfl (.cons rfl .nil)))))))⟩
    refine bagCons ?_ ?_
    ·
      rintro D g ⟨h6, h23, h29, h38, h44, h53, h59, hz, hmp⟩ hD hd
      refine BS.keep (σ' := _) (L' := _) (.cons (k := 51) rfl (.cons (k := 56) rfl (.cons (k := 69) rfl (.cons (k := 74) rfl (.cons (k := 81) rfl (.cons (k := 86) rfl (.cons (k := 93) rfl (.cons (k := 98) rfl (.cons (k := 4) rfl (.cons (k := 5) rfl (.cons (k := 7) rfl (.cons (k := 8) rfl (.cons (k := 9) rfl (.cons (k := 10) rfl (.cons (k := 11) rfl (.cons (k := 12) rfl (.cons (k := 52) rfl (.cons (k := 53) rfl (.cons (k := 54) rfl (.cons (k := 55) rfl (.cons (k := 57) rfl (.cons (k := 58) rfl (.cons (k := 59) rfl (.cons (k := 60) rfl (.cons (k := 61) rfl (.cons (k := 62) rfl (.cons (k := 63) rfl (.cons (k := 64) rfl (.cons (k := 65) rfl (.cons (k := 66) rfl (.cons (k := 67) rfl (.cons (k := 68) rfl (.cons (k := 70) rfl (.cons (k := 71) rfl (.cons (k := 72) rfl (.cons (k := 73) rfl (.cons (k := 75) rfl (.cons (k := 76) rfl (.cons (k := 77) rfl (.cons (k := 78) rfl (.cons (k := 79) rfl (.cons (k := 80) rfl (.cons (k := 82) rfl (.cons (k := 83) rfl (.cons (k := 84) rfl (.cons (k := 85) rfl (.cons (k := 87) rfl (.cons (k := 88) rfl (.cons (k := 89) rfl (.cons (k := 90) rfl (.cons (k := 91) rfl (.cons (k := 92) rfl (.cons (k := 94) rfl (.cons (k := 95) rfl (.cons (k := 96) rfl (.cons (k := 97) rfl .nil)))))))))))))))))))))))))))))))))))))))))))))))))))))))) (.cons (k := 151) rfl (.cons (k := 0) rfl (.cons (k := 104) rfl (.cons (k := 105) rfl (.cons (k := 109) rfl (.cons (k := 110) rfl (.cons (k := 111) rfl (.cons (k := 112) rfl .nil)))))))) ?_
      obtain ⟨b51, e51, eh, hM, hmg⟩ := hmp (hd 0 (by decide))
      have e38 := h38 (hd 38 (by decide))
      obtain ⟨u56, u69, u74, u81, u86, u93, u98, u51, hh, es, ck, mm⟩ := g
      dsimp only at e51 eh hM hmg e38
      subst e51 eh e38
      refine BS.one0 rfl (Eff.insert (c := 151) (k := (2, false, 3)) Tryd.underlying91 key94 rfl rfl rfl rfl (by assumption)) ?_
      rintro _ _ ⟨es2, ck2, hM2, rfl⟩
      exact ⟨⟨u56, u69, u74, _, u86, u93, u98, _, _, es2, ck2, _⟩, ⟨h6, h23, h29, h38, h44, h53, h59, fun _ => hd 0 (by decide), fun _ => ⟨b51, rfl, rfl, hM2, fun q v => ins_step hmg (by first | (simp [actD, bput_self, bput_ne]; done) | (simp [actD, bput_self, bput_ne]; exact Iff.rfl)) (fun hq => by simp [actD, bput_self, bput_ne, hq])⟩⟩, (.cons rfl (.cons rfl (.cons rfl (.cons rfl (.cons rfl (.cons rfl (.cons rfl (.cons rfl .nil)))))))), (.cons rfl (.cons rfl (.cons rfl (.cons rfl (.cons rfl (.cons rfl (.cons rfl (.cons rfl (.cons rfl (.cons rfl (.cons rfl (.cons rfl (.cons rfl (.cons rfl (.cons rfl (.cons rfl (.cons rfl (.cons rfl (.cons rfl (.cons rfl (.cons rfl (.cons rfl (.cons rfl (.cons rfl (.cons rfl (.cons rfl (.cons rfl (.cons rfl (.cons rfl (.cons rfl (.cons rfl (.cons rfl (.cons rfl (.cons rfl (.cons rfl (.cons rfl (.cons rfl (.cons rfl (.cons rfl (.cons rfl (.cons rfl (.cons rfl (.cons rfl (.cons rfl (.cons rfl (.cons rfl (.cons rfl (.cons rfl .nil)))))))))))))))))))))))))))))))))))))))))))))))), (.cons rfl .nil), (.cons rfl (.cons rfl (.cons rfl (.cons rfl (.cons rfl (.cons rfl (.cons rfl .nil)))))))⟩
    refine bagCons ?_ ?_
    ·
      rintro D g ⟨h6, h23, h29, h38, h44, h53, h59, hz, hmp⟩ hD hd
      refine BS.keep (σ' := _) (L' := _) (.cons (k := 51) rfl (.cons (k := 56) rfl (.cons (k := 69) rfl (.cons (k := 74) rfl (.cons (k := 81) rfl (.cons (k := 86) rfl (.cons (k := 93) rfl (.cons (k := 98) rfl (.cons (k := 4) rfl (.cons (k := 5) rfl (.cons (k := 7) rfl (.cons (k := 8) rfl (.cons (k := 9) rfl (.cons (k := 10) rfl (.cons (k := 11) rfl (.cons (k := 12) rfl (.cons (k := 52) rfl (.cons (k := 53) rfl (.cons (k := 54) rfl (.cons (k := 55) rfl (.cons (k := 57) rfl (.cons (k := 58) rfl (.cons (k := 59) rfl (.cons (k := 60) rfl (.cons (k := 61) rfl (.cons (k := 62) rfl (.cons (k := 63) rfl (.cons (k := 64) rfl (.cons (k := 65) rfl (.cons (k := 66) rfl (.cons (k := 67) rfl (.cons (k := 68) rfl (.cons (k := 70) rfl (.cons (k := 71) rfl (.cons (k := 72) rfl (.cons (k := 73) rfl (.cons (k := 75) rfl (.cons (k := 76) rfl (.cons (k := 77) rfl (.cons (k := 78) rfl (.cons (k := 79) rfl (.cons (k := 80) rfl (.cons (k := 82) rfl (.cons (k := 83) rfl (.cons (k := 84) rfl (.cons (k := 85) rfl (.cons (k := 87) rfl (.cons (k := 88) rfl (.cons (k := 89) rfl (.cons (k := 90) rfl (.cons (k := 91) rfl (.cons (k := 92) rfl (.cons (k := 94) rfl (.cons (k := 95) rfl (.cons (k := 96) rfl (.cons (k := 97) rfl .nil)))))))))))))))))))))))))))))))))))))))))))))))))))))))) (.cons (k := 151) rfl (.cons (k := 0) rfl (.cons (k := 104) rfl (.cons (k := 105) rfl (.cons (k := 109) rfl (.cons (k := 110) rfl (.cons (k := 111) rfl (.cons (k := 112) rfl .nil)))))))) ?_
      refine BS.one rfl (Eff.callV ent62 [104] [104] rfl (.cons rfl (.cons rfl .nil)) (unit_ct b4 x x.f 2) rfl rfl rfl rfl (by rintro _ _ ⟨_, rfl⟩; rfl)) rfl ?_
      rintro _ _ ⟨_, ⟨rfl, rfl⟩, rfl⟩
      exact ⟨{ g with u86 := unitV x x.f 2 }, ⟨h6, h23, h29, h38, fun _ => rfl, h53, h59, hz, hmp⟩, (.cons rfl (.cons rfl (.cons rfl (.cons rfl (.cons rfl (.cons rfl (.cons rfl (.cons rfl .nil)))))))), (.cons rfl (.cons rfl (.cons rfl (.cons rfl (.cons rfl (.cons rfl (.cons rfl (.cons rfl (.cons rfl (.cons rfl (.cons rfl (.cons rfl (.cons rfl (.cons rfl (.cons rfl (.cons rfl (.cons rfl (.cons rfl (.cons rfl (.cons rfl (.cons rfl (.cons rfl (.cons rfl (.cons rfl (.cons rfl (.cons rfl (.cons rfl (.cons rfl (.cons rfl (.cons rfl (.cons rfl (.cons rfl (.cons rfl (.cons rfl (.cons rfl (.cons rfl (.cons rfl (.cons rfl (.cons rfl (.cons rfl (.cons rfl (.cons rfl (.cons rfl (.cons rfl (.cons rfl (.cons rfl (.cons rfl (.cons rfl .nil)))))))))))))))))))))))))))))))))))))))))))))))), (.cons rfl .nil), (.cons rfl (.cons rfl (.cons rfl (.cons rfl (.cons rfl (.cons rfl (.cons rfl .nil)))))))⟩
    refine bagCons ?_ ?_
    ·
      rintro D g ⟨h6, h23, h29, h38, h44, h53, h59, hz, hmp⟩ hD hd
      refine BS.keep (σ' := _) (L' := _) (.cons (k := 51) rfl (.cons (k := 56) rfl (.cons (k := 69) rfl (.cons (k := 74) rfl (.cons (k := 81) rfl (.cons (k := 86) rfl (.cons (k := 93) rfl (.cons (k := 98) rfl (.cons (k := 4) rfl (.cons (k := 5) rfl (.cons (k := 7) rfl (.cons (k := 8) rfl (.cons (k := 9) rfl (.cons (k := 10) rfl (.cons (k := 11) rfl (.cons (k := 12) rfl (.cons (k := 52) rfl (.cons (k := 53) rfl (.cons (k := 54) rfl (.cons (k := 55) rfl (.cons (k := 57) rfl (.cons (k := 58) rfl (.cons (k := 59) rfl (.cons (k := 60) rfl (.cons (k := 61) rfl (.cons (k := 62) rfl (.cons (k := 63) rfl (.cons (k := 64) rfl (.cons (k := 65) rfl (.cons (k := 66) rfl (.cons (k := 67) rfl (.cons (k := 68) rfl (.cons (k := 70) rfl (.cons (k := 71) rfl (.cons (k := 72) rfl (.cons (k := 73) rfl (.cons (k := 75) rfl (.cons (k := 76) rfl (.cons (k := 77) rfl (.cons (k := 78) rfl (.cons (k := 79) rfl (.cons (k := 80) rfl (.cons (k := 82) rfl (.cons (k := 83) rfl (.cons (k := 84) rfl (.cons (k := 85) rfl (.cons (k := 87) rfl (.cons (k := 88) rfl (.cons (k := 89) rfl (.cons (k := 90) rfl (.cons (k := 91) rfl (.cons (k := 92) rfl (.cons (k := 94) rfl (.cons (k := 95) rfl (.cons (k := 96) rfl (.cons (k := 97) rfl .nil)))))))))))))))))))))))))))))))))))))))))))))))))))))))) (.cons (k := 151) rfl (.cons (k := 0) rfl (.cons (k := 104) rfl (.cons (k := 105) rfl (.cons (k := 109) rfl (.cons (k := 110) rfl (.cons (k := 111) rfl (.cons (k := 112) rfl .nil)))))))) ?_
      obtain ⟨b51, e51, eh, hM, hmg⟩ := hmp (hd 0 (by decide))
      have e44 := h44 (hd 44 (by decide))
      obtain ⟨u56, u69, u74, u81, u86, u93, u98, u51, hh, es, ck, mm⟩ := g
      dsimp only at e51 eh hM hmg e44
      subst e51 eh e44
      refine BS.one0 rfl (Eff.insert (c := 151) (k := (2, false, 11)) Tryd.underlying91 key94 rfl rfl rfl rfl (by assumption)) ?_
      rintro _ _ ⟨es2, ck2, hM2, rfl⟩
      exact ⟨⟨u56, u69, u74, u81, _, u93, u98, _, _, es2, ck2, _⟩, ⟨h6, h23, h29, h38, h44, h53, h59, fun _ => hd 0 (by decide), fun _ => ⟨b51, rfl, rfl, hM2, fun q v => ins_step hmg (by first | (simp [actD, bput_self, bput_ne]; done) | (simp [actD, bput_self, bput_ne]; exact Iff.rfl)) (fun hq => by simp [actD, bput_self, bput_ne, hq])⟩⟩, (.cons rfl (.cons rfl (.cons rfl (.cons rfl (.cons rfl (.cons rfl (.cons rfl (.cons rfl .nil)))))))), (.cons rfl (.cons rfl (.cons rfl (.cons rfl (.cons rfl (.cons rfl (.cons rfl (.cons rfl (.cons rfl (.cons rfl (.cons rfl (.cons rfl (.cons rfl (.cons rfl (.cons rfl (.cons rfl (.cons rfl (.cons rfl (.cons rfl (.cons rfl (.cons rfl (.cons rfl (.cons rfl (.cons rfl (.cons rfl (.cons rfl (.cons rfl (.cons rfl (.cons rfl (.cons rfl (.cons rfl (.cons rfl (.cons rfl (.cons rfl (.cons rfl (.cons rfl (.cons rfl (.cons rfl (.cons rfl (.cons rfl (.cons rfl (.cons rfl (.cons rfl (.cons rfl (.cons rfl (.cons rfl (.cons rfl (.cons rfl .nil)))))))))))))))))))))))))))))))))))))))))))))))), (.cons rfl .nil), (.cons rfl (.cons rfl (.cons rfl (.cons rfl (.cons rfl (.cons rfl (.cons rfl .nil)))))))⟩
    refine bagCons ?_ ?_
    ·
      rintro D g ⟨h6, h23, h29, h38, h44, h53, h59, hz, hmp⟩ hD hd
      refine BS.keep (σ' := _) (L' := _) (.cons (k := 51) rfl (.cons (k := 56) rfl (.cons (k := 69) rfl (.cons (k := 74) rfl (.cons (k := 81) rfl (.cons (k := 86) rfl (.cons (k := 93) rfl (.cons (k := 98) rfl (.cons (k := 4) rfl (.cons (k := 5) rfl (.cons (k := 7) rfl (.cons (k := 8) rfl (.cons (k := 9) rfl (.cons (k := 10) rfl (.cons (k := 11) rfl (.cons (k := 12) rfl (.cons (k := 52) rfl (.cons (k := 53) rfl (.cons (k := 54) rfl (.cons (k := 55) rfl (.cons (k := 57) rfl (.cons (k := 58) rfl (.cons (k := 59) rfl (.cons (k := 60) rfl (.cons (k := 61) rfl (.cons (k := 62) rfl (.cons (k := 63) rfl (.cons (k := 64) rfl (.cons (k := 65) rfl (.cons (k := 66) rfl (.cons (k := 67) rfl (.cons (k := 68) rfl (.cons (k := 70) rfl (.cons (k := 71) rfl (.cons (k := 72) rfl (.cons (k := 73) rfl (.cons (k := 75) rfl (.cons (k := 76) rfl (.cons (k := 77) rfl (.cons (k := 78) rfl (.cons (k := 79) rfl (.cons (k := 80) rfl (.cons (k := 82) rfl (.cons (k := 83) rfl (.cons (k := 84) rfl (.cons (k := 85) rfl (.cons (k := 87) rfl (.cons (k := 88) rfl (.cons (k := 89) rfl (.cons (k := 90) rfl (.cons (k := 91) rfl (.cons (k := 92) rfl (.cons (k := 94) rfl (.cons (k := 95) rfl (.cons (k := 96) rfl (.cons (k := 97) rfl .nil)))))))))))))))))))))))))))))))))))))))))))))))))))))))) (.cons (k := 151) rfl (.cons (k := 0) rfl (.cons (k := 104) rfl (.cons (k := 105) rfl (.cons (k := 109) rfl (.cons (k := 110) rfl (.cons (k := 111) rfl (.cons (k := 112) rfl .nil)))))))) ?_
      obtain ⟨b51, e51, eh, hM, hmg⟩ := hmp (hd 0 (by decide))
      obtain ⟨u56, u69, u74, u81, u86, u93, u98, u51, hh, es, ck, mm⟩ := g
      dsimp only at e51 eh hM hmg 
      subst e51 eh
      refine BS.one0 rfl (Eff.insert (c := 151) (k := (1, true, 1)) Tryd.underlying91 key94 rfl rfl rfl rfl (by assumption)) ?_
      rintro _ _ ⟨es2, ck2, hM2, rfl⟩
      exact ⟨⟨u56, u69, u74, u81, u86, u93, u98, _, _, es2, ck2, _⟩, ⟨h6, h23, h29, h38, h44, h53, h59, fun _ => hd 0 (by decide), fun _ => ⟨b51, rfl, rfl, hM2, fun q v => ins_step hmg (by first | (simp [actD, bput_self, bput_ne]; done) | (simp [actD, bput_self, bput_ne]; exact Iff.rfl)) (fun hq => by simp [actD, bput_self, bput_ne, hq])⟩⟩, (.cons rfl (.cons rfl (.cons rfl (.cons rfl (.cons rfl (.cons rfl (.cons rfl (.cons rfl .nil)))))))), (.cons rfl (.cons rfl (.cons rfl (.cons rfl (.cons rfl (.cons rfl (.cons rfl (.cons rfl (.cons rfl (.cons rfl (.cons rfl (.cons rfl (.cons rfl (.cons rfl (.cons rfl (.cons rfl (.cons rfl (.cons rfl (.cons rfl (.cons rfl (.cons rfl (.cons rfl (.cons rfl (.cons rfl (.cons rfl (.cons rfl (.cons rfl (.cons rfl (.cons rfl (.cons rfl (.cons rfl (.cons rfl (.cons rfl (.cons rfl (.cons rfl (.cons rfl (.cons rfl (.cons rfl (.cons rfl (.cons rfl (.cons rfl (.cons rfl (.cons rfl (.cons rfl (.cons rfl (.cons rfl (.cons rfl (.cons rfl .nil)))))))))))))))))))))))))))))))))))))))))))))))), (.cons rfl .nil), (.cons rfl (.cons rfl (.cons rfl (.cons rfl (.cons rfl (.cons rfl (.cons rfl .nil)))))))⟩
    refine bagCons ?_ ?_
    ·
      rintro D g ⟨h6, h23, h29, h38, h44, h53, h59, hz, hmp⟩ hD hd
      refine BS.keep (σ' := _) (L' := _) (.cons (k := 51) rfl (.cons (k := 56) rfl (.cons (k := 69) rfl (.cons (k := 74) rfl (.cons (k := 81) rfl (.cons (k := 86) rfl (.cons (k := 93) rfl (.cons (k := 98) rfl (.cons (k := 4) rfl (.cons (k := 5) rfl (.cons (k := 7) rfl (.cons (k := 8) rfl (.cons (k := 9) rfl (.cons (k := 10) rfl (.cons (k := 11) rfl (.cons (k := 12) rfl (.cons (k := 52) rfl (.cons (k := 53) rfl (.cons (k := 54) rfl (.cons (k := 55) rfl (.cons (k := 57) rfl (.cons (k := 58) rfl (.cons (k := 59) rfl (.cons (k := 60) rfl (.cons (k := 61) rfl (.cons (k := 62) rfl (.cons (k := 63) rfl (.cons (k := 64) rfl (.cons (k := 65) rfl (.cons (k := 66) rfl (.cons (k := 67) rfl (.cons (k := 68) rfl (.cons (k := 70) rfl (.cons (k := 71) rfl (.cons (k := 72) rfl (.cons (k := 73) rfl (.cons (k := 75) rfl (.cons (k := 76) rfl (.cons (k := 77) rfl (.cons (k := 78) rfl (.cons (k := 79) rfl (.cons (k := 80) rfl (.cons (k := 82) rfl (.cons (k := 83) rfl (.cons (k := 84) rfl (.cons (k := 85) rfl (.cons (k := 87) rfl (.cons (k := 88) rfl (.cons (k := 89) rfl (.cons (k := 90) rfl (.cons (k := 91) rfl (.cons (k := 92) rfl (.cons (k := 94) rfl (.cons (k := 95) rfl (.cons (k := 96) rfl (.cons (k := 97) rfl .nil)))))))))))))))))))))))))))))))))))))))))))))))))))))))) (.cons (k := 151) rfl (.cons (k := 0) rfl (.cons (k := 104) rfl (.cons (k := 105) rfl (.cons (k := 109) rfl (.cons (k := 110) rfl (.cons (k := 111) rfl (.cons (k := 112) rfl .nil)))))))) ?_
      refine BS.one rfl (Eff.callV ent62 [104] [104] rfl (.cons rfl (.cons rfl .nil)) (unit_ct b4 x x.f 3) rfl rfl rfl rfl (by rintro _ _ ⟨_, rfl⟩; rfl)) rfl ?_
      rintro _ _ ⟨_, ⟨rfl, rfl⟩, rfl⟩
      exact ⟨{ g with u93 := unitV x x.f 3 }, ⟨h6, h23, h29, h38, h44, fun _ => rfl, h59, hz, hmp⟩, (.cons rfl (.cons rfl (.cons rfl (.cons rfl (.cons rfl (.cons rfl (.cons rfl (.cons rfl .nil)))))))), (.cons rfl (.cons rfl (.cons rfl (.cons rfl (.cons rfl (.cons rfl (.cons rfl (.cons rfl (.cons rfl (.cons rfl (.cons rfl (.cons rfl (.cons rfl (.cons rfl (.cons rfl (.cons rfl (.cons rfl (.cons rfl (.cons rfl (.cons rfl (.cons rfl (.cons rfl (.cons rfl (.cons rfl (.cons rfl (.cons rfl (.cons rfl (.cons rfl (.cons rfl (.cons rfl (.cons rfl (.cons rfl (.cons rfl (.cons rfl (.cons rfl (.cons rfl (.cons rfl (.cons rfl (.cons rfl (.cons rfl (.cons rfl (.cons rfl (.cons rfl (.cons rfl (.cons rfl (.cons rfl (.cons rfl (.cons rfl .nil)))))))))))))))))))))))))))))))))))))))))))))))), (.cons rfl .nil), (.cons rfl (.cons rfl (.cons rfl (.cons rfl (.cons rfl (.cons rfl (.cons rfl .nil)))))))⟩
    refine bagCons ?_ ?_
    ·
      rintro D g ⟨h6, h23, h29, h38, h44, h53, h59, hz, hmp⟩ hD hd
      refine BS.keep (σ' := _) (L' := _) (.cons (k := 51) rfl (.cons (k := 56) rfl (.cons (k := 69) rfl (.cons (k := 74) rfl (.cons (k := 81) rfl (.cons (k := 86) rfl (.cons (k := 93) rfl (.cons (k := 98) rfl (.cons (k := 4) rfl (.cons (k := 5) rfl (.cons (k := 7) rfl (.cons (k := 8) rfl (.cons (k := 9) rfl (.cons (k := 10) rfl (.cons (k := 11) rfl (.cons (k := 12) rfl (.cons (k := 52) rfl (.cons (k := 53) rfl (.cons (k := 54) rfl (.cons (k := 55) rfl (.cons (k := 57) rfl (.cons (k := 58) rfl (.cons (k := 59) rfl (.cons (k := 60) rfl (.cons (k := 61) rfl (.cons (k := 62) rfl (.cons (k := 63) rfl (.cons (k := 64) rfl (.cons (k := 65) rfl (.cons (k := 66) rfl (.cons (k := 67) rfl (.cons (k := 68) rfl (.cons (k := 70) rfl (.cons (k := 71) rfl (.cons (k := 72) rfl (.cons (k := 73) rfl (.cons (k := 75) rfl (.cons (k := 76) rfl (.cons (k := 77) rfl (.cons (k := 78) rfl (.cons (k := 79) rfl (.cons (k := 80) rfl (.cons (k := 82) rfl (.cons (k := 83) rfl (.cons (k := 84) rfl (.cons (k := 85) rfl (.cons (k := 87) rfl (.cons (k := 88) rfl (.cons (k := 89) rfl (.cons (k := 90) rfl (.cons (k := 91) rfl (.cons (k := 92) rfl (.cons (k := 94) rfl (.cons (k := 95) rfl (.cons (k := 96) rfl (.cons (k := 97) rfl .nil)))))))))))))))))))))))))))))))))))))))))))))))))))))))) (.cons (k := 151) rfl (.cons (k := 0) rfl (.cons (k := 104) rfl (.cons (k := 105) rfl (.cons (k := 109) rfl (.cons (k := 110) rfl (.cons (k := 111) rfl (.cons (k := 112) rfl .nil)))))))) ?_
      obtain ⟨b51, e51, eh, hM, hmg⟩ := hmp (hd 0 (by decide))
      have e53 := h53 (hd 53 (by decide))
      obtain ⟨u56, u69, u74, u81, u86, u93, u98, u51, hh, es, ck, mm⟩ := g
      dsimp only at e51 eh hM hmg e53
      subst e51 eh e53
      refine BS.one0 rfl (Eff.insert (c := 151) (k := (1, false, 1)) Tryd.underlying91 key94 rfl rfl rfl rfl (by assumption)) ?_
      rintro _ _ ⟨es2, ck2, hM2, rfl⟩
      exact ⟨⟨u56, u69, u74, u81, u86, _, u98, _, _, es2, ck2, _⟩, ⟨h6, h23, h29, h38, h44, h53, h59, fun _ => hd 0 (by decide), fun _ => ⟨b51, rfl, rfl, hM2, fun q v => ins_step hmg (by first | (simp [actD, bput_self, bput_ne]; done) | (simp [actD, bput_self, bput_ne]; exact Iff.rfl)) (fun hq => by simp [actD, bput_self, bput_ne, hq])⟩⟩, (.cons rfl (.cons rfl (.cons rfl (.cons rfl (.cons rfl (.cons rfl (.cons rfl (.cons rfl .nil)))))))), (.cons rfl (.cons rfl (.cons rfl (.cons rfl (.cons rfl (.cons rfl (.cons rfl (.cons rfl (.cons rfl (.cons rfl (.cons rfl (.cons rfl (.cons rfl (.cons rfl (.cons rfl (.cons rfl (.cons rfl (.cons rfl (.cons rfl (.cons rfl (.cons rfl (.cons rfl (.cons rfl (.cons rfl (.cons rfl (.cons rfl (.cons rfl (.cons rfl (.cons rfl (.cons rfl (.cons rfl (.cons rfl (.cons rfl (.cons rfl (.cons rfl (.cons rfl (.cons rfl (.cons rfl (.cons rfl (.cons rfl (.cons rfl (.cons rfl (.cons rfl (.cons rfl (.cons rfl (.cons rfl (.cons rfl (.cons rfl .nil)))))))))))))))))))))))))))))))))))))))))))))))), (.cons rfl .nil), (.cons rfl (.cons rfl (.cons rfl (.cons rfl (.cons rfl (.cons rfl (.cons rfl .nil)))))))⟩
    refine bagCons ?_ ?_
    ·
      rintro D g ⟨h6, h23, h29, h38, h44, h53, h59, hz, hmp⟩ hD hd
      refine BS.keep (σ' := _) (L' := _) (.cons (k := 51) rfl (.cons (k := 56) rfl (.cons (k := 69) rfl (.cons (k := 74) rfl (.cons (k := 81) rfl (.cons (k := 86) rfl (.cons (k := 93) rfl (.cons (k := 98) rfl (.cons (k := 4) rfl (.cons (k := 5) rfl (.cons (k := 7) rfl (.cons (k := 8) rfl (.cons (k := 9) rfl (.cons (k := 10) rfl (.cons (k := 11) rfl (.cons (k := 12) rfl (.cons (k := 52) rfl (.cons (k := 53) rfl (.cons (k := 54) rfl (.cons (k := 55) rfl (.cons (k := 57) rfl (.cons (k := 58) rfl (.cons (k := 59) rfl (.cons (k := 60) rfl (.cons (k := 61) rfl (.cons (k := 62) rfl (.cons (k := 63) rfl (.cons (k := 64) rfl (.cons (k := 65) rfl (.cons (k := 66) rfl (.cons (k := 67) rfl (.cons (k := 68) rfl (.cons (k := 70) rfl (.cons (k := 71) rfl (.cons (k := 72) rfl (.cons (k := 73) rfl (.cons (k := 75) rfl (.cons (k := 76) rfl (.cons (k := 77) rfl (.cons (k := 78) rfl (.cons (k := 79) rfl (.cons (k := 80) rfl (.cons (k := 82) rfl (.cons (k := 83) rfl (.cons (k := 84) rfl (.cons (k := 85) rfl (.cons (k := 87) rfl (.cons (k := 88) rfl (.cons (k := 89) rfl (.cons (k := 90) rfl (.cons (k := 91) rfl (.cons (k := 92) rfl (.cons (k := 94) rfl (.cons (k := 95) rfl (.cons (k := 96) rfl (.cons (k := 97) rfl .nil)))))))))))))))))))))))))))))))))))))))))))))))))))))))) (.cons (k := 151) rfl (.cons (k := 0) rfl (.cons (k := 104) rfl (.cons (k := 105) rfl (.cons (k := 109) rfl (.cons (k := 110) rfl (.cons (k := 111) rfl (.cons (k := 112) rfl .nil)))))))) ?_
      refine BS.one rfl (Eff.callV ent62 [104] [104] rfl (.cons rfl (.cons rfl .nil)) (unit_ct b4 x x.f 5) rfl rfl rfl rfl (by rintro _ _ ⟨_, rfl⟩; rfl)) rfl ?_
      rintro _ _ ⟨_, ⟨rfl, rfl⟩, rfl⟩
      exact ⟨{ g with u98 := unitV x x.f 5 }, ⟨h6, h23, h29, h38, h44, h53, fun _ => rfl, hz, hmp⟩, (.cons rfl (.cons rfl (.cons rfl (.cons rfl (.cons rfl (.cons rfl (.cons rfl (.cons rfl .nil)))))))), (.cons rfl (.cons rfl (.cons rfl (.cons rfl (.cons rfl (.cons rfl (.cons rfl (.cons rfl (.cons rfl (.cons rfl (.cons rfl (.cons rfl (.cons rfl (.cons rfl (.cons rfl (.cons rfl (.cons rfl (.cons rfl (.cons rfl (.cons rfl (.cons rfl (.cons rfl (.cons rfl (.cons rfl (.cons rfl (.cons rfl (.cons rfl (.cons rfl (.cons rfl (.cons rfl (.cons rfl (.cons rfl (.cons rfl (.cons rfl (.cons rfl (.cons rfl (.cons rfl (.cons rfl (.cons rfl (.cons rfl (.cons rfl (.cons rfl (.cons rfl (.cons rfl (.cons rfl (.cons rfl (.cons rfl (.cons rfl .nil)))))))))))))))))))))))))))))))))))))))))))))))), (.cons rfl .nil), (.cons rfl (.cons rfl (.cons rfl (.cons rfl (.cons rfl (.cons rfl (.cons rfl .nil)))))))⟩
    refine bagCons ?_ ?_
    ·
      rintro D g ⟨h6, h23, h29, h38, h44, h53, h59, hz, hmp⟩ hD hd
      refine BS.keep (σ' := _) (L' := _) (.cons (k := 51) rfl (.cons (k := 56) rfl (.cons (k := 69) rfl (.cons (k := 74) rfl (.cons (k := 81) rfl (.cons (k := 86) rfl (.cons (k := 93) rfl (.cons (k := 98) rfl (.cons (k := 4) rfl (.cons (k := 5) rfl (.cons (k := 7) rfl (.cons (k := 8) rfl (.cons (k := 9) rfl (.cons (k := 10) rfl (.cons (k := 11) rfl (.cons (k := 12) rfl (.cons (k := 52) rfl (.cons (k := 53) rfl (.cons (k := 54) rfl (.cons (k := 55) rfl (.cons (k := 57) rfl (.cons (k := 58) rfl (.cons (k := 59) rfl (.cons (k := 60) rfl (.cons (k := 61) rfl (.cons (k := 62) rfl (.cons (k := 63) rfl (.cons (k := 64) rfl (.cons (k := 65) rfl (.cons (k := 66) rfl (.cons (k := 67) rfl (.cons (k := 68) rfl (.cons (k := 70) rfl (.cons (k := 71) rfl (.cons (k := 72) rfl (.cons (k := 73) rfl (.cons (k := 75) rfl (.cons (k := 76) rfl (.cons (k := 77) rfl (.cons (k := 78) rfl (.cons (k := 79) rfl (.cons (k := 80) rfl (.cons (k := 82) rfl (.cons (k := 83) rfl (.cons (k := 84) rfl (.cons (k := 85) rfl (.cons (k := 87) rfl (.cons (k := 88) rfl (.cons (k := 89) rfl (.cons (k := 90) rfl (.cons (k := 91) rfl (.cons (k := 92) rfl (.cons (k := 94) rfl (.cons (k := 95) rfl (.cons (k := 96) rfl (.cons (k := 97) rfl .nil)))))))))))))))))))))))))))))))))))))))))))))))))))))))) (.cons (k := 151) rfl (.cons (k := 0) rfl (.cons (k := 104) rfl (.cons (k := 105) rfl (.cons (k := 109) rfl (.cons (k := 110) rfl (.cons (k := 111) rfl (.cons (k := 112) rfl .nil)))))))) ?_
      obtain ⟨b51, e51, eh, hM, hmg⟩ := hmp (hd 0 (by decide))
      have e59 := h59 (hd 59 (by decide))
      obtain ⟨u56, u69, u74, u81, u86, u93, u98, u51, hh, es, ck, mm⟩ := g
      dsimp only at e51 eh hM hmg e59
      subst e51 eh e59
      refine BS.one0 rfl (Eff.insert (c := 151) (k := (1, false, 2)) Tryd.underlying91 key94 rfl rfl rfl rfl (by assumption)) ?_
      rintro _ _ ⟨es2, ck2, hM2, rfl⟩
      exact ⟨⟨u56, u69, u74, u81, u86, u93, _, _, _, es2, ck2, _⟩, ⟨h6, h23, h29, h38, h44, h53, h59, fun _ => hd 0 (by decide), fun _ => ⟨b51, rfl, rfl, hM2, fun q v => ins_step hmg (by first | (simp [actD, bput_self, bput_ne]; done) | (simp [actD, bput_self, bput_ne]; exact Iff.rfl)) (fun hq => by simp [actD, bput_self, bput_ne, hq])⟩⟩, (.cons rfl (.cons rfl (.cons rfl (.cons rfl (.cons rfl (.cons rfl (.cons rfl (.cons rfl .nil)))))))), (.cons rfl (.cons rfl (.cons rfl (.cons rfl (.cons rfl (.cons rfl (.cons rfl (.cons rfl (.cons rfl (.cons rfl (.cons rfl (.cons rfl (.cons rfl (.cons rfl (.cons rfl (.cons rfl (.cons rfl (.cons rfl (.cons rfl (.cons rfl (.cons rfl (.cons rfl (.cons rfl (.cons rfl (.cons rfl (.cons rfl (.cons rfl (.cons rfl (.cons rfl (.cons rfl (.cons rfl (.cons rfl (.cons rfl (.cons rfl (.cons rfl (.cons rfl (.cons rfl (.cons rfl (.cons rfl (.cons rfl (.cons rfl (.cons rfl (.cons rfl (.cons rfl (.cons rfl (.cons rfl (.cons rfl (.cons rfl .nil)))))))))))))))))))))))))))))))))))))))))))))))), (.cons rfl .nil), (.cons rfl (.cons rfl (.cons rfl (.cons rfl (.cons rfl (.cons rfl (.cons rfl .nil)))))))⟩
    exact bagNil
  rintro D ⟨u56, u69, u74, u81, u86, u93, u98, u51, hh, es, ck, mm⟩ ⟨h6, h23, h29, h38, h44, h53, h59, hz, hmp⟩ hall
  have hallM : ∀ i : Nat, i ∈ List.map (·.1) ([(0, []), (3, [0]), (6, []), (7, [0, 6]), (14, [0]), (17, [0]), (20, [0]), (23, [6]), (24, [0, 23]), (29, [23]), (30, [0, 29]), (33, [0]), (38, [29]), (39, [0, 38]), (44, [38]), (45, [0, 44]), (48, [0]), (53, [44]), (54, [0, 53]), (59, [53]), (60, [0, 59])] : List (Nat × List Nat)) → D i = true := fun i hi => by
    obtain ⟨t, ht, rfl⟩ := List.mem_map.1 hi
    exact hall t ht
  obtain rfl : u56 = admV x y 0 := h6 (hallM 6 (by decide))
  obtain rfl : u69 = admV x y 1 := h23 (hallM 23 (by decide))
  obtain rfl : u74 = unitV x x.f 4 := h29 (hallM 29 (by decide))
  obtain rfl : u81 = unitV x x.f 5 := h38 (hallM 38 (by decide))
  obtain rfl : u86 = unitV x x.f 2 := h44 (hallM 44 (by decide))
  obtain rfl : u93 = unitV x x.f 3 := h53 (hallM 53 (by decide))
  obtain rfl : u98 = unitV x x.f 5 := h59 (hallM 59 (by decide))
  obtain ⟨b51, rfl, rfl, hM, hmg⟩ : ∃ b, u51 = .map (some b) ∧ hh = single b (.map es ck) ∧ MapP (enc3 .i64) es ck mm ∧ ∀ q v, mget mm q = some v ↔ actD D x y s q v := hmp (hallM 0 (by decide))
  have hmg2 : ∀ q v, mget mm q = some v ↔ actD (fun _ => true) x y s q v := fun q v => by
    rw [hmg q v]; unfold actD; rw [hallM 3 (by decide), hallM 7 (by decide), hallM 14 (by decide), hallM 17 (by decide), hallM 20 (by decide), hallM 24 (by decide), hallM 30 (by decide), hallM 33 (by decide), hallM 39 (by decide), hallM 45 (by decide), hallM 48 (by decide), hallM 54 (by decide), hallM 60 (by decide)]
  refine DL.keep (σ' := _) (L' := _) (.cons (k := 51) rfl (.cons (k := 56) rfl (.cons (k := 69) rfl (.cons (k := 74) rfl (.cons (k := 81) rfl (.cons (k := 86) rfl (.cons (k := 93) rfl (.cons (k := 98) rfl (.cons (k := 4) rfl (.cons (k := 5) rfl (.cons (k := 7) rfl (.cons (k := 8) rfl (.cons (k := 9) rfl (.cons (k := 10) rfl (.cons (k := 11) rfl (.cons (k := 12) rfl (.cons (k := 52) rfl (.cons (k := 53) rfl (.cons (k := 54) rfl (.cons (k := 55) rfl (.cons (k := 57) rfl (.cons (k := 58) rfl (.cons (k := 59) rfl (.cons (k := 60) rfl (.cons (k := 61) rfl (.cons (k := 62) rfl (.cons (k := 63) rfl (.cons (k := 64) rfl (.cons (k := 65) rfl (.cons (k := 66) rfl (.cons (k := 67) rfl (.cons (k := 68) rfl (.cons (k := 70) rfl (.cons (k := 71) rfl (.cons (k := 72) rfl (.cons (k := 73) rfl (.cons (k := 75) rfl (.cons (k := 76) rfl (.cons (k := 77) rfl (.cons (k := 78) rfl (.cons (k := 79) rfl (.cons (k := 80) rfl (.cons (k := 82) rfl (.cons (k := 83) rfl (.cons (k := 84) rfl (.cons (k := 85) rfl (.cons (k := 87) rfl (.cons (k := 88) rfl (.cons (k := 89) rfl (.cons (k := 90) rfl (.cons (k := 91) rfl (.cons (k := 92) rfl (.cons (k := 94) rfl (.cons (k := 95) rfl (.cons (k := 96) rfl (.cons (k := 97) rfl .nil)))))))))))))))))))))))))))))))))))))))))))))))))))))))) (.cons (k := 151) rfl (.cons (k := 0) rfl (.cons (k := 104) rfl (.cons (k := 105) rfl (.cons (k := 109) rfl (.cons (k := 110) rfl (.cons (k := 111) rfl (.cons (k := 112) rfl .nil)))))))) ?_
  refine DL.q rfl (Yld.move rfl) rfl ?_
  refine DL.q rfl (Yld.assign rfl) rfl ?_
  refine DL.done ?_
  refine N.next ?_
  refine W.keep (.cons (k := 6) rfl .nil) (.cons (k := 0) rfl (.cons (k := 104) rfl (.cons (k := 105) rfl (.cons (k := 109) rfl (.cons (k := 110) rfl (.cons (k := 111) rfl (.cons (k := 112) rfl (.cons (k := 151) rfl .nil)))))))) ?_
  refine W.ret ?_
  exact N.retBy [151] (.cons (.tmp rfl) .nil) rfl rfl rfl rfl ⟨b51, es, ck, mm, rfl, hM, by rw [← hs]; exact hmg2, rfl⟩

end Go.Proofs.YtdblglgnhjankaaDoor
