/- Walks of package exoduslaw56. Written by program (walk.py). -/
import Derived.Test.YtbgppnkccbhbpaaDoorH5
namespace Go.Proofs.YtbgppnkccbhbpaaDoor
open SL HistLaw
set_option linter.unusedVariables false
set_option linter.unusedSimpArgs false
theorem ent33 : Ent Tryd.prog 33 := ⟨_, _, Tryd.func33, by kernel_rfl, rfl⟩
theorem ent13 : Ent Tryd.prog 13 := ⟨_, _, Tryd.func13, by kernel_rfl, rfl⟩
theorem ent14 : Ent Tryd.prog 14 := ⟨_, _, Tryd.func14, by kernel_rfl, rfl⟩
theorem ent26 : Ent Tryd.prog 26 := ⟨_, _, Tryd.func26, by kernel_rfl, rfl⟩
theorem ent24 : Ent Tryd.prog 24 := ⟨_, _, Tryd.func24, by kernel_rfl, rfl⟩
theorem HistLaw.exValid : Valid (ofN 2 (exEvs.map EvC.toEv) exEvs.length).out := by
  rw [exOut]
  intro i a ha
  match i, ha with
  | 0, ha =>
    cases ha
    exact ⟨by decide, fun z hz => by cases hz; rfl, fun k b hk => absurd hk (Nat.not_lt_zero _), fun k b hb => by
      match k, hb with
      | 0, hb => cases hb; decide
      | 1, hb => cases hb; decide
      | n + 2, hb => cases hb⟩
  | 1, ha =>
    cases ha
    exact ⟨by decide, fun z hz => by cases hz; rfl, fun k b hk hb => by
      obtain rfl : k = 0 := by omega
      cases hb
      exact ⟨by decide, by decide, by decide⟩, fun k b hb => by
      match k, hb with
      | 0, hb => cases hb; decide
      | 1, hb => cases hb; decide
      | n + 2, hb => cases hb⟩
  | n + 2, ha => cases ha
theorem HistLaw.exSmall : ∀ o ∈ (ofN 2 (exEvs.map EvC.toEv) exEvs.length).out, Small o := by
  rw [exOut]
  intro o ho
  simp only [List.mem_cons, List.not_mem_nil, or_false] at ho
  rcases ho with rfl | rfl <;> constructor <;> decide
theorem HistLaw.exLines : (ofN 2 (exEvs.map EvC.toEv) exEvs.length).out.map fline = [({ data := #[48, 45, 50, 32, 99, 108, 105, 101, 110, 116, 32, 49, 32, 110, 117, 109, 98, 101, 114, 32, 49, 58, 32, 112, 117, 116, 32, 107, 32, 53, 32, 45, 62, 32, 53] } : ByteArray), ({ data := #[49, 45, 32, 99, 108, 105, 101, 110, 116, 32, 50, 32, 110, 117, 109, 98, 101, 114, 32, 49, 58, 32, 103, 101, 116, 32, 107, 32, 45, 62, 32, 63] } : ByteArray)] := by rw [exOut]; kernel_rfl
noncomputable def HistLaw.validB (l : List O) : Bool := @decide (Valid l) (Classical.propDecidable _)
theorem HistLaw.validB_iff {l : List O} : validB l = true ↔ Valid l := by unfold validB; exact @decide_eq_true_iff _ (Classical.propDecidable _)
theorem rvalidB_ct (l : List O) (H1 : PH) (p : Option Addr) (c : Nat) (hS : Sl H1 p c 12 (l.map O.c)) : Ct Tryd.prog 10 [.slice p (l.map O.c).length c] [H1] (fun v Hs => v = .bool (validB l) ∧ Hs = [H1]) := (rvalid_ct l H1 p c hS).mono (by
  rintro v Hs ⟨⟨b, rfl, hb⟩, rfl⟩
  exact ⟨congrArg Value.bool (by rw [Bool.eq_iff_iff, hb, validB_iff]), rfl⟩)

set_option maxRecDepth 100000 in
set_option maxHeartbeats 400000 in
theorem awake_ct  : Ct Tryd.prog 11 [] [] (fun v Hs => v = .bool true ∧ Hs = []) := by
  refine Ct.body Tryd.func11 rfl Tryd.ntmps11 rfl ?_
  intro E F
  have hp1 : ¬ Prec exA exB := by decide
  have hp2 : ¬ Prec exB exA := by decide
  refine W.seq ?_
  refine W.region ?_
  refine RL.q (Yld.assign rfl) rfl ?_
  refine RL.nil ?_
  refine N.next ?_
  refine W.seq ?_
  refine W.region ?_
  refine RL.e (Eff.call ent33 [] [133] .nil example_ct rfl rfl rfl rfl (by rintro _ _ ⟨_, _, rfl⟩; rfl)) rfl ?_
  rintro _ _ ⟨_, ⟨bx, rfl, rfl⟩, rfl⟩
  have hSx : Sl (single bx (.cells (exEvs.map EvC.c).flatten.toArray 47 (0, 0))) (some ⟨bx, 0, none⟩) 3 22 (exEvs.map EvC.c) := (Own.mk (n := 22) [] (by intro l hl; simp only [exEvs, List.map_cons, List.map_nil, List.mem_cons, List.not_mem_nil, or_false] at hl; rcases hl with rfl | rfl | rfl <;> exact ⟨rfl, by simp [EvC.c, Value.oneCell']⟩) (by simp [exEvs]) (by simp [maxLen]) (by rfl) (by simp)).sl
  refine RL.e (Eff.call ent13 [133] [133, 131] (.cons rfl (.cons rfl .nil)) (of_ct exEvs (by intro a ha; simp only [exEvs, List.mem_cons, List.not_mem_nil, or_false] at ha; rcases ha with rfl | rfl | rfl <;> exact ⟨rfl, rfl, rfl, rfl, rfl, rfl, rfl, rfl, rfl, rfl⟩) (by simp [exEvs]) _ _ _ hSx 2) rfl rfl rfl rfl (by rintro _ _ ⟨_, _, _, _, _, rfl⟩; rfl)) rfl ?_
  rintro _ _ ⟨_, ⟨Ho, po, co, rfl, hO, rfl⟩, rfl⟩
  have hOs := hO.sl
  have hlA : ((ofN 2 (exEvs.map EvC.toEv) exEvs.length).out.map O.c)[0]? = some exA.c := by rw [exOut]; rfl
  have hlB : ((ofN 2 (exEvs.map EvC.toEv) exEvs.length).out.map O.c)[1]? = some exB.c := by rw [exOut]; rfl
  have hlen2 : ((ofN 2 (exEvs.map EvC.toEv) exEvs.length).out.map O.c).length = 2 := by rw [exOut]; rfl
  refine RL.q (Yld.assign rfl) rfl ?_
  refine RL.nil ?_
  refine N.next ?_
  refine W.seq ?_
  refine W.draw (.q 0 (.one 1 (.q 2 (.q 3 (.two 4 (.one 5 (.one 6 (.q 7 (.q 8 (.q 9 (.q 10 (.q 11 (.q 12 (.q 13 (.q 14 (.one 15 (.q 16 (.q 17 (.q 18 (.q 19 (.q 20 (.q 21 (.q 22 (.q 23 (.q 24 (.one 25 (.q 26 (.q 27 (.q 28 .done)))))))))))))))))))))))) 5 (.one 4 (.one 6 (.q 7 (.q 8 (.q 9 (.q 10 (.q 11 (.q 12 (.q 13 (.q 14 (.one 15 (.q 16 (.q 17 (.q 18 (.q 19 (.q 20 (.q 21 (.q 22 (.q 23 (.q 24 (.one 25 (.q 26 (.q 27 (.q 28 .done))))))))))))))))))))))))))))) (.cons (k := 131) rfl .nil) mix (by kernel_rfl) (by kernel_rfl) ?_
  refine DL.q rfl (Yld.move rfl) rfl ?_
  refine DL.one rfl (Eff.call ent14 [131] [131] (.cons rfl .nil) (hvalid_ct (ofN 2 (exEvs.map EvC.toEv) exEvs.length).out _ _ _ hOs) rfl rfl rfl rfl (by rintro _ _ ⟨_, rfl⟩; rfl)) rfl (by rintro _ _ ⟨_, ⟨⟨bV, rfl, hV⟩, rfl⟩, rfl⟩; repeat (first | exact .nil | refine .cons rfl ?_)) ?_
  rintro _ _ ⟨_, ⟨⟨bV, rfl, hV⟩, rfl⟩, rfl⟩
  obtain rfl : bV = true := hV.2 exValid
  refine DL.q rfl (Yld.move rfl) rfl ?_
  first | refine DL.as (t := 6) rfl (boolT (by first | assumption | omega | (simp; done))) ?_ | refine DL.as (t := 6) (v := .bool true) rfl rfl ?_
  refine DL.gq rfl rfl rfl (Yld.move rfl) rfl ?_
  refine DL.two ?_ ?_
  ·
    refine DL.gone rfl rfl rfl (Eff.call ent26 [131] [131, 132] (.cons rfl .nil) (format_ct (ofN 2 (exEvs.map EvC.toEv) exEvs.length).out _ _ _ hOs exSmall (by rw [exOut]; simp)) rfl rfl rfl rfl (by rintro _ _ ⟨_, _, _, _, _, rfl⟩; rfl)) rfl (by rintro _ _ ⟨_, ⟨Hf, pf, cf, rfl, hOf, rfl⟩, rfl⟩; repeat (first | exact .nil | refine .cons rfl ?_)) ?_
    rintro _ _ ⟨_, ⟨Hf, pf, cf, rfl, hOf, rfl⟩, rfl⟩
    refine DL.gone rfl rfl rfl (Eff.buildSlice 109 Tryd.underlying48 sz9 zc9 rfl rfl (.cons rfl rfl (.cons rfl rfl .nil)) rfl) rfl (by rintro _ _ ⟨b9, rfl, rfl⟩; repeat (first | exact .nil | refine .cons rfl ?_)) ?_
    rintro _ _ ⟨b9, rfl, rfl⟩
    refine DL.gone rfl rfl rfl (Eff.call ent24 [132, 109] [132, 109] (.cons rfl (.cons rfl .nil)) (sameTexts_ct ((ofN 2 (exEvs.map EvC.toEv) exEvs.length).out.map fline) [({ data := #[48, 45, 50, 32, 99, 108, 105, 101, 110, 116, 32, 49, 32, 110, 117, 109, 98, 101, 114, 32, 49, 58, 32, 112, 117, 116, 32, 107, 32, 53, 32, 45, 62, 32, 53] } : ByteArray), ({ data := #[49, 45, 32, 99, 108, 105, 101, 110, 116, 32, 50, 32, 110, 117, 109, 98, 101, 114, 32, 49, 58, 32, 103, 101, 116, 32, 107, 32, 45, 62, 32, 63] } : ByteArray)] _ _ _ _ _ _ (by rw [List.map_map]; exact hOf.sl) (Own.mk (e := 9) (n := 1) (c := 2) [] (by simp [Value.oneCell']) (by simp) (by simp [maxLen]) (by rfl) (by rfl)).sl) rfl rfl rfl rfl (by rintro _ _ ⟨_, rfl⟩; rfl)) rfl (by rintro _ _ ⟨_, ⟨⟨bT, rfl, hT⟩, rfl⟩, rfl⟩; repeat (first | exact .nil | refine .cons rfl ?_)) ?_
    rintro _ _ ⟨_, ⟨⟨bT, rfl, hT⟩, rfl⟩, rfl⟩
    obtain rfl : bT = true := hT.2 exLines
    refine DL.q rfl (by first | exact Yld.pickT rfl rfl | exact Yld.pickF rfl rfl) rfl ?_
    refine DL.q rfl (Yld.move rfl) rfl ?_
    first | refine DL.as (t := 12) rfl (boolT (by first | assumption | omega | (simp; done))) ?_ | refine DL.as (t := 12) (v := .bool true) rfl rfl ?_
    refine DL.gq rfl rfl rfl (Yld.move rfl) rfl ?_
    refine DL.gq rfl rfl rfl (Yld.indexRow Tryd.underlying22 sz32 rfl rfl hO.sl (by first | rfl | omega | (simp; done) | (simp; omega)) (by omega) (by first | omega | (simp; done) | (simp; omega))) rfl ?_
    refine DL.gq rfl rfl rfl (Yld.eq (v' := .agg [.int .i64 exA.cl, .int .i64 exA.nu, .int .i64 exA.gr, .int .i64 exA.kd, .string exA.key, .int .i64 exA.val, .int .i64 exA.old, .int .i64 exA.code, .bool exA.fnd, .int .i64 exA.rv, .int .i64 exA.inv, .int .i64 exA.rsp].toArray) (Yld.loadRow (cl := 131) Tryd.underlying32 rfl sz32 rfl rfl hO.sl hlA) rfl) rfl ?_
    refine DL.gq rfl rfl rfl (Yld.move rfl) rfl ?_
    refine DL.gq rfl rfl rfl (Yld.indexRow Tryd.underlying22 sz32 rfl rfl hO.sl (by first | rfl | omega | (simp; done) | (simp; omega)) (by omega) (by first | omega | (simp; done) | (simp; omega))) rfl ?_
    refine DL.gq rfl rfl rfl (Yld.eq (v' := .agg [.int .i64 exB.cl, .int .i64 exB.nu, .int .i64 exB.gr, .int .i64 exB.kd, .string exB.key, .int .i64 exB.val, .int .i64 exB.old, .int .i64 exB.code, .bool exB.fnd, .int .i64 exB.rv, .int .i64 exB.inv, .int .i64 exB.rsp].toArray) (Yld.loadRow (cl := 131) Tryd.underlying32 rfl sz32 rfl rfl hO.sl hlB) rfl) rfl ?_
    refine DL.gone rfl rfl rfl (Eff.call ent12 [] [] (.cons rfl (.cons rfl .nil)) (precedes_ct exA exB) rfl rfl rfl rfl (by rintro _ _ ⟨_, rfl⟩; rfl)) rfl (by rintro _ _ ⟨_, ⟨rfl, rfl⟩, rfl⟩; repeat (first | exact .nil | refine .cons rfl ?_)) ?_
    rintro _ _ ⟨_, ⟨rfl, rfl⟩, rfl⟩
    refine DL.gq rfl rfl rfl (by first | exact Yld.notD rfl | exact Yld.not rfl) rfl ?_
    refine DL.q rfl (by first | exact Yld.pickT rfl rfl | exact Yld.pickF rfl rfl) rfl ?_
    refine DL.q rfl (Yld.move rfl) rfl ?_
    first | refine DL.as (t := 22) rfl (boolT (by first | assumption | omega | (simp; done))) ?_ | refine DL.as (t := 22) (v := .bool true) rfl rfl ?_
    refine DL.gq rfl rfl rfl (Yld.move rfl) rfl ?_
    refine DL.gq rfl rfl rfl (Yld.indexRow Tryd.underlying22 sz32 rfl rfl hO.sl (by first | rfl | omega | (simp; done) | (simp; omega)) (by omega) (by first | omega | (simp; done) | (simp; omega))) rfl ?_
    refine DL.gq rfl rfl rfl (Yld.eq (v' := .agg [.int .i64 exB.cl, .int .i64 exB.nu, .int .i64 exB.gr, .int .i64 exB.kd, .string exB.key, .int .i64 exB.val, .int .i64 exB.old, .int .i64 exB.code, .bool exB.fnd, .int .i64 exB.rv, .int .i64 exB.inv, .int .i64 exB.rsp].toArray) (Yld.loadRow (cl := 131) Tryd.underlying32 rfl sz32 rfl rfl hO.sl hlB) rfl) rfl ?_
    refine DL.gq rfl rfl rfl (Yld.move rfl) rfl ?_
    refine DL.gq rfl rfl rfl (Yld.indexRow Tryd.underlying22 sz32 rfl rfl hO.sl (by first | rfl | omega | (simp; done) | (simp; omega)) (by omega) (by first | omega | (simp; done) | (simp; omega))) rfl ?_
    refine DL.gq rfl rfl rfl (Yld.eq (v' := .agg [.int .i64 exA.cl, .int .i64 exA.nu, .int .i64 exA.gr, .int .i64 exA.kd, .string exA.key, .int .i64 exA.val, .int .i64 exA.old, .int .i64 exA.code, .bool exA.fnd, .int .i64 exA.rv, .int .i64 exA.inv, .int .i64 exA.rsp].toArray) (Yld.loadRow (cl := 131) Tryd.underlying32 rfl sz32 rfl rfl hO.sl hlA) rfl) rfl ?_
    refine DL.gone rfl rfl rfl (Eff.call ent12 [] [] (.cons rfl (.cons rfl .nil)) (precedes_ct exB exA) rfl rfl rfl rfl (by rintro _ _ ⟨_, rfl⟩; rfl)) rfl (by rintro _ _ ⟨_, ⟨rfl, rfl⟩, rfl⟩; repeat (first | exact .nil | refine .cons rfl ?_)) ?_
    rintro _ _ ⟨_, ⟨rfl, rfl⟩, rfl⟩
    refine DL.gq rfl rfl rfl (by first | exact Yld.notD rfl | exact Yld.not rfl) rfl ?_
    refine DL.q rfl (by first | exact Yld.pickT rfl rfl | exact Yld.pickF rfl rfl) rfl ?_
    refine DL.q rfl (Yld.assign rfl) rfl ?_
    refine DL.done ?_
    refine N.next ?_
    refine W.keep (.cons (k := 0) rfl .nil) (.cons (k := 0) rfl (.cons (k := 109) rfl (.cons (k := 131) rfl (.cons (k := 132) rfl (.cons (k := 133) rfl .nil))))) ?_
    refine W.ret ?_
    exact N.retBy [] (.cons (.tmp rfl) .nil) rfl rfl rfl rfl ⟨by show Value.bool _ = _; simp [hp2], rfl⟩
  ·
    first | refine DL.as (t := 6) rfl (boolT (by first | assumption | omega | (simp; done))) ?_ | refine DL.as (t := 6) (v := .bool true) rfl rfl ?_
    refine DL.gone rfl rfl rfl (Eff.buildSlice 109 Tryd.underlying48 sz9 zc9 rfl rfl (.cons rfl rfl (.cons rfl rfl .nil)) rfl) rfl (by rintro _ _ ⟨b9, rfl, rfl⟩; repeat (first | exact .nil | refine .cons rfl ?_)) ?_
    rintro _ _ ⟨b9, rfl, rfl⟩
    refine DL.gone rfl rfl rfl (Eff.call ent26 [131] [131, 132] (.cons rfl .nil) (format_ct (ofN 2 (exEvs.map EvC.toEv) exEvs.length).out _ _ _ hOs exSmall (by rw [exOut]; simp)) rfl rfl rfl rfl (by rintro _ _ ⟨_, _, _, _, _, rfl⟩; rfl)) rfl (by rintro _ _ ⟨_, ⟨Hf, pf, cf, rfl, hOf, rfl⟩, rfl⟩; repeat (first | exact .nil | refine .cons rfl ?_)) ?_
    rintro _ _ ⟨_, ⟨Hf, pf, cf, rfl, hOf, rfl⟩, rfl⟩
    refine DL.gone rfl rfl rfl (Eff.call ent24 [132, 109] [132, 109] (.cons rfl (.cons rfl .nil)) (sameTexts_ct ((ofN 2 (exEvs.map EvC.toEv) exEvs.length).out.map fline) [({ data := #[48, 45, 50, 32, 99, 108, 105, 101, 110, 116, 32, 49, 32, 110, 117, 109, 98, 101, 114, 32, 49, 58, 32, 112, 117, 116, 32, 107, 32, 53, 32, 45, 62, 32, 53] } : ByteArray), ({ data := #[49, 45, 32, 99, 108, 105, 101, 110, 116, 32, 50, 32, 110, 117, 109, 98, 101, 114, 32, 49, 58, 32, 103, 101, 116, 32, 107, 32, 45, 62, 32, 63] } : ByteArray)] _ _ _ _ _ _ (by rw [List.map_map]; exact hOf.sl) (Own.mk (e := 9) (n := 1) (c := 2) [] (by simp [Value.oneCell']) (by simp) (by simp [maxLen]) (by rfl) (by rfl)).sl) rfl rfl rfl rfl (by rintro _ _ ⟨_, rfl⟩; rfl)) rfl (by rintro _ _ ⟨_, ⟨⟨bT, rfl, hT⟩, rfl⟩, rfl⟩; repeat (first | exact .nil | refine .cons rfl ?_)) ?_
    rintro _ _ ⟨_, ⟨⟨bT, rfl, hT⟩, rfl⟩, rfl⟩
    obtain rfl : bT = true := hT.2 exLines
    refine DL.q rfl (by first | exact Yld.pickT rfl rfl | exact Yld.pickF rfl rfl) rfl ?_
    refine DL.q rfl (Yld.move rfl) rfl ?_
    first | refine DL.as (t := 12) rfl (boolT (by first | assumption | omega | (simp; done))) ?_ | refine DL.as (t := 12) (v := .bool true) rfl rfl ?_
    refine DL.gq rfl rfl rfl (Yld.move rfl) rfl ?_
    refine DL.gq rfl rfl rfl (Yld.indexRow Tryd.underlying22 sz32 rfl rfl hO.sl (by first | rfl | omega | (simp; done) | (simp; omega)) (by omega) (by first | omega | (simp; done) | (simp; omega))) rfl ?_
    refine DL.gq rfl rfl rfl (Yld.eq (v' := .agg [.int .i64 exA.cl, .int .i64 exA.nu, .int .i64 exA.gr, .int .i64 exA.kd, .string exA.key, .int .i64 exA.val, .int .i64 exA.old, .int .i64 exA.code, .bool exA.fnd, .int .i64 exA.rv, .int .i64 exA.inv, .int .i64 exA.rsp].toArray) (Yld.loadRow (cl := 131) Tryd.underlying32 rfl sz32 rfl rfl hO.sl hlA) rfl) rfl ?_
    refine DL.gq rfl rfl rfl (Yld.move rfl) rfl ?_
    refine DL.gq rfl rfl rfl (Yld.indexRow Tryd.underlying22 sz32 rfl rfl hO.sl (by first | rfl | omega | (simp; done) | (simp; omega)) (by omega) (by first | omega | (simp; done) | (simp; omega))) rfl ?_
    refine DL.gq rfl rfl rfl (Yld.eq (v' := .agg [.int .i64 exB.cl, .int .i64 exB.nu, .int .i64 exB.gr, .int .i64 exB.kd, .string exB.key, .int .i64 exB.val, .int .i64 exB.old, .int .i64 exB.code, .bool exB.fnd, .int .i64 exB.rv, .int .i64 exB.inv, .int .i64 exB.rsp].toArray) (Yld.loadRow (cl := 131) Tryd.underlying32 rfl sz32 rfl rfl hO.sl hlB) rfl) rfl ?_
    refine DL.gone rfl rfl rfl (Eff.call ent12 [] [] (.cons rfl (.cons rfl .nil)) (precedes_ct exA exB) rfl rfl rfl rfl (by rintro _ _ ⟨_, rfl⟩; rfl)) rfl (by rintro _ _ ⟨_, ⟨rfl, rfl⟩, rfl⟩; repeat (first | exact .nil | refine .cons rfl ?_)) ?_
    rintro _ _ ⟨_, ⟨rfl, rfl⟩, rfl⟩
    refine DL.gq rfl rfl rfl (by first | exact Yld.notD rfl | exact Yld.not rfl) rfl ?_
    refine DL.q rfl (by first | exact Yld.pickT rfl rfl | exact Yld.pickF rfl rfl) rfl ?_
    refine DL.q rfl (Yld.move rfl) rfl ?_
    first | refine DL.as (t := 22) rfl (boolT (by first | assumption | omega | (simp; done))) ?_ | refine DL.as (t := 22) (v := .bool true) rfl rfl ?_
    refine DL.gq rfl rfl rfl (Yld.move rfl) rfl ?_
    refine DL.gq rfl rfl rfl (Yld.indexRow Tryd.underlying22 sz32 rfl rfl hO.sl (by first | rfl | omega | (simp; done) | (simp; omega)) (by omega) (by first | omega | (simp; done) | (simp; omega))) rfl ?_
    refine DL.gq rfl rfl rfl (Yld.eq (v' := .agg [.int .i64 exB.cl, .int .i64 exB.nu, .int .i64 exB.gr, .int .i64 exB.kd, .string exB.key, .int .i64 exB.val, .int .i64 exB.old, .int .i64 exB.code, .bool exB.fnd, .int .i64 exB.rv, .int .i64 exB.inv, .int .i64 exB.rsp].toArray) (Yld.loadRow (cl := 131) Tryd.underlying32 rfl sz32 rfl rfl hO.sl hlB) rfl) rfl ?_
    refine DL.gq rfl rfl rfl (Yld.move rfl) rfl ?_
    refine DL.gq rfl rfl rfl (Yld.indexRow Tryd.underlying22 sz32 rfl rfl hO.sl (by first | rfl | omega | (simp; done) | (simp; omega)) (by omega) (by first | omega | (simp; done) | (simp; omega))) rfl ?_
    refine DL.gq rfl rfl rfl (Yld.eq (v' := .agg [.int .i64 exA.cl, .int .i64 exA.nu, .int .i64 exA.gr, .int .i64 exA.kd, .string exA.key, .int .i64 exA.val, .int .i64 exA.old, .int .i64 exA.code, .bool exA.fnd, .int .i64 exA.rv, .int .i64 exA.inv, .int .i64 exA.rsp].toArray) (Yld.loadRow (cl := 131) Tryd.underlying32 rfl sz32 rfl rfl hO.sl hlA) rfl) rfl ?_
    refine DL.gone rfl rfl rfl (Eff.call ent12 [] [] (.cons rfl (.cons rfl .nil)) (precedes_ct exB exA) rfl rfl rfl rfl (by rintro _ _ ⟨_, rfl⟩; rfl)) rfl (by rintro _ _ ⟨_, ⟨rfl, rfl⟩, rfl⟩; repeat (first | exact .nil | refine .cons rfl ?_)) ?_
    rintro _ _ ⟨_, ⟨rfl, rfl⟩, rfl⟩
    refine DL.gq rfl rfl rfl (by first | exact Yld.notD rfl | exact Yld.not rfl) rfl ?_
    refine DL.q rfl (by first | exact Yld.pickT rfl rfl | exact Yld.pickF rfl rfl) rfl ?_
    refine DL.q rfl (Yld.assign rfl) rfl ?_
    refine DL.done ?_
    refine N.next ?_
    refine W.keep (.cons (k := 0) rfl .nil) (.cons (k := 0) rfl (.cons (k := 109) rfl (.cons (k := 131) rfl (.cons (k := 132) rfl (.cons (k := 133) rfl .nil))))) ?_
    refine W.ret ?_
    exact N.retBy [] (.cons (.tmp rfl) .nil) rfl rfl rfl rfl ⟨by show Value.bool _ = _; simp [hp2], rfl⟩

end Go.Proofs.YtbgppnkccbhbpaaDoor
