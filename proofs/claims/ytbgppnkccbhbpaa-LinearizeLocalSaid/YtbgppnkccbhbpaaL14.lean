/- awake. Written by program (walk.py). -/
import Derived.Test.YtbgppnkccbhbpaaL13
namespace Go.Proofs.Ytbgppnkccbhbpaa
open SL HistLaw Cfg
set_option linter.unusedVariables false
set_option linter.unusedSimpArgs false
theorem lay38 : layS Try.prog 38 = some ([.int .i64 0, .string .empty, .int .i64 0, .int .i64 0], [(0, 1), (1, 1), (2, 1), (3, 1)]) := by kernel_rfl
theorem lay42 : layS Try.prog 42 = some ([.int .i64 0, .int .i64 0, .int .i64 0, .int .i64 0, .string .empty, .int .i64 0, .int .i64 0, .int .i64 0, .bool false, .int .i64 0, .int .i64 0, .int .i64 0], [(0, 1), (1, 1), (2, 1), (3, 4), (7, 3), (10, 1), (11, 1)]) := by kernel_rfl
theorem ent23 : Ent Try.prog 23 := ⟨_, _, Try.func23, by kernel_rfl, rfl⟩
theorem ent24 : Ent Try.prog 24 := ⟨_, _, Try.func24, by kernel_rfl, rfl⟩
theorem ent20 : Ent Try.prog 20 := ⟨_, _, Try.func20, by kernel_rfl, rfl⟩
set_option maxRecDepth 100000 in
set_option maxHeartbeats 400000 in
theorem example57_ct  : Ct Try.prog 23 [] [] (fun v Hs => ∃ H' p', v = .slice p' ([exP, exQ].map O.c).length 2 ∧ Own H' p' 2 42 12 ([exP, exQ].map O.c) ∧ Hs = [H']) := by
  refine Ct.body Try.func23 rfl Try.ntmps23 rfl ?_
  intro E F
  refine W.seq ?_
  refine W.region ?_
  refine RL.q (Yld.assign rfl) rfl ?_
  refine RL.nil ?_
  refine N.next ?_
  refine W.seq ?_
  refine W.region ?_
  refine RL.q (Yld.buildP lay38 (.cons rfl rfl (.cons rfl rfl (.cons rfl rfl .nil))) rfl) rfl ?_
  refine RL.q (Yld.buildP lay40 (.cons rfl rfl (.cons rfl rfl .nil)) rfl) rfl ?_
  refine RL.q (Yld.buildP lay42 (.cons rfl rfl (.cons rfl rfl (.cons rfl rfl (.cons rfl rfl (.cons rfl rfl (.cons rfl rfl .nil)))))) rfl) rfl ?_
  refine RL.q (Yld.buildP lay38 (.cons rfl rfl .nil) rfl) rfl ?_
  refine RL.q (Yld.buildP lay42 (.cons rfl rfl (.cons rfl rfl (.cons rfl rfl (.cons rfl rfl (.cons rfl rfl .nil))))) rfl) rfl ?_
  refine RL.e (Eff.buildSlice 106 Try.underlying22 sz42 zc42 rfl rfl (.cons rfl rfl (.cons rfl rfl .nil)) rfl) rfl ?_
  rintro _ _ ⟨b6, rfl, rfl⟩
  refine RL.q (Yld.assign rfl) rfl ?_
  refine RL.nil ?_
  refine N.next ?_
  refine W.keep (.cons (k := 0) rfl .nil) (.cons (k := 0) rfl (.cons (k := 106) rfl .nil)) ?_
  refine W.ret ?_
  exact N.retBy [106] (.cons (.tmp rfl) .nil) rfl rfl rfl rfl ⟨_, _, rfl, Own.mk (e := 42) (n := 12) (c := 2) [] (by simp [O.c, exP, exQ, Value.oneCell']) (by simp) (by simp [maxLen]) (by rfl) (by rfl), rfl⟩

set_option maxRecDepth 100000 in
set_option maxHeartbeats 1600000 in
theorem awake57_ct  : Ct Try.prog 9 [] [] (fun v Hs => v = .bool true ∧ Hs = []) := by
  refine Ct.body Try.func9 rfl Try.ntmps9 rfl ?_
  intro E F
  refine W.seq ?_
  refine W.region ?_
  refine RL.q (Yld.assign rfl) rfl ?_
  refine RL.nil ?_
  refine N.next ?_
  refine W.seq ?_
  refine W.region ?_
  refine RL.e (Eff.call ent23 [] [140] .nil example57_ct rfl rfl rfl rfl (by rintro _ _ ⟨_, _, _, _, rfl⟩; rfl)) rfl ?_
  rintro _ _ ⟨_, ⟨He, pe, rfl, hOe, rfl⟩, rfl⟩
  refine RL.q (Yld.assign rfl) rfl ?_
  refine RL.nil ?_
  refine N.next ?_
  refine W.seq ?_
  refine W.region ?_
  refine RL.q (Yld.move rfl) rfl ?_
  refine RL.e (Eff.call ent10 [140] [140, 180] (.cons rfl .nil) (check_ct [exP, exQ] (by decide) _ _ _ hOe.sl) rfl rfl rfl rfl (by rintro _ _ ⟨_, _, _, _, _, _, _, rfl⟩; rfl)) rfl ?_
  rintro _ _ ⟨_, ⟨q1, n1, c1, e1, H3, rfl, hC1, rfl⟩, rfl⟩
  obtain ⟨rfl, out, rfl, hOo, hver⟩ := hC1.2.1 ex2_valid ex2_live
  have hord := ex_order hver
  rw [hord] at hOo ⊢
  refine RL.q (Yld.move rfl) rfl ?_
  refine RL.q (Yld.extract rfl rfl) rfl ?_
  refine RL.q (Yld.extract rfl rfl) rfl ?_
  refine RL.q (Yld.assign rfl) rfl ?_
  refine RL.q (Yld.assign rfl) rfl ?_
  refine RL.nil ?_
  refine N.next ?_
  refine W.keep (.cons (k := 1) rfl (.cons (k := 2) rfl (.cons (k := 3) rfl .nil))) (.cons (k := 0) rfl (.cons (k := 140) rfl (.cons (k := 180) rfl .nil))) ?_
  refine W.seq ?_
  refine W.seq ?_
  refine W.region ?_
  refine RL.q (Yld.move rfl) rfl ?_
  refine RL.q (Yld.bin rfl rfl BinV.neq) rfl ?_
  refine RL.q (Yld.move rfl) rfl ?_
  first | refine RL.as (t := 14) rfl (boolF (by first | assumption | omega | (simp; done))) ?_ | refine RL.as (t := 14) (v := .bool false) rfl rfl ?_
  refine RL.gq rfl rfl (Yld.move rfl) rfl ?_
  refine RL.ge rfl rfl (Eff.buildSlice 116 Try.underlying25 sz3 zc3 rfl rfl (.cons rfl rfl (.cons rfl rfl .nil)) rfl) rfl ?_
  rintro _ _ ⟨b16, rfl, rfl⟩
  refine RL.ge rfl rfl (Eff.call ent24 [180, 116] [180, 116] (.cons rfl (.cons rfl .nil)) (sameInts_ct [1, 0] [1, 0] _ _ _ _ _ _ hOo.sl (Own.mk (e := 3) (n := 1) (c := 2) [] (by simp [iz, Value.oneCell']) (by simp) (by simp [maxLen]) (by rfl) (by rfl)).sl rfl) rfl rfl rfl rfl (by rintro _ _ ⟨_, rfl⟩; rfl)) rfl ?_
  rintro _ _ ⟨_, ⟨rfl, rfl⟩, rfl⟩
  refine RL.gq rfl rfl (by first | exact Yld.notD rfl | exact Yld.not rfl) rfl ?_
  refine RL.q (by first | exact Yld.pickT rfl rfl | exact Yld.pickF rfl rfl) rfl ?_
  refine RL.q (Yld.move rfl) rfl ?_
  first | refine RL.as (t := 20) rfl (boolF (by first | assumption | omega | (simp; done))) ?_ | refine RL.as (t := 20) (v := .bool false) rfl rfl ?_
  refine RL.gq rfl rfl (Yld.move rfl) rfl ?_
  refine RL.ge rfl rfl (Eff.call ent20 [140] [140] (.cons rfl .nil) (first_ct [exP, exQ] (by decide) _ _ _ hOe.sl) rfl rfl rfl rfl (by rintro _ _ ⟨_, _, _, rfl⟩; rfl)) rfl ?_
  rintro _ _ ⟨_, ⟨r1, rfl, hF1, rfl⟩, rfl⟩
  obtain rfl := ex2_first hF1
  refine RL.gq rfl rfl (Yld.bin rfl rfl BinV.neq) rfl ?_
  refine RL.q (by first | exact Yld.pickT rfl rfl | exact Yld.pickF rfl rfl) rfl ?_
  refine RL.nil ?_
  refine N.next ?_
  refine W.keep (.cons (k := 1) rfl (.cons (k := 24) rfl .nil)) (.cons (k := 0) rfl (.cons (k := 116) rfl (.cons (k := 140) rfl (.cons (k := 180) rfl .nil)))) ?_
  first | (refine W.as (t := 24) rfl (boolF (by first | assumption | omega | (simp; done))) ?_; refine W.condF rfl ?_) | refine W.condF rfl ?_
  refine W.skip ?_
  refine N.next ?_
  refine W.seq ?_
  refine W.region ?_
  refine RL.q (Yld.move rfl) rfl ?_
  refine RL.q (Yld.buildP lay38 (.cons rfl rfl .nil) rfl) rfl ?_
  refine RL.q (Yld.buildP lay42 (.cons rfl rfl (.cons rfl rfl (.cons rfl rfl (.cons rfl rfl (.cons rfl rfl .nil))))) rfl) rfl ?_
  refine RL.e (Eff.buildSlice 128 Try.underlying22 sz42 zc42 rfl rfl (.cons rfl rfl .nil) rfl) rfl ?_
  rintro _ _ ⟨b28, rfl, rfl⟩
  refine RL.e (Eff.append (tc := 140) (sc := 128) Try.underlying22 el42 rfl rfl rfl rfl hOe rfl (Own.one (l := exR.c) rfl (O.c_one _).2 rfl).sl rfl (by intro l hl v hv; simp only [List.mem_singleton] at hl; subst hl; exact (O.c_one _).2 v hv) (by decide) (by simp) (by simp [maxLen])) rfl ?_
  rintro _ _ ⟨Ha, pa, ca, rfl, hOa0, rfl⟩
  have hOa : Own Ha pa ca 42 12 ([exP, exQ, exR].map O.c) := hOa0
  refine RL.q (Yld.assign rfl) rfl ?_
  refine RL.nil ?_
  refine N.next ?_
  refine W.keep (.cons (k := 1) rfl .nil) (.cons (k := 0) rfl (.cons (k := 116) rfl (.cons (k := 128) rfl (.cons (k := 140) rfl (.cons (k := 180) rfl .nil))))) ?_
  refine W.seq ?_
  refine W.region ?_
  refine RL.q (Yld.move rfl) rfl ?_
  refine RL.e (Eff.call ent10 [140] [140, 181] (.cons rfl .nil) (check_ct [exP, exQ, exR] (by decide) _ _ _ hOa.sl) rfl rfl rfl rfl (by rintro _ _ ⟨_, _, _, _, _, _, _, rfl⟩; rfl)) rfl ?_
  rintro _ _ ⟨_, ⟨q2, n2, c2, e2, H4, rfl, hC2, rfl⟩, rfl⟩
  obtain ⟨rfl, rfl, rfl, rfl⟩ := hC2.2.2 ex3_valid ex3_dead
  refine RL.q (Yld.move rfl) rfl ?_
  refine RL.q (Yld.extract rfl rfl) rfl ?_
  refine RL.q (Yld.extract rfl rfl) rfl ?_
  refine RL.q (Yld.assign rfl) rfl ?_
  refine RL.q (Yld.assign rfl) rfl ?_
  refine RL.nil ?_
  refine N.next ?_
  refine W.keep (.cons (k := 1) rfl (.cons (k := 5) rfl .nil)) (.cons (k := 0) rfl (.cons (k := 116) rfl (.cons (k := 128) rfl (.cons (k := 140) rfl (.cons (k := 180) rfl (.cons (k := 181) rfl .nil)))))) ?_
  refine W.seq ?_
  refine W.region ?_
  refine RL.q (Yld.move rfl) rfl ?_
  refine RL.q (Yld.bin rfl rfl BinV.eql) rfl ?_
  refine RL.q (Yld.move rfl) rfl ?_
  first | refine RL.as (t := 37) rfl (boolT (by first | assumption | omega | (simp; done))) ?_ | refine RL.as (t := 37) (v := .bool true) rfl rfl ?_
  refine RL.gq rfl rfl (Yld.move rfl) rfl ?_
  refine RL.ge rfl rfl (Eff.call ent20 [140] [140] (.cons rfl .nil) (first_ct [exP, exQ, exR] (by decide) _ _ _ hOa.sl) rfl rfl rfl rfl (by rintro _ _ ⟨_, _, _, rfl⟩; rfl)) rfl ?_
  rintro _ _ ⟨_, ⟨r2, rfl, hF2, rfl⟩, rfl⟩
  obtain rfl := ex3_first hF2
  refine RL.gq rfl rfl (Yld.bin rfl rfl BinV.eql) rfl ?_
  refine RL.q (by first | exact Yld.pickT rfl rfl | exact Yld.pickF rfl rfl) rfl ?_
  refine RL.q (Yld.assign rfl) rfl ?_
  refine RL.nil ?_
  refine N.next ?_
  refine W.keep (.cons (k := 0) rfl .nil) (.cons (k := 0) rfl (.cons (k := 116) rfl (.cons (k := 128) rfl (.cons (k := 140) rfl (.cons (k := 180) rfl (.cons (k := 181) rfl .nil)))))) ?_
  refine W.ret ?_
  exact N.retBy [] (.cons (.tmp rfl) .nil) rfl rfl rfl rfl ⟨rfl, rfl⟩

end Go.Proofs.Ytbgppnkccbhbpaa
