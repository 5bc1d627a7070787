/- The laws are awake. Written by program (walk2.py). -/
import Derived.Test.YtiedcjebkkdneaaGreatDoorC5
namespace Go.Proofs.YtiedcjebkkdneaaGreatDoor
open SL Cfg
set_option linter.unusedVariables false
set_option linter.unusedSimpArgs false
theorem ent15 : Ent Tryz.prog 15 := ⟨_, _, Tryz.func15, by kernel_rfl, rfl⟩
theorem ent14 : Ent Tryz.prog 14 := ⟨_, _, Tryz.func14, by kernel_rfl, rfl⟩
theorem ent16 : Ent Tryz.prog 16 := ⟨_, _, Tryz.func16, by kernel_rfl, rfl⟩
theorem ent17 : Ent Tryz.prog 17 := ⟨_, _, Tryz.func17, by kernel_rfl, rfl⟩
theorem ent6 : Ent Tryz.prog 6 := ⟨_, _, Tryz.func6, by kernel_rfl, rfl⟩
theorem ent18 : Ent Tryz.prog 18 := ⟨_, _, Tryz.func18, by kernel_rfl, rfl⟩
theorem Cfg.iz_lit {b e : Nat} {l : List Int} {cs : List Value} (hcs : cs = l.map (fun z => Value.int .i64 z)) (hm : l.length ≤ maxLen) : Own (single b (.cells cs.toArray e (0, 0))) (some ⟨b, 0, none⟩) l.length e 1 (iz l) := by
  refine Own.mk [] (fun r hr => ?_) (by simp) hm ?_ ?_
  · obtain ⟨z, _, rfl⟩ := List.mem_map.1 hr; exact ⟨rfl, by simp [Value.oneCell']⟩
  · rw [List.append_nil]; unfold iz; rw [flat_one (fun z : Int => Value.int .i64 z) l, List.length_map, Nat.mul_one]
  · rw [hcs, List.append_nil]; unfold iz; exact (flat_one (fun z : Int => Value.int .i64 z) l).symm
theorem Cfg.setA : setL [3, 1, 2] = [1, 2, 3] := (IsSet.eq ⟨by decide, by intro z; simp; omega⟩).symm
theorem Cfg.setB : setL [205, 1, 104] = [1, 104, 205] := (IsSet.eq ⟨by decide, by intro z; simp; omega⟩).symm
theorem Cfg.setC : setL [1, 2, 3] = [1, 2, 3] := (IsSet.eq ⟨by decide, by intro z; simp; omega⟩).symm
theorem Cfg.setD : setL [1, 104, 205] = [1, 104, 205] := (IsSet.eq ⟨by decide, by intro z; simp; omega⟩).symm
theorem Cfg.setE : setL [] = [] := (IsSet.eq IsSet.nil).symm
theorem Cfg.fmtA : fmtB [1, 2, 3] [1, 104, 205] [] = ByteArray.mk #[49, 32, 50, 32, 51, 32, 62, 32, 49, 32, 49, 48, 52, 32, 50, 48, 53] := by decide +kernel
theorem Cfg.txA : TxOK [1, 2, 3] ∧ TxOK [1, 104, 205] ∧ TxOK [] := ⟨⟨by decide, by decide, by decide +kernel⟩, ⟨by decide, by decide, by decide +kernel⟩, ⟨by decide, by decide, by decide +kernel⟩⟩

set_option maxRecDepth 100000 in
set_option maxHeartbeats 1600000 in
theorem awake_ct (H1 : PH) (hT : TabH H1) : Ct Tryz.prog 4 [] [H1] (fun v Hs => v = .bool true ∧ Hs = [H1]) := by
  refine Ct.body Tryz.func4 rfl Tryz.ntmps4 rfl ?_
  intro E F
  refine W.seq ?_
  refine W.region ?_
  refine RL.q (Yld.assign rfl) rfl ?_
  refine RL.nil ?_
  refine N.next ?_
  refine W.seq ?_
  refine W.region ?_
  refine RL.e (Eff.buildSlice 102 Tryz.underlying22 sz3 zc3 rfl rfl (.cons rfl rfl (.cons rfl rfl (.cons rfl rfl .nil))) rfl) rfl ?_
  rintro _ _ ⟨b2, rfl, rfl⟩
  refine RL.e (Eff.call ent15 [102] [102, 150] (.cons rfl .nil) (simple_ct [3, 1, 2] _ _ _ (iz_lit (b := b2) (l := [3, 1, 2]) rfl (by decide)).sl (by simp)) rfl rfl rfl rfl (by rintro _ _ ⟨_, _, _, _, _, rfl⟩; rfl)) rfl ?_
  rintro _ _ ⟨_, ⟨Hs, ps, cs, rfl, hOs, rfl⟩, rfl⟩
  rw [setA] at hOs ⊢
  refine RL.e (Eff.buildSlice 104 Tryz.underlying22 sz3 zc3 rfl rfl (.cons rfl rfl (.cons rfl rfl (.cons rfl rfl .nil))) rfl) rfl ?_
  rintro _ _ ⟨b4, rfl, rfl⟩
  refine RL.e (Eff.call ent14 [150, 104] [150, 104, 160] (.cons rfl (.cons rfl .nil)) (cjoint_ct ⟨[1, 2, 3], [], [], ps, cs, none, 0, none, 0⟩ Hs ⟨hOs.sl, ⟨rfl, rfl⟩, ⟨rfl, rfl⟩⟩ (by simp) (by simp) (by simp) [205, 1, 104] _ _ _ (iz_lit (b := b4) (l := [205, 1, 104]) rfl (by decide)).sl (by simp)) rfl rfl rfl rfl (by rintro _ _ ⟨_, _, _, _, _, _, _, rfl⟩; rfl)) rfl ?_
  rintro _ _ ⟨_, ⟨y, Hj, rfl, hy, y1, y2, y3, rfl⟩, rfl⟩
  obtain ⟨yo, yn, yl, yp1, yc1, yp2, yc2, yp3, yc3⟩ := y
  dsimp only at y1 y2 y3
  subst y1
  obtain rfl : yn = [1, 104, 205] := y2.trans setB
  obtain rfl : yl = [] := y3
  have hok : Cf.Ok ⟨[1, 2, 3], [1, 104, 205], [], yp1, yc1, yp2, yc2, yp3, yc3⟩ := by simp only [Cf.Ok, setC, setD, setE]; exact ⟨trivial, trivial, trivial, by decide, by decide, rfl⟩
  refine RL.e (Eff.alloc 101 zc24) rfl ?_
  rintro _ _ ⟨b1, rfl, rfl⟩
  refine RL.e0 (Eff.storeS (c := 101) _ sz24 rfl rfl rfl rfl rfl rfl rfl (by (try simp only [putAt, List.take, List.drop, List.nil_append, List.cons_append, List.append_nil, List.length_cons, List.length_nil, Nat.add_zero, Nat.zero_add, Nat.reduceAdd]); rfl)) ?_
  rintro _ _ rfl
  refine RL.nil ?_
  refine N.next ?_
  refine W.keep (.cons (k := 1) rfl .nil) (.cons (k := 0) rfl (.cons (k := 1) rfl (.cons (k := 101) rfl (.cons (k := 102) rfl (.cons (k := 104) rfl (.cons (k := 150) rfl (.cons (k := 160) rfl .nil))))))) ?_
  refine W.seq ?_
  refine W.region ?_
  refine RL.q (Yld.loadW (c := 101) Tryz.underlying24 rfl sz24 rfl rfl (by first | exact single_self _ _ | exact pset_self _ _ _ | assumption) rfl) rfl ?_
  refine RL.e (Eff.call ent16 [160] [160] (.cons rfl .nil) (cvalid_ct ⟨[1, 2, 3], [1, 104, 205], [], yp1, yc1, yp2, yc2, yp3, yc3⟩ Hj hy (by simp) (by simp) (by simp)) rfl rfl rfl rfl (by rintro _ _ ⟨_, rfl⟩; rfl)) rfl ?_
  rintro _ _ ⟨_, ⟨rfl, rfl⟩, rfl⟩
  refine RL.q (Yld.move rfl) rfl ?_
  first | refine RL.as (t := 8) rfl (boolT (by first | assumption | omega | (simp; done))) ?_ | refine RL.as (t := 8) (v := .bool true) rfl rfl ?_
  refine RL.gq rfl rfl (Yld.loadW (c := 101) Tryz.underlying24 rfl sz24 rfl rfl (by first | exact single_self _ _ | exact pset_self _ _ _ | assumption) rfl) rfl ?_
  refine RL.ge rfl rfl (Eff.buildSlice 110 Tryz.underlying22 sz3 zc3 rfl rfl (.cons rfl rfl (.cons rfl rfl .nil)) rfl) rfl ?_
  rintro _ _ ⟨b10, rfl, rfl⟩
  refine RL.ge rfl rfl (Eff.call ent17 [160, 110] [160, 110] (.cons rfl (.cons rfl .nil)) (cquorum_ct ⟨[1, 2, 3], [1, 104, 205], [], yp1, yc1, yp2, yc2, yp3, yc3⟩ Hj hy [1, 2] _ _ _ (iz_lit (b := b10) (l := [1, 2]) rfl (by decide)).sl (by simp) (by simp)) rfl rfl rfl rfl (by rintro _ _ ⟨_, rfl⟩; rfl)) rfl ?_
  rintro _ _ ⟨_, ⟨rfl, rfl⟩, rfl⟩
  refine RL.gq rfl rfl (Yld.eq (v' := .bool true) (by first | exact Yld.notD rfl | exact Yld.not rfl) (by rfl)) rfl ?_
  refine RL.q (by first | exact Yld.pickT rfl rfl | exact Yld.pickF rfl rfl) rfl ?_
  refine RL.q (Yld.move rfl) rfl ?_
  first | refine RL.as (t := 14) rfl (boolT (by first | assumption | omega | (simp; done))) ?_ | refine RL.as (t := 14) (v := .bool true) rfl rfl ?_
  refine RL.gq rfl rfl (Yld.loadW (c := 101) Tryz.underlying24 rfl sz24 rfl rfl (by first | exact single_self _ _ | exact pset_self _ _ _ | assumption) rfl) rfl ?_
  refine RL.ge rfl rfl (Eff.buildSlice 116 Tryz.underlying22 sz3 zc3 rfl rfl (.cons rfl rfl (.cons rfl rfl (.cons rfl rfl .nil))) rfl) rfl ?_
  rintro _ _ ⟨b16, rfl, rfl⟩
  refine RL.ge rfl rfl (Eff.call ent17 [160, 116] [160, 116] (.cons rfl (.cons rfl .nil)) (cquorum_ct ⟨[1, 2, 3], [1, 104, 205], [], yp1, yc1, yp2, yc2, yp3, yc3⟩ Hj hy [1, 2, 104] _ _ _ (iz_lit (b := b16) (l := [1, 2, 104]) rfl (by decide)).sl (by simp) (by simp)) rfl rfl rfl rfl (by rintro _ _ ⟨_, rfl⟩; rfl)) rfl ?_
  rintro _ _ ⟨_, ⟨rfl, rfl⟩, rfl⟩
  refine RL.q (by first | exact Yld.pickT rfl rfl | exact Yld.pickF rfl rfl) rfl ?_
  refine RL.q (Yld.move rfl) rfl ?_
  first | refine RL.as (t := 19) rfl (boolT (by first | assumption | omega | (simp; done))) ?_ | refine RL.as (t := 19) (v := .bool true) rfl rfl ?_
  refine RL.gq rfl rfl (Yld.loadW (c := 101) Tryz.underlying24 rfl sz24 rfl rfl (by first | exact single_self _ _ | exact pset_self _ _ _ | assumption) rfl) rfl ?_
  refine RL.ge rfl rfl (Eff.call ent6 [160, 1] [160, 1] (.cons rfl .nil) (format_ct ⟨[1, 2, 3], [1, 104, 205], [], yp1, yc1, yp2, yc2, yp3, yc3⟩ Hj hy H1 hT txA.1 txA.2.1 txA.2.2) rfl rfl rfl rfl (by rintro _ _ ⟨_, rfl⟩; rfl)) rfl ?_
  rintro _ _ ⟨_, ⟨rfl, rfl⟩, rfl⟩
  rw [fmtA]
  refine RL.gq rfl rfl (Yld.eq (v' := .bool true) (Yld.bin rfl rfl BinV.eqlS) (by simp)) rfl ?_
  refine RL.q (by first | exact Yld.pickT rfl rfl | exact Yld.pickF rfl rfl) rfl ?_
  refine RL.q (Yld.move rfl) rfl ?_
  first | refine RL.as (t := 24) rfl (boolT (by first | assumption | omega | (simp; done))) ?_ | refine RL.as (t := 24) (v := .bool true) rfl rfl ?_
  refine RL.ge rfl rfl (Eff.call ent18 [] [] (.cons rfl .nil) (cmach_ct 104) rfl rfl rfl rfl (by rintro _ _ ⟨_, rfl⟩; rfl)) rfl ?_
  rintro _ _ ⟨_, ⟨rfl, rfl⟩, rfl⟩
  refine RL.gq rfl rfl (Yld.eq (v' := .bool true) (Yld.bin rfl rfl BinV.eql) (by rfl)) rfl ?_
  refine RL.q (by first | exact Yld.pickT rfl rfl | exact Yld.pickF rfl rfl) rfl ?_
  refine RL.q (Yld.assign rfl) rfl ?_
  refine RL.nil ?_
  refine N.next ?_
  refine W.keep (.cons (k := 0) rfl .nil) (.cons (k := 0) rfl (.cons (k := 1) rfl (.cons (k := 101) rfl (.cons (k := 102) rfl (.cons (k := 104) rfl (.cons (k := 110) rfl (.cons (k := 116) rfl (.cons (k := 150) rfl (.cons (k := 160) rfl .nil))))))))) ?_
  refine W.ret ?_
  exact N.retBy [1] (.cons (.tmp rfl) .nil) rfl rfl rfl rfl ⟨rfl, rfl⟩

end Go.Proofs.YtiedcjebkkdneaaGreatDoor
