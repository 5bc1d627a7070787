/- The laws are awake. Written by program (walk2.py). -/
import Derived.Test.YtdkefpnebmmhlaaP9
namespace Go.Proofs.Ytdkefpnebmmhlaa
open SL Cfg Rep
set_option linter.unusedVariables false
set_option linter.unusedSimpArgs false
theorem zc5 : zc Try.prog 5 [.int .u8 0] := (by kernel_rfl : ((Try.prog.info? 5).bind (·.zero)).map (fun v => v.cells.toList) = some [.int .u8 0])
theorem ent15 : Ent Try.prog 15 := ⟨_, _, Try.func15, by kernel_rfl, rfl⟩
theorem ent42 : Ent Try.prog 42 := ⟨_, _, Try.func42, by kernel_rfl, rfl⟩
theorem ent23 : Ent Try.prog 23 := ⟨_, _, Try.func23, by kernel_rfl, rfl⟩
theorem ent18 : Ent Try.prog 18 := ⟨_, _, Try.func18, by kernel_rfl, rfl⟩
theorem Rep.u8_lit {b e n : Nat} {l : List Int} {cs : List Value} (hcs : cs = l.map (Value.int .u8)) (hn : n = l.length) (hl : l.length ≤ maxLen) : Sl (single b (.cells cs.toArray e (0, 0))) (some ⟨b, 0, none⟩) n 1 (by8 l) := by
  subst hn
  refine (Own.mk (n := 1) [] (fun r hr => ?_) (by simp) hl ?_ ?_).sl
  · obtain ⟨a, _, rfl⟩ := List.mem_map.1 hr; exact ⟨rfl, by simp [Value.oneCell']⟩
  · rw [List.append_nil, show (by8 l).flatten = l.map (Value.int .u8) from flat_one _ l]; simp
  · rw [List.append_nil, show (by8 l).flatten = l.map (Value.int .u8) from flat_one _ l]; exact hcs
theorem Rep.set3 : setL [1, 2, 3] = [1, 2, 3] := (IsSet.eq ⟨by decide, by intro z; simp; omega⟩).symm
theorem Rep.ms0 : chg 1 5 [] [1, 2, 3] = [⟨2, 6, 0⟩, ⟨3, 6, 0⟩] := by unfold chg; rw [set3]; rfl
theorem Rep.ca5 : caught 1 5 [⟨2, 6, 5⟩, ⟨3, 3, 0⟩] = [1, 2] := by
  unfold caught
  exact (IsSet.eq (l := [1, 2]) ⟨by decide, by intro z; simp; omega⟩).symm
theorem Rep.cm5 : cmt [⟨2, 6, 5⟩, ⟨3, 6, 0⟩] (setL [1, 2, 3]) [] (lgs 0 [0, 0, 0, 0, 0] [(0 : Int), 0, 0, 0, 0].length).1 1 0 = 5 := by
  unfold cmt agr; rw [List.append_nil, set3, set3]; decide

set_option maxRecDepth 100000 in
set_option maxHeartbeats 3200000 in
theorem awake_ct  : Ct Try.prog 9 [] [] (fun v Hs => v = .bool true ∧ Hs = []) := by
  refine Ct.body Try.func9 rfl Try.ntmps9 rfl ?_
  intro E F
  have hK0 : MOK [⟨2, 6, 0⟩, ⟨3, 6, 0⟩] := ms0 ▸ MOK.nil.chg (by omega) (by simp)
  have hK1 : MOK [⟨2, 6, 5⟩, ⟨3, 6, 0⟩] := hK0.acc (a := 2) (b := 5) (by omega)
  have hK2 : MOK [⟨2, 6, 5⟩, ⟨3, 3, 0⟩] := hK1.rej (a := 3) (b := 2)
  have hgl := (lgs_ok (s := 0) (bs := [0, 0, 0, 0, 0]) (by omega) (by omega) (by decide) 5 (by omega)).1
  refine W.seq ?_
  refine W.region ?_
  refine RL.q (Yld.assign rfl) rfl ?_
  refine RL.nil ?_
  refine N.next ?_
  refine W.seq ?_
  refine W.region ?_
  refine RL.e (Eff.buildSlice 108 Try.underlying22 sz3 zc3 rfl rfl (.cons rfl rfl (.cons rfl rfl (.cons rfl rfl .nil))) rfl) rfl ?_
  rintro _ _ ⟨b8, rfl, rfl⟩
  refine RL.e (Eff.call ent11 [108] [108, 140, 141] (.cons rfl (.cons rfl (.cons rfl .nil))) (pnew_ct 5 (by omega) [1, 2, 3] _ _ _ (iz_lit (b := b8) (l := [1, 2, 3]) rfl rfl (by decide)).sl) rfl rfl rfl rfl (by rintro _ _ ⟨_, _, _, _, _, _, _, _, rfl⟩; rfl)) rfl ?_
  rintro _ _ ⟨_, ⟨bp, bm, es0, ck0, m0, rfl, hM0, hR0, rfl⟩, rfl⟩
  rw [ms0] at hR0
  refine RL.q (Yld.assign rfl) rfl ?_
  refine RL.nil ?_
  refine N.next ?_
  refine W.seq ?_
  refine W.region ?_
  refine RL.e (Eff.buildSlice 111 Try.underlying38 sz5 zc5 rfl rfl (.cons rfl rfl (.cons rfl rfl (.cons rfl rfl (.cons rfl rfl (.cons rfl rfl .nil))))) rfl) rfl ?_
  rintro _ _ ⟨b11, rfl, rfl⟩
  refine RL.e (Eff.call ent15 [111] [111, 160, 161, 162] (.cons rfl (.cons rfl .nil)) (logs_ct 0 (by omega) (by omega) [0, 0, 0, 0, 0] (by decide) (by decide) _ _ _ (u8_lit (b := b11) (l := [0, 0, 0, 0, 0]) rfl rfl (by decide))) rfl rfl rfl rfl (by rintro _ _ ⟨_, _, _, _, _, _, _, _, _, _, rfl⟩; rfl)) rfl ?_
  rintro _ _ ⟨_, ⟨lb, Hl, pl, cl, Hr, pr, cr, rfl, hOl, hTr, rfl⟩, rfl⟩
  refine RL.q (Yld.move rfl) rfl ?_
  refine RL.q (Yld.extract rfl rfl) rfl ?_
  refine RL.q (Yld.extract rfl rfl) rfl ?_
  refine RL.e (Eff.alloc 103 zc42) rfl ?_
  rintro _ _ ⟨b3, rfl, rfl⟩
  refine RL.q (Yld.assign rfl) rfl ?_
  refine RL.e0 (Eff.storeS (c := 103) _ sz42 rfl rfl rfl rfl rfl rfl rfl (by (try simp only [putAt, List.take, List.drop, List.nil_append, List.cons_append, List.append_nil, List.length_cons, List.length_nil, Nat.add_zero, Nat.zero_add, Nat.reduceAdd]); rfl)) ?_
  rintro _ _ rfl
  refine RL.nil ?_
  refine N.next ?_
  refine W.keep (.cons (k := 1) rfl (.cons (k := 2) rfl .nil)) (.cons (k := 0) rfl (.cons (k := 103) rfl (.cons (k := 108) rfl (.cons (k := 111) rfl (.cons (k := 140) rfl (.cons (k := 141) rfl (.cons (k := 160) rfl (.cons (k := 161) rfl (.cons (k := 162) rfl .nil))))))))) ?_
  refine W.seq ?_
  refine W.seq ?_
  refine W.region ?_
  refine RL.q (Yld.move rfl) rfl ?_
  refine RL.q (Yld.bin rfl rfl (BinV.eqlPN Try.underlying26)) rfl ?_
  refine RL.q (Yld.move rfl) rfl ?_
  first | refine RL.as (t := 17) rfl (boolF (by first | assumption | omega | (simp; done))) ?_ | refine RL.as (t := 17) (v := .bool false) rfl rfl ?_
  refine RL.gq rfl rfl (Yld.move rfl) rfl ?_
  refine RL.gq rfl rfl (Yld.bin rfl rfl (BinV.eqlPN Try.underlying39)) rfl ?_
  refine RL.q (by first | exact Yld.pickT rfl rfl | exact Yld.pickF rfl rfl) rfl ?_
  refine RL.q (Yld.move rfl) rfl ?_
  first | refine RL.as (t := 21) rfl (boolF (by first | assumption | omega | (simp; done))) ?_ | refine RL.as (t := 21) (v := .bool false) rfl rfl ?_
  refine RL.gq rfl rfl (Yld.move rfl) rfl ?_
  refine RL.ge rfl rfl (Eff.call ent30 [140, 141] [140, 141] (.cons rfl (.cons rfl (.cons rfl .nil))) (paccept_ct bp bm es0 ck0 m0 _ hM0 hR0 hK0 2 5 (by omega)) rfl rfl rfl rfl (by rintro _ _ ⟨_, _, _, _, _, _, rfl⟩; rfl)) rfl ?_
  rintro _ _ ⟨_, ⟨rfl, es1, ck1, m1, hM1, hR1', rfl⟩, rfl⟩
  have hR1 : MR m1 [⟨2, 6, 5⟩, ⟨3, 6, 0⟩] := hR1'
  refine RL.gq rfl rfl (Yld.eq (v' := .bool false) (by first | exact Yld.notD rfl | exact Yld.not rfl) (by rfl)) rfl ?_
  refine RL.q (by first | exact Yld.pickT rfl rfl | exact Yld.pickF rfl rfl) rfl ?_
  refine RL.q (Yld.move rfl) rfl ?_
  first | refine RL.as (t := 26) rfl (boolF (by first | assumption | omega | (simp; done))) ?_ | refine RL.as (t := 26) (v := .bool false) rfl rfl ?_
  refine RL.gq rfl rfl (Yld.move rfl) rfl ?_
  refine RL.ge rfl rfl (Eff.buildSlice 128 Try.underlying22 sz3 zc3 rfl rfl (.cons rfl rfl (.cons rfl rfl (.cons rfl rfl .nil))) rfl) rfl ?_
  rintro _ _ ⟨b28, rfl, rfl⟩
  refine RL.ge rfl rfl (Eff.call ent42 [128] [128, 142] (.cons rfl .nil) (simple_ct [1, 2, 3] _ _ _ (iz_lit (b := b28) (l := [1, 2, 3]) rfl rfl (by decide)).sl (by simp)) rfl rfl rfl rfl (by rintro _ _ ⟨_, _, _, _, _, rfl⟩; rfl)) rfl ?_
  rintro _ _ ⟨_, ⟨Hs, ps, cs, rfl, hOs, rfl⟩, rfl⟩
  refine RL.gq rfl rfl (Yld.move rfl) rfl ?_
  refine RL.ge rfl rfl (Eff.call ent23 [140, 141, 142, 160, 161] [140, 141, 142, 160, 161] (.cons rfl (.cons rfl (.cons rfl (.cons rfl (.cons rfl .nil))))) (pcommit_ct bp bm es1 ck1 m1 _ hM1 hR1 hK1 (⟨setL [1, 2, 3], [], [], ps, cs, none, 0, none, 0⟩ : Cf) Hs ⟨hOs.sl, ⟨rfl, rfl⟩, ⟨rfl, rfl⟩⟩ (by simp [set3]) (by simp) lb (lgs 0 [0, 0, 0, 0, 0] [(0 : Int), 0, 0, 0, 0].length).1 hgl Hl pl cl hOl 1 0) rfl rfl rfl rfl (by rintro _ _ ⟨_, rfl⟩; rfl)) rfl ?_
  rintro _ _ ⟨_, ⟨rfl, rfl⟩, rfl⟩
  refine RL.gq rfl rfl (Yld.eq (v' := .bool false) (Yld.bin rfl rfl BinV.neq) (by rw [cm5]; rfl)) rfl ?_
  refine RL.q (by first | exact Yld.pickT rfl rfl | exact Yld.pickF rfl rfl) rfl ?_
  refine RL.q (Yld.move rfl) rfl ?_
  first | refine RL.as (t := 34) rfl (boolF (by first | assumption | omega | (simp; done))) ?_ | refine RL.as (t := 34) (v := .bool false) rfl rfl ?_
  refine RL.gq rfl rfl (Yld.move rfl) rfl ?_
  refine RL.ge rfl rfl (Eff.call ent31 [140, 141] [140, 141] (.cons rfl (.cons rfl (.cons rfl .nil))) (preject_ct bp bm es1 ck1 m1 _ hM1 hR1 hK1 3 2 (by omega)) rfl rfl rfl rfl (by rintro _ _ ⟨_, _, _, _, _, _, rfl⟩; rfl)) rfl ?_
  rintro _ _ ⟨_, ⟨rfl, es2, ck2, m2, hM2, hR2', rfl⟩, rfl⟩
  have hR2 : MR m2 [⟨2, 6, 5⟩, ⟨3, 3, 0⟩] := hR2'
  refine RL.gq rfl rfl (Yld.eq (v' := .bool false) (by first | exact Yld.notD rfl | exact Yld.not rfl) (by rfl)) rfl ?_
  refine RL.q (by first | exact Yld.pickT rfl rfl | exact Yld.pickF rfl rfl) rfl ?_
  refine RL.nil ?_
  refine N.next ?_
  refine W.keep (.cons (k := 1) rfl (.cons (k := 2) rfl (.cons (k := 38) rfl .nil))) (.cons (k := 0) rfl (.cons (k := 103) rfl (.cons (k := 108) rfl (.cons (k := 111) rfl (.cons (k := 128) rfl (.cons (k := 140) rfl (.cons (k := 141) rfl (.cons (k := 142) rfl (.cons (k := 160) rfl (.cons (k := 161) rfl (.cons (k := 162) rfl .nil))))))))))) ?_
  first | (refine W.as (t := 38) rfl (boolF (by first | assumption | omega | (simp; done))) ?_; refine W.condF rfl ?_) | refine W.condF rfl ?_
  refine W.skip ?_
  refine N.next ?_
  refine W.seq ?_
  refine W.region ?_
  refine RL.q (Yld.move rfl) rfl ?_
  refine RL.q (Yld.move rfl) rfl ?_
  refine RL.e (Eff.call ent18 [140, 141, 160, 161] [140, 141, 160, 161, 163] (.cons rfl (.cons rfl (.cons rfl (.cons rfl .nil)))) (pbatch_ct bp bm es2 ck2 m2 _ hM2 hR2 hK2 lb (lgs 0 [0, 0, 0, 0, 0] [(0 : Int), 0, 0, 0, 0].length).1 hgl Hl pl cl hOl 3 9) rfl rfl rfl rfl (by rintro _ _ ⟨_, _, _, _, _, rfl⟩; rfl)) rfl ?_
  rintro _ _ ⟨_, ⟨Hb, pb, cb, rfl, hOb, rfl⟩, rfl⟩
  refine RL.q (Yld.move rfl) rfl ?_
  refine RL.q (Yld.extract rfl rfl) rfl ?_
  refine RL.q (Yld.extract rfl rfl) rfl ?_
  refine RL.q (Yld.extract rfl rfl) rfl ?_
  refine RL.q (Yld.extract rfl rfl) rfl ?_
  refine RL.q (Yld.assign rfl) rfl ?_
  refine RL.q (Yld.assign rfl) rfl ?_
  refine RL.q (Yld.assign rfl) rfl ?_
  refine RL.q (Yld.assign rfl) rfl ?_
  refine RL.nil ?_
  refine N.next ?_
  refine W.keep (.cons (k := 1) rfl (.cons (k := 4) rfl (.cons (k := 5) rfl (.cons (k := 6) rfl (.cons (k := 7) rfl .nil))))) (.cons (k := 0) rfl (.cons (k := 103) rfl (.cons (k := 108) rfl (.cons (k := 111) rfl (.cons (k := 128) rfl (.cons (k := 140) rfl (.cons (k := 141) rfl (.cons (k := 142) rfl (.cons (k := 160) rfl (.cons (k := 161) rfl (.cons (k := 162) rfl (.cons (k := 163) rfl .nil)))))))))))) ?_
  refine W.seq ?_
  refine W.region ?_
  refine RL.q (Yld.move rfl) rfl ?_
  refine RL.q (Yld.eq (v' := .bool true) (Yld.bin rfl rfl BinV.eql) (by rfl)) rfl ?_
  refine RL.q (Yld.move rfl) rfl ?_
  first | refine RL.as (t := 49) rfl (boolT (by first | assumption | omega | (simp; done))) ?_ | refine RL.as (t := 49) (v := .bool true) rfl rfl ?_
  refine RL.gq rfl rfl (Yld.move rfl) rfl ?_
  refine RL.gq rfl rfl (Yld.eq (v' := .bool true) (Yld.bin rfl rfl BinV.eql) (by rfl)) rfl ?_
  refine RL.q (by first | exact Yld.pickT rfl rfl | exact Yld.pickF rfl rfl) rfl ?_
  refine RL.q (Yld.move rfl) rfl ?_
  first | refine RL.as (t := 53) rfl (boolT (by first | assumption | omega | (simp; done))) ?_ | refine RL.as (t := 53) (v := .bool true) rfl rfl ?_
  refine RL.gq rfl rfl (Yld.move rfl) rfl ?_
  refine RL.gq rfl rfl (Yld.lenSl Try.underlying40 rfl) rfl ?_
  refine RL.gq rfl rfl (Yld.eq (v' := .bool true) (Yld.bin rfl rfl BinV.eql) (by rfl)) rfl ?_
  refine RL.q (by first | exact Yld.pickT rfl rfl | exact Yld.pickF rfl rfl) rfl ?_
  refine RL.q (Yld.move rfl) rfl ?_
  first | refine RL.as (t := 58) rfl (boolT (by first | assumption | omega | (simp; done))) ?_ | refine RL.as (t := 58) (v := .bool true) rfl rfl ?_
  refine RL.gq rfl rfl (Yld.move rfl) rfl ?_
  refine RL.gq rfl rfl (Yld.eq (v' := .bool true) (by first | exact Yld.notD rfl | exact Yld.not rfl) (by rfl)) rfl ?_
  refine RL.q (by first | exact Yld.pickT rfl rfl | exact Yld.pickF rfl rfl) rfl ?_
  refine RL.q (Yld.move rfl) rfl ?_
  first | refine RL.as (t := 62) rfl (boolT (by first | assumption | omega | (simp; done))) ?_ | refine RL.as (t := 62) (v := .bool true) rfl rfl ?_
  refine RL.gq rfl rfl (Yld.move rfl) rfl ?_
  refine RL.ge rfl rfl (Eff.call ent34 [140, 141] [140, 141, 164] (.cons rfl (.cons rfl .nil)) (pcaught_ct bp bm es2 ck2 m2 _ hM2 hR2 hK2 5) rfl rfl rfl rfl (by rintro _ _ ⟨_, _, _, _, _, rfl⟩; rfl)) rfl ?_
  rintro _ _ ⟨_, ⟨Hc, pc, cc, rfl, hOc, rfl⟩, rfl⟩
  refine RL.gq rfl rfl (Yld.lenSl Try.underlying22 rfl) rfl ?_
  refine RL.gq rfl rfl (Yld.eq (v' := .bool true) (Yld.bin rfl rfl BinV.eql) (by rw [ca5]; rfl)) rfl ?_
  refine RL.q (by first | exact Yld.pickT rfl rfl | exact Yld.pickF rfl rfl) rfl ?_
  refine RL.q (Yld.assign rfl) rfl ?_
  refine RL.nil ?_
  refine N.next ?_
  refine W.keep (.cons (k := 0) rfl .nil) (.cons (k := 0) rfl (.cons (k := 103) rfl (.cons (k := 108) rfl (.cons (k := 111) rfl (.cons (k := 128) rfl (.cons (k := 140) rfl (.cons (k := 141) rfl (.cons (k := 142) rfl (.cons (k := 160) rfl (.cons (k := 161) rfl (.cons (k := 162) rfl (.cons (k := 163) rfl (.cons (k := 164) rfl .nil))))))))))))) ?_
  refine W.ret ?_
  exact N.retBy [] (.cons (.tmp rfl) .nil) rfl rfl rfl rfl ⟨rfl, rfl⟩

end Go.Proofs.Ytdkefpnebmmhlaa
