/- The laws are awake; VoteCalls. Written by program (walk2.py). -/
import Derived.Test.YtldnbbnaighakaaV4
namespace Go.Proofs.Ytldnbbnaighakaa
open SL Cfg Vote
set_option linter.unusedVariables false
set_option linter.unusedSimpArgs false
theorem ent31 : Ent Try.prog 31 := ⟨_, _, Try.func31, by kernel_rfl, rfl⟩
theorem ent12 : Ent Try.prog 12 := ⟨_, _, Try.func12, by kernel_rfl, rfl⟩
theorem ent9 : Ent Try.prog 9 := ⟨_, _, Try.func9, by kernel_rfl, rfl⟩
theorem ent15 : Ent Try.prog 15 := ⟨_, _, Try.func15, by kernel_rfl, rfl⟩
theorem ent10 : Ent Try.prog 10 := ⟨_, _, Try.func10, by kernel_rfl, rfl⟩
theorem ent11 : Ent Try.prog 11 := ⟨_, _, Try.func11, by kernel_rfl, rfl⟩
theorem ent25 : Ent Try.prog 25 := ⟨_, _, Try.func25, by kernel_rfl, rfl⟩
theorem ent26 : Ent Try.prog 26 := ⟨_, _, Try.func26, by kernel_rfl, rfl⟩
theorem Vote.vok3 : VOK 10 (⟨2, 4, 2, some [2]⟩ : Vt) := ⟨by decide, by decide, by decide, by decide, by intro l h; cases h; exact ⟨by decide, by decide, by decide⟩⟩
theorem Vote.vok4 : VOK 10 (⟨2, 4, 2, some [2, 3]⟩ : Vt) := ⟨by decide, by decide, by decide, by decide, by intro l h; cases h; exact ⟨by decide, by decide, by decide⟩⟩
theorem Vote.vok1 : VOK 10 (⟨2, 3, 1, none⟩ : Vt) := ⟨by decide, by decide, by decide, by decide, by intro l h; cases h⟩
theorem Vote.tmo8 : tmo (setL ([1, 2, 3] ++ [])) 4 2 = 8 := by rw [List.append_nil, set3]; decide

set_option maxRecDepth 100000 in
set_option maxHeartbeats 1600000 in
theorem awake_ct  : Ct Try.prog 9 [] [] (fun v Hs => v = .bool true ∧ Hs = []) := by
  refine Ct.body Try.func9 rfl Try.ntmps9 rfl ?_
  intro E F
  refine W.seq ?_
  refine W.region ?_
  refine RL.q (Yld.assign rfl) rfl ?_
  refine RL.nil ?_
  refine N.next ?_
  refine W.seq ?_
  refine W.region ?_
  refine RL.e (Eff.call ent16 [] [70] (.cons rfl (.cons rfl (.cons rfl .nil))) (vnew_ct 2 3 0) rfl rfl rfl rfl (by rintro _ _ ⟨_, _, rfl⟩; rfl)) rfl ?_
  rintro _ _ ⟨_, ⟨bp, rfl, rfl⟩, rfl⟩
  refine RL.q (Yld.assign rfl) rfl ?_
  refine RL.nil ?_
  refine N.next ?_
  refine W.seq ?_
  refine W.seq ?_
  refine W.region ?_
  refine RL.q (Yld.move rfl) rfl ?_
  refine RL.q (Yld.bin rfl rfl (BinV.eqlPN Try.underlying35)) rfl ?_
  refine RL.q (Yld.move rfl) rfl ?_
  first | refine RL.as (t := 6) rfl (boolF (by first | assumption | omega | (simp; done))) ?_ | refine RL.as (t := 6) (v := .bool false) rfl rfl ?_
  refine RL.gq rfl rfl (Yld.move rfl) rfl ?_
  refine RL.ge rfl rfl (Eff.call ent19 [70] [70] (.cons rfl (.cons rfl (.cons rfl (.cons rfl .nil)))) (vgrant_ct bp (nw 2 3 0) none rfl 1 3 true) rfl rfl rfl rfl (by rintro _ _ ⟨_, rfl⟩; rfl)) rfl ?_
  rintro _ _ ⟨_, ⟨rfl, rfl⟩, rfl⟩
  refine RL.gq rfl rfl (Yld.eq (v' := .bool false) (by first | exact Yld.notD rfl | exact Yld.not rfl) (by rfl)) rfl ?_
  refine RL.q (by first | exact Yld.pickT rfl rfl | exact Yld.pickF rfl rfl) rfl ?_
  refine RL.q (Yld.move rfl) rfl ?_
  first | refine RL.as (t := 11) rfl (boolF (by first | assumption | omega | (simp; done))) ?_ | refine RL.as (t := 11) (v := .bool false) rfl rfl ?_
  refine RL.gq rfl rfl (Yld.move rfl) rfl ?_
  refine RL.ge rfl rfl (Eff.call ent19 [70] [70] (.cons rfl (.cons rfl (.cons rfl (.cons rfl .nil)))) (vgrant_ct bp (⟨2, 3, 1, none⟩ : Vt) none rfl 3 3 true) rfl rfl rfl rfl (by rintro _ _ ⟨_, rfl⟩; rfl)) rfl ?_
  rintro _ _ ⟨_, ⟨rfl, rfl⟩, rfl⟩
  refine RL.q (by first | exact Yld.pickT rfl rfl | exact Yld.pickF rfl rfl) rfl ?_
  refine RL.q (Yld.move rfl) rfl ?_
  first | refine RL.as (t := 15) rfl (boolF (by first | assumption | omega | (simp; done))) ?_ | refine RL.as (t := 15) (v := .bool false) rfl rfl ?_
  refine RL.gq rfl rfl (Yld.move rfl) rfl ?_
  refine RL.ge rfl rfl (Eff.call ent21 [70] [70, 71] (.cons rfl .nil) (vcamp_ct bp (⟨2, 3, 1, none⟩ : Vt) none 10 (by omega) vok1) rfl rfl rfl rfl (by rintro _ _ ⟨_, _, _, _, _, _, rfl⟩; rfl)) rfl ?_
  rintro _ _ ⟨_, ⟨rfl, bm, es, ck, m, hMV, rfl⟩, rfl⟩
  refine RL.gq rfl rfl (Yld.eq (v' := .bool false) (Yld.bin rfl rfl BinV.neq) (by rfl)) rfl ?_
  refine RL.q (by first | exact Yld.pickT rfl rfl | exact Yld.pickF rfl rfl) rfl ?_
  refine RL.nil ?_
  refine N.next ?_
  refine W.keep (.cons (k := 1) rfl (.cons (k := 19) rfl .nil)) (.cons (k := 0) rfl (.cons (k := 70) rfl (.cons (k := 71) rfl .nil))) ?_
  first | (refine W.as (t := 19) rfl (boolF (by first | assumption | omega | (simp; done))) ?_; refine W.condF rfl ?_) | refine W.condF rfl ?_
  refine W.skip ?_
  refine N.next ?_
  refine W.seq ?_
  refine W.region ?_
  refine RL.e (Eff.buildSlice 120 Try.underlying22 sz3 zc3 rfl rfl (.cons rfl rfl (.cons rfl rfl (.cons rfl rfl .nil))) rfl) rfl ?_
  rintro _ _ ⟨b20, rfl, rfl⟩
  refine RL.e (Eff.call ent31 [120] [120, 72] (.cons rfl .nil) (simple_ct [1, 2, 3] _ _ _ (iz_lit (b := b20) (l := [1, 2, 3]) rfl (by decide)).sl (by simp)) rfl rfl rfl rfl (by rintro _ _ ⟨_, _, _, _, _, rfl⟩; rfl)) rfl ?_
  rintro _ _ ⟨_, ⟨Hs, ps, cs, rfl, hOs, rfl⟩, rfl⟩
  rw [set3] at hOs ⊢
  refine RL.e (Eff.alloc 102 zc24) rfl ?_
  rintro _ _ ⟨b2, rfl, rfl⟩
  refine RL.e0 (Eff.storeS (c := 102) _ sz24 rfl rfl rfl rfl rfl rfl rfl (by (try simp only [putAt, List.take, List.drop, List.nil_append, List.cons_append, List.append_nil, List.length_cons, List.length_nil, Nat.add_zero, Nat.zero_add, Nat.reduceAdd]); rfl)) ?_
  rintro _ _ rfl
  refine RL.nil ?_
  refine N.next ?_
  refine W.seq ?_
  refine W.region ?_
  refine RL.q (Yld.move rfl) rfl ?_
  refine RL.q (Yld.loadW (c := 102) Try.underlying24 rfl sz24 rfl rfl (by first | exact single_self _ _ | exact pset_self _ _ _ | assumption) rfl) rfl ?_
  refine RL.e (Eff.call ent30 [70, 71, 72] [70, 71, 72] (.cons rfl (.cons rfl .nil)) (vwon_ct bp (⟨2, 4, 2, some [2]⟩ : Vt) (some bm) (single bm (.map es ck)) ⟨es, ck, m, rfl, hMV⟩ 10 (by omega) vok3 ⟨[1, 2, 3], [], [], ps, cs, none, 0, none, 0⟩ Hs ⟨hOs.sl, ⟨rfl, rfl⟩, ⟨rfl, rfl⟩⟩ (by simp) (by simp)) rfl rfl rfl rfl (by rintro _ _ ⟨_, rfl⟩; rfl)) rfl ?_
  rintro _ _ ⟨_, ⟨rfl, rfl⟩, rfl⟩
  refine RL.q (Yld.eq (v' := .bool true) (by first | exact Yld.notD rfl | exact Yld.not rfl) (by rfl)) rfl ?_
  refine RL.q (Yld.move rfl) rfl ?_
  first | refine RL.as (t := 26) rfl (boolT (by first | assumption | omega | (simp; done))) ?_ | refine RL.as (t := 26) (v := .bool true) rfl rfl ?_
  refine RL.gq rfl rfl (Yld.move rfl) rfl ?_
  refine RL.ge rfl rfl (Eff.call ent22 [70, 71] [70, 71] (.cons rfl (.cons rfl (.cons rfl (.cons rfl .nil)))) (vcount_ct bp (⟨2, 4, 2, some [2]⟩ : Vt) (some bm) (single bm (.map es ck)) ⟨es, ck, m, rfl, hMV⟩ 3 4 true) rfl rfl rfl rfl (by rintro _ _ ⟨_, _, _, rfl⟩; rfl)) rfl ?_
  rintro _ _ ⟨_, ⟨rfl, G', hG', rfl⟩, rfl⟩
  have hG' : VM (some bm) (⟨2, 4, 2, some [2, 3]⟩ : Vt).vs G' := hG'
  refine RL.q (by first | exact Yld.pickT rfl rfl | exact Yld.pickF rfl rfl) rfl ?_
  refine RL.q (Yld.move rfl) rfl ?_
  first | refine RL.as (t := 30) rfl (boolT (by first | assumption | omega | (simp; done))) ?_ | refine RL.as (t := 30) (v := .bool true) rfl rfl ?_
  refine RL.gq rfl rfl (Yld.move rfl) rfl ?_
  refine RL.gq rfl rfl (Yld.loadW (c := 102) Try.underlying24 rfl sz24 rfl rfl (by first | exact single_self _ _ | exact pset_self _ _ _ | assumption) rfl) rfl ?_
  refine RL.ge rfl rfl (Eff.call ent30 [70, 71, 72] [70, 71, 72] (.cons rfl (.cons rfl .nil)) (vwon_ct bp (⟨2, 4, 2, some [2, 3]⟩ : Vt) (some bm) G' hG' 10 (by omega) vok4 ⟨[1, 2, 3], [], [], ps, cs, none, 0, none, 0⟩ Hs ⟨hOs.sl, ⟨rfl, rfl⟩, ⟨rfl, rfl⟩⟩ (by simp) (by simp)) rfl rfl rfl rfl (by rintro _ _ ⟨_, rfl⟩; rfl)) rfl ?_
  rintro _ _ ⟨_, ⟨rfl, rfl⟩, rfl⟩
  refine RL.q (by first | exact Yld.pickT rfl rfl | exact Yld.pickF rfl rfl) rfl ?_
  refine RL.q (Yld.move rfl) rfl ?_
  first | refine RL.as (t := 35) rfl (boolT (by first | assumption | omega | (simp; done))) ?_ | refine RL.as (t := 35) (v := .bool true) rfl rfl ?_
  refine RL.gq rfl rfl (Yld.loadW (c := 102) Try.underlying24 rfl sz24 rfl rfl (by first | exact single_self _ _ | exact pset_self _ _ _ | assumption) rfl) rfl ?_
  refine RL.ge rfl rfl (Eff.call ent12 [72] [72] (.cons rfl (.cons rfl (.cons rfl .nil))) (vtmo_ct ⟨[1, 2, 3], [], [], ps, cs, none, 0, none, 0⟩ Hs ⟨hOs.sl, ⟨rfl, rfl⟩, ⟨rfl, rfl⟩⟩ (by simp) (by simp) 4 2) rfl rfl rfl rfl (by rintro _ _ ⟨_, rfl⟩; rfl)) rfl ?_
  rintro _ _ ⟨_, ⟨rfl, rfl⟩, rfl⟩
  refine RL.gq rfl rfl (Yld.eq (v' := .bool true) (Yld.bin rfl rfl BinV.eql) (by rw [tmo8]; rfl)) rfl ?_
  refine RL.q (by first | exact Yld.pickT rfl rfl | exact Yld.pickF rfl rfl) rfl ?_
  refine RL.q (Yld.assign rfl) rfl ?_
  refine RL.nil ?_
  refine N.next ?_
  refine W.keep (.cons (k := 0) rfl .nil) (.cons (k := 0) rfl (.cons (k := 70) rfl (.cons (k := 71) rfl (.cons (k := 72) rfl (.cons (k := 102) rfl (.cons (k := 120) rfl .nil)))))) ?_
  refine W.ret ?_
  exact N.retBy [] (.cons (.tmp rfl) .nil) rfl rfl rfl rfl ⟨rfl, rfl⟩

structure Vote.LI where
  i : Nat
  bp : Nat
  o : Option Nat
  G : PH
  H : PH
  p : Option Addr
  c : Nat

set_option maxRecDepth 100000 in
set_option maxHeartbeats 3200000 in
theorem calls_ct (ops : List OpV) (H1 : PH) (p : Option Addr) (c : Nat) (hS : Sl H1 p c 5 (ops.map OpV.cells)) (me : Int) (hme : 0 ≤ me ∧ me ≤ 65535) (t vd : Int) (x : Cf) (hx : x.In H1) : Ct Try.prog 6 [.int .u16 me, .int .i64 t, .int .i64 vd, .slice p ops.length c, .agg [.slice x.po x.o.length x.co, .slice x.pn x.n.length x.cn, .slice x.pl x.l.length x.cl].toArray] [H1] (fun r Hs => r = .bool true ∧ Hs = [H1]) := by
  refine Ct.body Try.func6 rfl Try.ntmps6 rfl ?_
  intro E F
  have hmx := hS.len_le
  simp only [List.length_map, maxLen] at hmx
  refine W.seq ?_
  refine W.region ?_
  refine RL.e (Eff.box 109 _ rfl rfl) rfl ?_
  rintro _ _ ⟨b9, rfl, rfl⟩
  refine RL.q (Yld.assign rfl) rfl ?_
  refine RL.nil ?_
  refine N.next ?_
  refine W.seq ?_
  refine W.seq ?_
  refine W.region ?_
  refine RL.e (Eff.call ent9 [] [] .nil awake_ct rfl rfl rfl rfl (by rintro _ _ ⟨_, rfl⟩; rfl)) rfl ?_
  rintro _ _ ⟨_, ⟨rfl, rfl⟩, rfl⟩
  refine RL.q (by first | exact Yld.notD rfl | exact Yld.not rfl) rfl ?_
  refine RL.nil ?_
  refine N.next ?_
  first | (refine W.as (t := 19) rfl (boolF (by first | assumption | omega | (simp; done))) ?_; refine W.condF rfl ?_) | refine W.condF rfl ?_
  refine W.skip ?_
  refine N.next ?_
  refine W.keep (.cons (k := 0) rfl (.cons (k := 1) rfl (.cons (k := 2) rfl (.cons (k := 3) rfl (.cons (k := 9) rfl .nil))))) (.cons (k := 0) rfl (.cons (k := 1) rfl (.cons (k := 109) rfl .nil))) ?_
  refine W.seq ?_
  refine W.seq ?_
  refine W.region ?_
  refine RL.q (Yld.move rfl) rfl ?_
  refine RL.e (Eff.call ent15 [1] [1] (.cons rfl (.cons rfl .nil)) (few_ct ops _ _ _ hS 30) rfl rfl rfl rfl (by rintro _ _ ⟨_, rfl⟩; rfl)) rfl ?_
  rintro _ _ ⟨_, ⟨rfl, rfl⟩, rfl⟩
  refine RL.q (by first | exact Yld.notD rfl | exact Yld.not rfl) rfl ?_
  refine RL.q (Yld.move rfl) rfl ?_
  refine' RL.or (t := 23) (d := 27) 4 rfl (.cons (k := 0) rfl (.cons (k := 1) rfl (.cons (k := 2) rfl (.cons (k := 3) rfl (.cons (k := 9) rfl (.cons (k := 20) rfl (.cons (k := 21) rfl (.cons (k := 22) rfl .nil)))))))) (.cons (k := 0) rfl (.cons (k := 1) rfl (.cons (k := 109) rfl .nil))) ?_ ?_ ?_
  rotate_left 1
  ·
    intro hg23
    refine RL.gq rfl rfl (Yld.loadW (c := 109) Try.underlying24 rfl sz24 rfl rfl (by first | exact single_self _ _ | exact pset_self _ _ _ | assumption) rfl) rfl ?_
    refine RL.ge rfl rfl (Eff.call ent10 [1] [1] (.cons rfl (.cons rfl .nil)) (cfew_ct x H1 hx 8) rfl rfl rfl rfl (by rintro _ _ ⟨_, rfl⟩; rfl)) rfl ?_
    rintro _ _ ⟨_, ⟨rfl, rfl⟩, rfl⟩
    refine RL.gq rfl rfl (by first | exact Yld.notD rfl | exact Yld.not rfl) rfl ?_
    refine RL.q (by first | exact Yld.pickT rfl rfl | exact Yld.pickF rfl rfl) rfl ?_
    exact RL.nil (N.meet (.cons rfl (.cons rfl (.cons rfl (.cons rfl (.cons rfl (.cons rfl (.cons rfl (.cons rfl (.cons rfl .nil))))))))) (.cons rfl (.cons rfl (.cons rfl .nil))))
  ·
    intro hg23
    refine RL.gskip rfl rfl rfl rfl ?_
    refine RL.gskip rfl rfl rfl rfl ?_
    refine RL.gskip rfl rfl rfl rfl ?_
    refine RL.q (by first | exact Yld.pickT rfl rfl | exact Yld.pickF rfl rfl) rfl ?_
    exact RL.nil (N.meet (.cons rfl (.cons rfl (.cons rfl (.cons rfl (.cons rfl (.cons rfl (.cons rfl (.cons rfl (.cons rfl .nil))))))))) (.cons rfl (.cons rfl (.cons rfl .nil))))
  refine RL.q (Yld.move rfl) rfl ?_
  refine' RL.or (t := 28) (d := 32) 4 rfl (.cons (k := 0) rfl (.cons (k := 1) rfl (.cons (k := 2) rfl (.cons (k := 3) rfl (.cons (k := 9) rfl (.cons (k := 20) rfl (.cons (k := 21) rfl (.cons (k := 22) rfl (.cons (k := 27) rfl .nil))))))))) (.cons (k := 0) rfl (.cons (k := 1) rfl (.cons (k := 109) rfl .nil))) ?_ ?_ ?_
  rotate_left 1
  ·
    intro hg28
    have hf8 : (x.o.length : Int) ≤ 8 ∧ (x.n.length : Int) ≤ 8 ∧ (x.l.length : Int) ≤ 8 := by
      have h := hg28
      simp only [Bool.or_eq_false_iff, Bool.not_eq_false', decide_eq_true_eq, decide_eq_false_iff_not, Classical.not_not] at h
      exact h.2
    refine RL.gq rfl rfl (Yld.loadW (c := 109) Try.underlying24 rfl sz24 rfl rfl (by first | exact single_self _ _ | exact pset_self _ _ _ | assumption) rfl) rfl ?_
    refine RL.ge rfl rfl (Eff.call ent11 [1] [1] (.cons rfl .nil) (plain_ct x H1 hx (by omega) (by omega) (by omega)) rfl rfl rfl rfl (by rintro _ _ ⟨_, rfl⟩; rfl)) rfl ?_
    rintro _ _ ⟨_, ⟨rfl, rfl⟩, rfl⟩
    refine RL.gq rfl rfl (by first | exact Yld.notD rfl | exact Yld.not rfl) rfl ?_
    refine RL.q (by first | exact Yld.pickT rfl rfl | exact Yld.pickF rfl rfl) rfl ?_
    exact RL.nil (N.meet (.cons rfl (.cons rfl (.cons rfl (.cons rfl (.cons rfl (.cons rfl (.cons rfl (.cons rfl (.cons rfl (.cons rfl .nil)))))))))) (.cons rfl (.cons rfl (.cons rfl .nil))))
  ·
    intro hg28
    refine RL.gskip rfl rfl rfl rfl ?_
    refine RL.gskip rfl rfl rfl rfl ?_
    refine RL.gskip rfl rfl rfl rfl ?_
    refine RL.q (by first | exact Yld.pickT rfl rfl | exact Yld.pickF rfl rfl) rfl ?_
    exact RL.nil (N.meet (.cons rfl (.cons rfl (.cons rfl (.cons rfl (.cons rfl (.cons rfl (.cons rfl (.cons rfl (.cons rfl (.cons rfl .nil)))))))))) (.cons rfl (.cons rfl (.cons rfl .nil))))
  refine RL.q (Yld.move rfl) rfl ?_
  refine' RL.or (t := 33) (d := 36) 3 rfl (.cons (k := 0) rfl (.cons (k := 1) rfl (.cons (k := 2) rfl (.cons (k := 3) rfl (.cons (k := 9) rfl (.cons (k := 20) rfl (.cons (k := 21) rfl (.cons (k := 22) rfl (.cons (k := 27) rfl (.cons (k := 32) rfl .nil)))))))))) (.cons (k := 0) rfl (.cons (k := 1) rfl (.cons (k := 109) rfl .nil))) ?_ ?_ ?_
  rotate_left 1
  ·
    intro hg33
    refine RL.gq rfl rfl (Yld.move rfl) rfl ?_
    refine RL.gq rfl rfl (Yld.bin rfl rfl BinV.gtr) rfl ?_
    refine RL.q (by first | exact Yld.pickT rfl rfl | exact Yld.pickF rfl rfl) rfl ?_
    exact RL.nil (N.meet (.cons rfl (.cons rfl (.cons rfl (.cons rfl (.cons rfl (.cons rfl (.cons rfl (.cons rfl (.cons rfl (.cons rfl (.cons rfl .nil))))))))))) (.cons rfl (.cons rfl (.cons rfl .nil))))
  ·
    intro hg33
    refine RL.gskip rfl rfl rfl rfl ?_
    refine RL.gskip rfl rfl rfl rfl ?_
    refine RL.q (by first | exact Yld.pickT rfl rfl | exact Yld.pickF rfl rfl) rfl ?_
    exact RL.nil (N.meet (.cons rfl (.cons rfl (.cons rfl (.cons rfl (.cons rfl (.cons rfl (.cons rfl (.cons rfl (.cons rfl (.cons rfl (.cons rfl .nil))))))))))) (.cons rfl (.cons rfl (.cons rfl .nil))))
  refine RL.nil ?_
  refine N.next ?_
  refine W.keep (.cons (k := 0) rfl (.cons (k := 1) rfl (.cons (k := 2) rfl (.cons (k := 3) rfl (.cons (k := 9) rfl (.cons (k := 36) rfl .nil)))))) (.cons (k := 0) rfl (.cons (k := 1) rfl (.cons (k := 109) rfl .nil))) ?_
  refine W.cond rfl (fun hc36 => ?_) (fun hc36 => ?_)
  ·
    refine W.seq ?_
    refine W.region ?_
    refine RL.q (Yld.assign rfl) rfl ?_
    refine RL.nil ?_
    refine N.next ?_
    refine W.keep (.cons (k := 10) rfl .nil) (.cons (k := 0) rfl (.cons (k := 1) rfl (.cons (k := 109) rfl .nil))) ?_
    refine W.ret ?_
    refine N.then_ret ?_
    exact N.retBy [1] (.cons (.tmp rfl) .nil) rfl rfl rfl rfl ⟨rfl, rfl⟩
  ·
    simp only [Bool.or_eq_false_iff, Bool.not_eq_false', decide_eq_true_eq, decide_eq_false_iff_not, Classical.not_not] at hc36
    have hok := hc36.1.1.1.1
    have hf8 := hc36.1.1.2
    have hk0 : VOK 100 (nw (1 + me % 400) t vd) := VOK.nw (by omega) (by omega)
    refine W.skip ?_
    refine N.next ?_
    refine W.seq ?_
    refine W.imp (Imp.empty _ 171) ?_
    refine W.imp (Imp.empty _ 172) ?_
    refine W.region ?_
    refine RL.q (Yld.move rfl) rfl ?_
    refine RL.q (Yld.bin rfl rfl (by first | exact BinV.rem (by omega) (by omega) | exact BinV.remW (by omega))) rfl ?_
    refine RL.q (Yld.convIs Try.underlying32 Try.underlying3 rfl (by first | exact IntWalk.i64_in _ ⟨by omega, by omega⟩ | rfl)) rfl ?_
    refine RL.q (Yld.bin rfl rfl (by first | exact BinV.add (by omega) (by omega) | exact BinV.addW)) rfl ?_
    refine RL.q (Yld.assign rfl) rfl ?_
    refine RL.nil ?_
    refine N.next ?_
    refine W.keep (.cons (k := 1) rfl (.cons (k := 2) rfl (.cons (k := 3) rfl (.cons (k := 9) rfl (.cons (k := 11) rfl .nil))))) (.cons (k := 0) rfl (.cons (k := 1) rfl (.cons (k := 109) rfl (.cons (k := 171) rfl (.cons (k := 172) rfl .nil))))) ?_
    refine W.seq ?_
    refine W.region ?_
    refine RL.q (Yld.move rfl) rfl ?_
    refine RL.q (Yld.move rfl) rfl ?_
    refine RL.q (Yld.move rfl) rfl ?_
    refine RL.e (Eff.call ent16 [] [170] (.cons rfl (.cons rfl (.cons rfl .nil))) (vnew_ct (1 + me % 400) t vd) rfl rfl rfl rfl (by rintro _ _ ⟨_, _, rfl⟩; rfl)) rfl ?_
    rintro _ _ ⟨_, ⟨bp, rfl, rfl⟩, rfl⟩
    refine RL.q (Yld.move rfl) rfl ?_
    refine RL.q (Yld.move rfl) rfl ?_
    refine RL.q (Yld.move rfl) rfl ?_
    refine RL.e (Eff.call ent24 [] [] (.cons rfl (.cons rfl (.cons rfl .nil))) (rvnew_ct (1 + me % 400) t vd) rfl rfl rfl rfl (by rintro _ _ ⟨_, rfl⟩; rfl)) rfl ?_
    rintro _ _ ⟨_, ⟨rfl, rfl⟩, rfl⟩
    obtain ⟨v0, hv0⟩ : ∃ v, nw (1 + me % 400) t vd = v := ⟨_, rfl⟩
    have hn0 : v0.vs = none := by rw [← hv0]; rfl
    rw [hv0] at hk0 ⊢
    refine RL.e (Eff.alloc 113 zc48) rfl ?_
    rintro _ _ ⟨b13, rfl, rfl⟩
    refine RL.q (Yld.assign rfl) rfl ?_
    refine RL.e0 (Eff.storeS (c := 113) _ sz48 rfl rfl rfl rfl rfl rfl rfl (by (try simp only [putAt, List.take, List.drop, List.nil_append, List.cons_append, List.append_nil, List.length_cons, List.length_nil, Nat.add_zero, Nat.zero_add, Nat.reduceAdd]); rfl)) ?_
    rintro _ _ rfl
    refine RL.nil ?_
    refine N.next ?_
    refine W.keep (.cons (k := 3) rfl (.cons (k := 9) rfl (.cons (k := 12) rfl (.cons (k := 13) rfl .nil)))) (.cons (k := 0) rfl (.cons (k := 1) rfl (.cons (k := 109) rfl (.cons (k := 113) rfl (.cons (k := 170) rfl (.cons (k := 171) rfl (.cons (k := 172) rfl .nil))))))) ?_
    refine W.seq ?_
    refine W.seq ?_
    refine W.region ?_
    refine RL.q (Yld.move rfl) rfl ?_
    refine RL.q (Yld.bin rfl rfl (BinV.eqlPN Try.underlying35)) rfl ?_
    refine RL.q (Yld.move rfl) rfl ?_
    first | refine RL.as (t := 51) rfl (boolF (by first | assumption | omega | (simp; done))) ?_ | refine RL.as (t := 51) (v := .bool false) rfl rfl ?_
    refine RL.gq rfl rfl (Yld.move rfl) rfl ?_
    refine RL.gq rfl rfl (Yld.loadW (c := 113) Try.underlying48 rfl sz48 rfl rfl (by first | exact single_self _ _ | exact pset_self _ _ _ | assumption) rfl) rfl ?_
    refine RL.gq rfl rfl (Yld.loadW (c := 109) Try.underlying24 rfl sz24 rfl rfl (by first | exact single_self _ _ | exact pset_self _ _ _ | assumption) rfl) rfl ?_
    refine RL.ge rfl rfl (Eff.call ent25 [170, 171, 172, 1] [170, 171, 172, 1] (.cons rfl (.cons rfl (.cons rfl .nil))) (same_ct bp v0 none emp (by rw [hn0]; trivial) 100 (by omega) hk0 emp none 0 (by rw [hn0]; exact ⟨rfl, rfl⟩) x H1 hx (by omega) (by omega)) rfl rfl rfl rfl (by rintro _ _ ⟨_, rfl⟩; rfl)) rfl ?_
    rintro _ _ ⟨_, ⟨rfl, rfl⟩, rfl⟩
    refine RL.gq rfl rfl (by first | exact Yld.notD rfl | exact Yld.not rfl) rfl ?_
    refine RL.q (by first | exact Yld.pickT rfl rfl | exact Yld.pickF rfl rfl) rfl ?_
    refine RL.nil ?_
    refine N.next ?_
    refine W.keep (.cons (k := 3) rfl (.cons (k := 9) rfl (.cons (k := 12) rfl (.cons (k := 13) rfl (.cons (k := 57) rfl .nil))))) (.cons (k := 0) rfl (.cons (k := 1) rfl (.cons (k := 109) rfl (.cons (k := 113) rfl (.cons (k := 170) rfl (.cons (k := 171) rfl (.cons (k := 172) rfl .nil))))))) ?_
    first | (refine W.as (t := 57) rfl (boolF (by first | assumption | omega | (simp; done))) ?_; refine W.condF rfl ?_) | refine W.condF rfl ?_
    refine W.skip ?_
    refine N.next ?_
    refine W.seq ?_
    refine W.seq ?_
    refine W.region ?_
    refine RL.q (Yld.move rfl) rfl ?_
    refine RL.q (Yld.lenSl Try.underlying33 rfl) rfl ?_
    refine RL.q (Yld.move rfl) rfl ?_
    refine RL.nil ?_
    refine N.next ?_
    refine W.block ?_
    refine W.loopK (ι := LI) (fun y => (y.i ≤ ops.length ∧ VM y.o (runs v0 (ops.take y.i)).vs y.G ∧ Sl y.H y.p y.c 1 (iz (((runs v0 (ops.take y.i))).vs.getD [])))) (fun y => [(12, .pointer (some ⟨y.bp, 0, none⟩)), (60, .int .i64 (y.i : Nat))]) (fun y => [(113, single b13 (.cells [.int .i64 ((runs v0 (ops.take y.i))).me, .int .i64 ((runs v0 (ops.take y.i))).tm, .int .i64 ((runs v0 (ops.take y.i))).vd, .bool ((runs v0 (ops.take y.i))).vs.isSome, .slice y.p (((runs v0 (ops.take y.i))).vs.getD []).length y.c].toArray 48 (0, 0))), (170, single y.bp (.cells [.int .i64 ((runs v0 (ops.take y.i))).me, .int .i64 ((runs v0 (ops.take y.i))).tm, .int .i64 ((runs v0 (ops.take y.i))).vd, .map y.o].toArray 64 (0, 0))), (171, y.G), (172, y.H)]) (fun y => ops.length - y.i) (.cons (k := 3) rfl (.cons (k := 9) rfl (.cons (k := 13) rfl (.cons (k := 59) rfl .nil)))) (.cons (k := 0) rfl (.cons (k := 1) rfl (.cons (k := 109) rfl .nil))) ⟨0, bp, none, emp, emp, none, 0⟩ ?_ ?_ ?_ ?_
    · exact ⟨Nat.zero_le _, by show VM none v0.vs emp; rw [hn0]; trivial, by show Sl emp none 0 1 (iz (v0.vs.getD [])); rw [hn0]; exact ⟨rfl, rfl⟩⟩
    · exact (.as rfl (by first | rfl | (simp; done) | (congr 1; simp; done) | (congr 1; omega)) (.as rfl (by first | rfl | (simp; done) | (congr 1; simp; done) | (congr 1; omega)) .nil))
    · exact (.cons rfl (.cons rfl (.cons rfl (.cons rfl .nil))))
    rintro y ⟨hi, hG, hSy⟩
    refine W.keep (.cons (k := 12) rfl (.cons (k := 60) rfl (.cons (k := 3) rfl (.cons (k := 9) rfl (.cons (k := 13) rfl (.cons (k := 59) rfl .nil)))))) (.cons (k := 113) rfl (.cons (k := 170) rfl (.cons (k := 171) rfl (.cons (k := 172) rfl (.cons (k := 0) rfl (.cons (k := 1) rfl (.cons (k := 109) rfl .nil))))))) ?_
    refine W.seq ?_
    refine W.region ?_
    refine RL.q (Yld.bin rfl rfl BinV.lss) rfl ?_
    refine RL.nil ?_
    refine N.next ?_
    refine W.seq ?_
    first | refine W.condD rfl (fun hc61 => ?_) (fun hc61 => ?_) | (refine W.cond rfl (fun hc61 => ?_) (fun hc61 => ?_) <;> try simp only [Bool.or_eq_true, Bool.and_eq_true, Bool.not_eq_true', Bool.not_eq_false', decide_eq_true_eq, Bool.or_eq_false_iff, Bool.and_eq_false_iff, decide_eq_false_iff_not, beq_iff_eq, beq_eq_false_iff_ne, ne_eq, Decidable.not_not] at hc61)
    ·
      obtain ⟨o, ho⟩ : ∃ o, ops[y.i]? = some o := ⟨_, List.getElem?_eq_getElem (show y.i < ops.length by omega)⟩
      have hlo : (ops.map OpV.cells)[y.i]? = some [.int .i64 o.kd, .int .i64 o.a, .int .i64 o.b, .bool o.y, .bool o.n] := by simp [ho, OpV.cells]
      have hoo := hok o (List.mem_of_getElem? ho)
      have hkk : ∀ i, VOK 200 (runs v0 (ops.take i)) := fun i => (runs_ok (l := ops.take i) (fun o h => hok o (List.mem_of_mem_take h)) hk0).le (by rw [List.length_take]; omega)
      have hky := hkk y.i
      have hky' := hkk (y.i + 1)
      refine W.skip ?_
      refine N.next ?_
      refine W.seq ?_
      refine W.block ?_
      refine W.seq ?_
      refine W.region ?_
      refine RL.q (Yld.move rfl) rfl ?_
      refine RL.q (Yld.assign rfl) rfl ?_
      refine RL.nil ?_
      refine N.next ?_
      refine W.seq ?_
      refine W.draw (.q 0 (.q 1 (.q 2 (.q 3 (.q 4 (.q 5 (.two 6 (.q 7 (.q 8 (.q 9 (.q 10 (.one 11 (.q 12 (.one 13 (.q 14 .done)))))))) 11 (.one 6 (.q 7 (.q 8 (.q 9 (.q 10 (.q 12 (.one 13 (.q 14 .done))))))))))))))) (.cons (k := 0) rfl (.cons (k := 1) rfl (.cons (k := 109) rfl (.cons (k := 113) rfl .nil)))) mix (by kernel_rfl) (by kernel_rfl) ?_
      refine DL.q rfl (Yld.move rfl) rfl ?_
      refine DL.q rfl (Yld.loadW (c := 113) Try.underlying48 rfl sz48 rfl rfl (by first | exact single_self _ _ | exact pset_self _ _ _ | assumption) rfl) rfl ?_
      refine DL.q rfl (Yld.move rfl) rfl ?_
      refine DL.q rfl (Yld.move rfl) rfl ?_
      refine DL.q rfl (Yld.indexRow Try.underlying33 sz39 rfl rfl (by first | assumption | exact Own.sl (by assumption)) (by first | rfl | omega | (simp; done) | (simp; omega)) (by omega) (by first | omega | (simp; done) | (simp; omega))) rfl ?_
      refine DL.q rfl (by first | exact Yld.loadRow (cl := 1) Try.underlying39 rfl sz39 rfl rfl (by first | assumption | exact Own.sl (by assumption)) (by assumption) | exact Yld.loadRow (cl := 109) Try.underlying39 rfl sz39 rfl rfl (by first | assumption | exact Own.sl (by assumption)) (by assumption) | exact Yld.loadRow (cl := 113) Try.underlying39 rfl sz39 rfl rfl (by first | assumption | exact Own.sl (by assumption)) (by assumption) | exact Yld.loadRow (cl := 170) Try.underlying39 rfl sz39 rfl rfl (by first | assumption | exact Own.sl (by assumption)) (by assumption) | exact Yld.loadRow (cl := 171) Try.underlying39 rfl sz39 rfl rfl (by first | assumption | exact Own.sl (by assumption)) (by assumption) | exact Yld.loadRow (cl := 172) Try.underlying39 rfl sz39 rfl rfl (by first | assumption | exact Own.sl (by assumption)) (by assumption)) rfl ?_
      refine DL.two ?_ ?_
      ·
        refine DL.one rfl (Eff.call ent26 [170, 171, 172] [170, 171, 172] (.cons rfl (.cons rfl (.cons rfl .nil))) (step_ct y.bp (runs v0 (ops.take y.i)) y.o y.G hG 200 (by omega) hky y.H y.p y.c hSy o hoo) rfl rfl rfl rfl (by rintro _ _ ⟨_, _, _, _, _, _, _, _, _, rfl⟩; rfl)) rfl (by rintro _ _ ⟨_, ⟨bp', o', G', H', p', c', rfl, hG', hS', rfl⟩, rfl⟩; repeat (first | exact .nil | refine .cons rfl ?_)) ?_
        rintro _ _ ⟨_, ⟨bp', o', G', H', p', c', rfl, hG', hS', rfl⟩, rfl⟩
        rw [← runs_take ho] at hG' hS' ⊢
        refine DL.q rfl (Yld.move rfl) rfl ?_
        refine DL.q rfl (Yld.extract rfl rfl) rfl ?_
        refine DL.q rfl (Yld.extract rfl rfl) rfl ?_
        refine DL.q rfl (Yld.extract rfl rfl) rfl ?_
        refine DL.one rfl (Eff.alloc 116 zc48) rfl (by rintro _ _ ⟨b16, rfl, rfl⟩; repeat (first | exact .nil | refine .cons rfl ?_)) ?_
        rintro _ _ ⟨b16, rfl, rfl⟩
        refine DL.q rfl (Yld.assign rfl) rfl ?_
        refine DL.one0 rfl (Eff.storeS (c := 116) _ sz48 rfl rfl rfl rfl rfl rfl rfl (by (try simp only [putAt, List.take, List.drop, List.nil_append, List.cons_append, List.append_nil, List.length_cons, List.length_nil, Nat.add_zero, Nat.zero_add, Nat.reduceAdd]); rfl)) (by rintro _ _ rfl; repeat (first | exact .nil | refine .cons rfl ?_)) ?_
        rintro _ _ rfl
        refine DL.q rfl (Yld.assign rfl) rfl ?_
        refine DL.done ?_
        refine N.next ?_
        refine W.keep (.cons (k := 3) rfl (.cons (k := 9) rfl (.cons (k := 13) rfl (.cons (k := 15) rfl (.cons (k := 16) rfl (.cons (k := 17) rfl (.cons (k := 59) rfl (.cons (k := 60) rfl .nil)))))))) (.cons (k := 0) rfl (.cons (k := 1) rfl (.cons (k := 109) rfl (.cons (k := 113) rfl (.cons (k := 116) rfl (.cons (k := 170) rfl (.cons (k := 171) rfl (.cons (k := 172) rfl .nil)))))))) ?_
        refine W.seq ?_
        refine W.draw (.q 0 (.q 1 (.q 2 (.one 3 .done)))) (.cons (k := 0) rfl (.cons (k := 1) rfl (.cons (k := 109) rfl (.cons (k := 116) rfl (.cons (k := 170) rfl (.cons (k := 171) rfl (.cons (k := 172) rfl .nil))))))) mix (by kernel_rfl) (by kernel_rfl) ?_
        refine DL.q rfl (Yld.move rfl) rfl ?_
        refine DL.q rfl (Yld.loadW (c := 116) Try.underlying48 rfl sz48 rfl rfl (by first | exact single_self _ _ | exact pset_self _ _ _ | assumption) rfl) rfl ?_
        refine DL.q rfl (Yld.assign rfl) rfl ?_
        refine DL.one0 rfl (Eff.storeS (c := 113) _ sz48 rfl rfl rfl rfl rfl rfl rfl (by (try simp only [putAt, List.take, List.drop, List.nil_append, List.cons_append, List.append_nil, List.length_cons, List.length_nil, Nat.add_zero, Nat.zero_add, Nat.reduceAdd]); rfl)) (by rintro _ _ rfl; repeat (first | exact .nil | refine .cons rfl ?_)) ?_
        rintro _ _ rfl
        refine DL.done ?_
        refine N.next ?_
        refine W.keep (.cons (k := 3) rfl (.cons (k := 9) rfl (.cons (k := 12) rfl (.cons (k := 13) rfl (.cons (k := 17) rfl (.cons (k := 59) rfl (.cons (k := 60) rfl .nil))))))) (.cons (k := 0) rfl (.cons (k := 1) rfl (.cons (k := 109) rfl (.cons (k := 113) rfl (.cons (k := 116) rfl (.cons (k := 170) rfl (.cons (k := 171) rfl (.cons (k := 172) rfl .nil)))))))) ?_
        refine W.seq ?_
        refine W.region ?_
        refine RL.q (Yld.move rfl) rfl ?_
        refine RL.q (by first | exact Yld.notD rfl | exact Yld.not rfl) rfl ?_
        refine RL.q (Yld.move rfl) rfl ?_
        first | refine RL.as (t := 78) rfl (boolF (by first | assumption | omega | (simp; done))) ?_ | refine RL.as (t := 78) (v := .bool false) rfl rfl ?_
        refine RL.gq rfl rfl (Yld.move rfl) rfl ?_
        refine RL.gq rfl rfl (Yld.loadW (c := 113) Try.underlying48 rfl sz48 rfl rfl (by first | exact single_self _ _ | exact pset_self _ _ _ | assumption) rfl) rfl ?_
        refine RL.gq rfl rfl (Yld.loadW (c := 109) Try.underlying24 rfl sz24 rfl rfl (by first | exact single_self _ _ | exact pset_self _ _ _ | assumption) rfl) rfl ?_
        refine RL.ge rfl rfl (Eff.call ent25 [170, 171, 172, 1] [170, 171, 172, 1] (.cons rfl (.cons rfl (.cons rfl .nil))) (same_ct bp' (runs v0 (ops.take (y.i + 1))) o' G' hG' 200 (by omega) hky' H' p' c' hS' x H1 hx (by omega) (by omega)) rfl rfl rfl rfl (by rintro _ _ ⟨_, rfl⟩; rfl)) rfl ?_
        rintro _ _ ⟨_, ⟨rfl, rfl⟩, rfl⟩
        refine RL.gq rfl rfl (by first | exact Yld.notD rfl | exact Yld.not rfl) rfl ?_
        refine RL.q (by first | exact Yld.pickT rfl rfl | exact Yld.pickF rfl rfl) rfl ?_
        refine RL.nil ?_
        refine N.next ?_
        refine W.keep (.cons (k := 3) rfl (.cons (k := 9) rfl (.cons (k := 12) rfl (.cons (k := 13) rfl (.cons (k := 59) rfl (.cons (k := 60) rfl (.cons (k := 84) rfl .nil))))))) (.cons (k := 0) rfl (.cons (k := 1) rfl (.cons (k := 109) rfl (.cons (k := 113) rfl (.cons (k := 116) rfl (.cons (k := 170) rfl (.cons (k := 171) rfl (.cons (k := 172) rfl .nil)))))))) ?_
        first | (refine W.as (t := 84) rfl (boolF (by first | assumption | omega | (simp; done))) ?_; refine W.condF rfl ?_) | refine W.condF rfl ?_
        refine W.skip ?_
        refine N.block_normal ?_
        refine N.next ?_
        refine W.region ?_
        refine RL.q (Yld.bin rfl rfl (by first | exact BinV.add (by omega) (by omega) | exact BinV.addW)) rfl ?_
        refine RL.q (Yld.move rfl) rfl ?_
        refine RL.nil ?_
        exact N.famK ⟨y.i + 1, bp', o', G', H', p', c'⟩ ⟨⟨by dsimp only; omega, hG', hS'⟩, by dsimp only; omega⟩ (.as rfl (by first | rfl | (simp; done) | (congr 1; simp; done) | (congr 1; omega)) (.as rfl (by first | rfl | (simp; done) | (congr 1; simp; done) | (congr 1; omega)) .nil)) (.cons rfl (.cons rfl (.cons rfl (.cons rfl .nil)))) (.cons rfl (.cons rfl (.cons rfl (.cons rfl .nil)))) (.cons rfl (.cons rfl (.cons rfl .nil)))
      ·
        refine DL.one rfl (Eff.alloc 116 zc48) rfl (by rintro _ _ ⟨b16, rfl, rfl⟩; repeat (first | exact .nil | refine .cons rfl ?_)) ?_
        rintro _ _ ⟨b16, rfl, rfl⟩
        refine DL.one rfl (Eff.call ent26 [170, 171, 172] [170, 171, 172] (.cons rfl (.cons rfl (.cons rfl .nil))) (step_ct y.bp (runs v0 (ops.take y.i)) y.o y.G hG 200 (by omega) hky y.H y.p y.c hSy o hoo) rfl rfl rfl rfl (by rintro _ _ ⟨_, _, _, _, _, _, _, _, _, rfl⟩; rfl)) rfl (by rintro _ _ ⟨_, ⟨bp', o', G', H', p', c', rfl, hG', hS', rfl⟩, rfl⟩; repeat (first | exact .nil | refine .cons rfl ?_)) ?_
        rintro _ _ ⟨_, ⟨bp', o', G', H', p', c', rfl, hG', hS', rfl⟩, rfl⟩
        rw [← runs_take ho] at hG' hS' ⊢
        refine DL.q rfl (Yld.move rfl) rfl ?_
        refine DL.q rfl (Yld.extract rfl rfl) rfl ?_
        refine DL.q rfl (Yld.extract rfl rfl) rfl ?_
        refine DL.q rfl (Yld.extract rfl rfl) rfl ?_
        refine DL.q rfl (Yld.assign rfl) rfl ?_
        refine DL.one0 rfl (Eff.storeS (c := 116) _ sz48 rfl rfl rfl rfl rfl rfl rfl (by (try simp only [putAt, List.take, List.drop, List.nil_append, List.cons_append, List.append_nil, List.length_cons, List.length_nil, Nat.add_zero, Nat.zero_add, Nat.reduceAdd]); rfl)) (by rintro _ _ rfl; repeat (first | exact .nil | refine .cons rfl ?_)) ?_
        rintro _ _ rfl
        refine DL.q rfl (Yld.assign rfl) rfl ?_
        refine DL.done ?_
        refine N.next ?_
        refine W.keep (.cons (k := 3) rfl (.cons (k := 9) rfl (.cons (k := 13) rfl (.cons (k := 15) rfl (.cons (k := 16) rfl (.cons (k := 17) rfl (.cons (k := 59) rfl (.cons (k := 60) rfl .nil)))))))) (.cons (k := 0) rfl (.cons (k := 1) rfl (.cons (k := 109) rfl (.cons (k := 113) rfl (.cons (k := 116) rfl (.cons (k := 170) rfl (.cons (k := 171) rfl (.cons (k := 172) rfl .nil)))))))) ?_
        refine W.seq ?_
        refine W.draw (.q 0 (.q 1 (.q 2 (.one 3 .done)))) (.cons (k := 0) rfl (.cons (k := 1) rfl (.cons (k := 109) rfl (.cons (k := 116) rfl (.cons (k := 170) rfl (.cons (k := 171) rfl (.cons (k := 172) rfl .nil))))))) mix (by kernel_rfl) (by kernel_rfl) ?_
        refine DL.q rfl (Yld.move rfl) rfl ?_
        refine DL.q rfl (Yld.loadW (c := 116) Try.underlying48 rfl sz48 rfl rfl (by first | exact single_self _ _ | exact pset_self _ _ _ | assumption) rfl) rfl ?_
        refine DL.q rfl (Yld.assign rfl) rfl ?_
        refine DL.one0 rfl (Eff.storeS (c := 113) _ sz48 rfl rfl rfl rfl rfl rfl rfl (by (try simp only [putAt, List.take, List.drop, List.nil_append, List.cons_append, List.append_nil, List.length_cons, List.length_nil, Nat.add_zero, Nat.zero_add, Nat.reduceAdd]); rfl)) (by rintro _ _ rfl; repeat (first | exact .nil | refine .cons rfl ?_)) ?_
        rintro _ _ rfl
        refine DL.done ?_
        refine N.next ?_
        refine W.keep (.cons (k := 3) rfl (.cons (k := 9) rfl (.cons (k := 12) rfl (.cons (k := 13) rfl (.cons (k := 17) rfl (.cons (k := 59) rfl (.cons (k := 60) rfl .nil))))))) (.cons (k := 0) rfl (.cons (k := 1) rfl (.cons (k := 109) rfl (.cons (k := 113) rfl (.cons (k := 116) rfl (.cons (k := 170) rfl (.cons (k := 171) rfl (.cons (k := 172) rfl .nil)))))))) ?_
        refine W.seq ?_
        refine W.region ?_
        refine RL.q (Yld.move rfl) rfl ?_
        refine RL.q (by first | exact Yld.notD rfl | exact Yld.not rfl) rfl ?_
        refine RL.q (Yld.move rfl) rfl ?_
        first | refine RL.as (t := 78) rfl (boolF (by first | assumption | omega | (simp; done))) ?_ | refine RL.as (t := 78) (v := .bool false) rfl rfl ?_
        refine RL.gq rfl rfl (Yld.move rfl) rfl ?_
        refine RL.gq rfl rfl (Yld.loadW (c := 113) Try.underlying48 rfl sz48 rfl rfl (by first | exact single_self _ _ | exact pset_self _ _ _ | assumption) rfl) rfl ?_
        refine RL.gq rfl rfl (Yld.loadW (c := 109) Try.underlying24 rfl sz24 rfl rfl (by first | exact single_self _ _ | exact pset_self _ _ _ | assumption) rfl) rfl ?_
        refine RL.ge rfl rfl (Eff.call ent25 [170, 171, 172, 1] [170, 171, 172, 1] (.cons rfl (.cons rfl (.cons rfl .nil))) (same_ct bp' (runs v0 (ops.take (y.i + 1))) o' G' hG' 200 (by omega) hky' H' p' c' hS' x H1 hx (by omega) (by omega)) rfl rfl rfl rfl (by rintro _ _ ⟨_, rfl⟩; rfl)) rfl ?_
        rintro _ _ ⟨_, ⟨rfl, rfl⟩, rfl⟩
        refine RL.gq rfl rfl (by first | exact Yld.notD rfl | exact Yld.not rfl) rfl ?_
        refine RL.q (by first | exact Yld.pickT rfl rfl | exact Yld.pickF rfl rfl) rfl ?_
        refine RL.nil ?_
        refine N.next ?_
        refine W.keep (.cons (k := 3) rfl (.cons (k := 9) rfl (.cons (k := 12) rfl (.cons (k := 13) rfl (.cons (k := 59) rfl (.cons (k := 60) rfl (.cons (k := 84) rfl .nil))))))) (.cons (k := 0) rfl (.cons (k := 1) rfl (.cons (k := 109) rfl (.cons (k := 113) rfl (.cons (k := 116) rfl (.cons (k := 170) rfl (.cons (k := 171) rfl (.cons (k := 172) rfl .nil)))))))) ?_
        first | (refine W.as (t := 84) rfl (boolF (by first | assumption | omega | (simp; done))) ?_; refine W.condF rfl ?_) | refine W.condF rfl ?_
        refine W.skip ?_
        refine N.block_normal ?_
        refine N.next ?_
        refine W.region ?_
        refine RL.q (Yld.bin rfl rfl (by first | exact BinV.add (by omega) (by omega) | exact BinV.addW)) rfl ?_
        refine RL.q (Yld.move rfl) rfl ?_
        refine RL.nil ?_
        exact N.famK ⟨y.i + 1, bp', o', G', H', p', c'⟩ ⟨⟨by dsimp only; omega, hG', hS'⟩, by dsimp only; omega⟩ (.as rfl (by first | rfl | (simp; done) | (congr 1; simp; done) | (congr 1; omega)) (.as rfl (by first | rfl | (simp; done) | (congr 1; simp; done) | (congr 1; omega)) .nil)) (.cons rfl (.cons rfl (.cons rfl (.cons rfl .nil)))) (.cons rfl (.cons rfl (.cons rfl (.cons rfl .nil)))) (.cons rfl (.cons rfl (.cons rfl .nil)))
    ·
      refine W.exit ?_
      refine N.then_exit ?_
      refine N.then_exit ?_
      refine N.block_eq ?_
      refine N.next ?_
      refine W.keep .nil (.cons (k := 0) rfl (.cons (k := 1) rfl (.cons (k := 109) rfl (.cons (k := 113) rfl (.cons (k := 170) rfl (.cons (k := 171) rfl (.cons (k := 172) rfl .nil))))))) ?_
      refine W.seq ?_
      refine W.region ?_
      refine RL.q (Yld.assign rfl) rfl ?_
      refine RL.nil ?_
      refine N.next ?_
      refine W.ret ?_
      exact N.retBy [1] (.cons (.tmp rfl) .nil) rfl rfl rfl rfl ⟨rfl, rfl⟩

end Go.Proofs.Ytldnbbnaighakaa
