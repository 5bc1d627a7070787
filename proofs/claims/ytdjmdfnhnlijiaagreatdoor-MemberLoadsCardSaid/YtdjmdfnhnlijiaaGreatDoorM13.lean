/- MemberLoads. Written by program (walk2.py). -/
import Derived.Test.YtdjmdfnhnlijiaaGreatDoorM12
namespace Go.Proofs.YtdjmdfnhnlijiaaGreatDoor
open SL Cfg Memb
set_option linter.unusedVariables false
set_option linter.unusedSimpArgs false
theorem ent21 : Ent Tryz.prog 21 := ⟨_, _, Tryz.func21, by kernel_rfl, rfl⟩
theorem ent24 : Ent Tryz.prog 24 := ⟨_, _, Tryz.func24, by kernel_rfl, rfl⟩
theorem Memb.encC_byt {o n l : List Int} (ho : AllI o) (hn : AllI n) (hl : AllI l) (h1 : o.length ≤ 10000) (h2 : n.length ≤ 10000) (h3 : l.length ≤ 10000) : Byt (encC o n l) := ((encL_byt ho (by omega)).app (encL_byt hn (by omega))).app (encL_byt hl (by omega))
theorem Memb.encC_le {o n l : List Int} (ho : AllI o) (hn : AllI n) (hl : AllI l) (h1 : o.length ≤ 10000) (h2 : n.length ≤ 10000) (h3 : l.length ≤ 10000) : (encC o n l).length ≤ 270027 := by
  have e1 := encL_le ho (by omega)
  have e2 := encL_le hn (by omega)
  have e3 := encL_le hl (by omega)
  unfold encC
  simp only [List.length_append]
  omega
theorem Memb.sms_of {x : Cf} (h : (AllI x.o ∧ AllI x.n ∧ AllI x.l) ∧ x.o.length ≤ 10000 ∧ x.n.length ≤ 10000 ∧ x.l.length ≤ 10000) : SmS [(x.po, x.co, x.o), (x.pn, x.cn, x.n), (x.pl, x.cl, x.l)] := by
  intro s hs
  simp only [List.mem_cons, List.not_mem_nil, or_false] at hs
  rcases hs with rfl | rfl | rfl
  · exact ⟨h.1.1, h.2.1⟩
  · exact ⟨h.1.2.1, h.2.2.1⟩
  · exact ⟨h.1.2.2, h.2.2.2⟩
structure Memb.LI where
  j : Nat
  x : Cf
  G : PH
  h : Cf
  K : PH

set_option maxRecDepth 100000 in
set_option maxHeartbeats 6400000 in
theorem loads_ct (vs : List Int) (H : PH) (p : Option Addr) (e : Nat) (hv : Sl H p e 1 (iz vs)) (hvi : ∀ z ∈ vs, -9223372036854775808 ≤ z ∧ z ≤ 9223372036854775807) (l : List Ch) (q : Option Addr) (d : Nat) (hS : Sl H q d 4 (l.map Ch.cells)) (hC : ∀ c ∈ l, c.In H) (hR : ∀ c ∈ l, c.Ri) (l2 : List Ch) (q2 : Option Addr) (d2 : Nat) (hS2 : Sl H q2 d2 4 (l2.map Ch.cells)) (hC2 : ∀ c ∈ l2, c.In H) (hR2 : ∀ c ∈ l2, c.Ri) (s : ByteArray) (hT : TabH H) : Ct Tryz.prog 5 [.slice p vs.length e, .slice q l.length d, .slice q2 l2.length d2, .string s] [H] (fun v Hs => v = .bool true ∧ Hs = [H]) := by
  refine Ct.body Tryz.func5 rfl Tryz.ntmps5 rfl ?_
  intro E F
  have hml := hS.len_le
  simp only [List.length_map, maxLen] at hml
  have hml2 := hS2.len_le
  simp only [List.length_map, maxLen] at hml2
  have hmv := hv.len_le
  simp only [iz_len, maxLen] at hmv
  have hbt := nums_byt s
  have hnl := nums_len s
  refine W.seq ?_
  refine W.region ?_
  refine RL.q (Yld.assign rfl) rfl ?_
  refine RL.nil ?_
  refine N.next ?_
  refine W.seq ?_
  refine W.seq ?_
  refine W.region ?_
  refine RL.e (Eff.call ent6 [1] [1] .nil (awake_ct H hT) rfl rfl rfl rfl (by rintro _ _ ⟨_, rfl⟩; rfl)) rfl ?_
  rintro _ _ ⟨_, ⟨rfl, rfl⟩, rfl⟩
  refine RL.q (by first | exact Yld.notD rfl | exact Yld.not rfl) rfl ?_
  refine RL.nil ?_
  refine N.next ?_
  first | (refine W.as (t := 19) rfl (boolF (by first | assumption | omega | (simp; done))) ?_; refine W.condF rfl ?_) | refine W.condF rfl ?_
  refine W.skip ?_
  refine N.next ?_
  refine W.seq ?_
  refine W.seq ?_
  refine W.region ?_
  refine RL.q (Yld.move rfl) rfl ?_
  refine RL.e (Eff.call ent7 [1] [1] (.cons rfl (.cons rfl .nil)) (few_ct l q d H hS 10) rfl rfl rfl rfl (by rintro _ _ ⟨_, rfl⟩; rfl)) rfl ?_
  rintro _ _ ⟨_, ⟨rfl, rfl⟩, rfl⟩
  refine RL.q (by first | exact Yld.notD rfl | exact Yld.not rfl) rfl ?_
  refine RL.q (Yld.move rfl) rfl ?_
  refine' RL.or (t := 23) (d := 27) 4 rfl (.cons (k := 0) rfl (.cons (k := 1) rfl (.cons (k := 2) rfl (.cons (k := 3) rfl (.cons (k := 8) rfl (.cons (k := 18) rfl (.cons (k := 19) rfl (.cons (k := 20) rfl (.cons (k := 21) rfl (.cons (k := 22) rfl .nil)))))))))) (.cons (k := 0) rfl (.cons (k := 1) rfl .nil)) ?_ ?_ ?_
  rotate_left 1
  ·
    intro hg23
    refine RL.gq rfl rfl (Yld.move rfl) rfl ?_
    refine RL.ge rfl rfl (Eff.call ent7 [1] [1] (.cons rfl (.cons rfl .nil)) (few_ct l2 q2 d2 H hS2 10) rfl rfl rfl rfl (by rintro _ _ ⟨_, rfl⟩; rfl)) rfl ?_
    rintro _ _ ⟨_, ⟨rfl, rfl⟩, rfl⟩
    refine RL.gq rfl rfl (by first | exact Yld.notD rfl | exact Yld.not rfl) rfl ?_
    refine RL.q (by first | exact Yld.pickT rfl rfl | exact Yld.pickF rfl rfl) rfl ?_
    exact RL.nil (N.meet (.cons rfl (.cons rfl (.cons rfl (.cons rfl (.cons rfl (.cons rfl (.cons rfl (.cons rfl (.cons rfl (.cons rfl (.cons rfl .nil))))))))))) (.cons rfl (.cons rfl .nil)))
  ·
    intro hg23
    refine RL.gskip rfl rfl rfl rfl ?_
    refine RL.gskip rfl rfl rfl rfl ?_
    refine RL.gskip rfl rfl rfl rfl ?_
    refine RL.q (by first | exact Yld.pickT rfl rfl | exact Yld.pickF rfl rfl) rfl ?_
    exact RL.nil (N.meet (.cons rfl (.cons rfl (.cons rfl (.cons rfl (.cons rfl (.cons rfl (.cons rfl (.cons rfl (.cons rfl (.cons rfl (.cons rfl .nil))))))))))) (.cons rfl (.cons rfl .nil)))
  refine RL.q (Yld.move rfl) rfl ?_
  refine' RL.or (t := 28) (d := 32) 4 rfl (.cons (k := 0) rfl (.cons (k := 1) rfl (.cons (k := 2) rfl (.cons (k := 3) rfl (.cons (k := 8) rfl (.cons (k := 18) rfl (.cons (k := 19) rfl (.cons (k := 20) rfl (.cons (k := 21) rfl (.cons (k := 22) rfl (.cons (k := 27) rfl .nil))))))))))) (.cons (k := 0) rfl (.cons (k := 1) rfl .nil)) ?_ ?_ ?_
  rotate_left 1
  ·
    intro hg28
    refine RL.gq rfl rfl (Yld.move rfl) rfl ?_
    refine RL.gq rfl rfl (Yld.lenSl Tryz.underlying22 rfl) rfl ?_
    refine RL.gq rfl rfl (Yld.bin rfl rfl BinV.gtr) rfl ?_
    refine RL.q (by first | exact Yld.pickT rfl rfl | exact Yld.pickF rfl rfl) rfl ?_
    exact RL.nil (N.meet (.cons rfl (.cons rfl (.cons rfl (.cons rfl (.cons rfl (.cons rfl (.cons rfl (.cons rfl (.cons rfl (.cons rfl (.cons rfl (.cons rfl .nil)))))))))))) (.cons rfl (.cons rfl .nil)))
  ·
    intro hg28
    refine RL.gskip rfl rfl rfl rfl ?_
    refine RL.gskip rfl rfl rfl rfl ?_
    refine RL.gskip rfl rfl rfl rfl ?_
    refine RL.q (by first | exact Yld.pickT rfl rfl | exact Yld.pickF rfl rfl) rfl ?_
    exact RL.nil (N.meet (.cons rfl (.cons rfl (.cons rfl (.cons rfl (.cons rfl (.cons rfl (.cons rfl (.cons rfl (.cons rfl (.cons rfl (.cons rfl (.cons rfl .nil)))))))))))) (.cons rfl (.cons rfl .nil)))
  refine RL.q (Yld.move rfl) rfl ?_
  refine' RL.or (t := 33) (d := 37) 4 rfl (.cons (k := 0) rfl (.cons (k := 1) rfl (.cons (k := 2) rfl (.cons (k := 3) rfl (.cons (k := 8) rfl (.cons (k := 18) rfl (.cons (k := 19) rfl (.cons (k := 20) rfl (.cons (k := 21) rfl (.cons (k := 22) rfl (.cons (k := 27) rfl (.cons (k := 32) rfl .nil)))))))))))) (.cons (k := 0) rfl (.cons (k := 1) rfl .nil)) ?_ ?_ ?_
  rotate_left 1
  ·
    intro hg33
    refine RL.gq rfl rfl (Yld.move rfl) rfl ?_
    refine RL.gq rfl rfl (Yld.lenS Tryz.underlying9 rfl) rfl ?_
    refine RL.gq rfl rfl (Yld.bin rfl rfl BinV.gtr) rfl ?_
    refine RL.q (by first | exact Yld.pickT rfl rfl | exact Yld.pickF rfl rfl) rfl ?_
    exact RL.nil (N.meet (.cons rfl (.cons rfl (.cons rfl (.cons rfl (.cons rfl (.cons rfl (.cons rfl (.cons rfl (.cons rfl (.cons rfl (.cons rfl (.cons rfl (.cons rfl .nil))))))))))))) (.cons rfl (.cons rfl .nil)))
  ·
    intro hg33
    refine RL.gskip rfl rfl rfl rfl ?_
    refine RL.gskip rfl rfl rfl rfl ?_
    refine RL.gskip rfl rfl rfl rfl ?_
    refine RL.q (by first | exact Yld.pickT rfl rfl | exact Yld.pickF rfl rfl) rfl ?_
    exact RL.nil (N.meet (.cons rfl (.cons rfl (.cons rfl (.cons rfl (.cons rfl (.cons rfl (.cons rfl (.cons rfl (.cons rfl (.cons rfl (.cons rfl (.cons rfl (.cons rfl .nil))))))))))))) (.cons rfl (.cons rfl .nil)))
  refine RL.nil ?_
  refine N.next ?_
  refine W.keep (.cons (k := 0) rfl (.cons (k := 1) rfl (.cons (k := 2) rfl (.cons (k := 3) rfl (.cons (k := 37) rfl .nil))))) (.cons (k := 0) rfl (.cons (k := 1) rfl .nil)) ?_
  refine W.cond rfl (fun hc37 => ?_) (fun hc37 => ?_)
  ·
    refine W.seq ?_
    refine W.region ?_
    refine RL.q (Yld.assign rfl) rfl ?_
    refine RL.nil ?_
    refine N.next ?_
    refine W.keep (.cons (k := 8) rfl .nil) (.cons (k := 0) rfl (.cons (k := 1) rfl .nil)) ?_
    refine W.ret ?_
    refine N.then_ret ?_
    exact N.retBy [1] (.cons (.tmp rfl) .nil) rfl rfl rfl rfl ⟨rfl, rfl⟩
  ·
    simp only [Bool.or_eq_false_iff, Bool.not_eq_false', decide_eq_true_eq, decide_eq_false_iff_not, Classical.not_not] at hc37
    obtain ⟨⟨⟨⟨hf8, hl10⟩, hf82, hl102⟩, hv8⟩, hs80⟩ := hc37
    have hv8 : vs.length ≤ 8 := by omega
    have hI : ∀ c ∈ l, c.Sm := fun c h => ⟨(hf8 c h).1, (hf8 c h).2, hR c h⟩
    have hI2 : ∀ c ∈ l2, c.Sm := fun c h => ⟨(hf82 c h).1, (hf82 c h).2, hR2 c h⟩
    refine W.skip ?_
    refine N.next ?_
    refine W.seq ?_
    refine W.region ?_
    refine RL.q (Yld.move rfl) rfl ?_
    refine RL.q (Yld.move rfl) rfl ?_
    refine RL.e (Eff.call ent9 [1] [1, 150, 151, 152] (.cons rfl (.cons rfl .nil)) (run_ct vs H p e hv hvi l q d hS hC hI hv8 (by omega)) rfl rfl rfl rfl (by rintro _ _ ⟨_, _, _, _, _, _, _, _, _, _, rfl⟩; rfl)) rfl ?_
    rintro _ _ ⟨_, ⟨b, x, G, w, H2, rfl, hx, hw, hgl, hgw, rfl⟩, rfl⟩
    have hgk : GOK l.length (gl x) := hgl ▸ runG_OK hv8 hvi hI
    have hsx := sms (k := l.length) (by omega) hgk
    have g1 := hgk.bo
    have g2 := hgk.bn
    have g3 := hgk.bl
    replace g1 : x.o.length ≤ 8 := g1
    replace g2 : x.n.length ≤ l.length := g2
    replace g3 : x.l.length ≤ 8 + l.length := g3
    have hge := enc_good (o := x.o) (n := x.n) (l := x.l) (k := l.length) (by omega) hgk
    have heb : Byt (encC x.o x.n x.l) := encC_byt hgk.io hgk.iN hgk.il (by omega) (by omega) (by omega)
    have hel := encC_le hgk.io hgk.iN hgk.il (show x.o.length ≤ 10000 by omega) (show x.n.length ≤ 10000 by omega) (show x.l.length ≤ 10000 by omega)
    replace hel : (encC x.o x.n x.l).length ≤ 270027 := hel
    have hge2 : good (nums (strOfNums (encC x.o x.n x.l))) ∧ decG (nums (strOfNums (encC x.o x.n x.l))) = gl x := by rw [nums_str heb]; exact hge
    refine RL.q (Yld.move rfl) rfl ?_
    refine RL.q (Yld.extract rfl rfl) rfl ?_
    refine RL.q (Yld.extract rfl rfl) rfl ?_
    refine RL.q (Yld.extract rfl rfl) rfl ?_
    refine RL.e (Eff.alloc 110 zc31) rfl ?_
    rintro _ _ ⟨b10, rfl, rfl⟩
    refine RL.q (Yld.assign rfl) rfl ?_
    refine RL.e0 (Eff.storeS (c := 110) _ sz31 rfl rfl rfl rfl rfl rfl rfl (by (try simp only [putAt, List.take, List.drop, List.nil_append, List.cons_append, List.append_nil, List.length_cons, List.length_nil, Nat.add_zero, Nat.zero_add, Nat.reduceAdd]); rfl)) ?_
    rintro _ _ rfl
    refine RL.q (Yld.assign rfl) rfl ?_
    refine RL.nil ?_
    refine N.next ?_
    refine W.keep (.cons (k := 2) rfl (.cons (k := 3) rfl (.cons (k := 9) rfl (.cons (k := 11) rfl .nil)))) (.cons (k := 0) rfl (.cons (k := 1) rfl (.cons (k := 110) rfl (.cons (k := 150) rfl (.cons (k := 151) rfl (.cons (k := 152) rfl .nil)))))) ?_
    refine W.seq ?_
    refine W.region ?_
    refine RL.e (Eff.buildSlice 145 Tryz.underlying22 sz3 zc3 rfl rfl (.cons rfl rfl .nil) rfl) rfl ?_
    rintro _ _ ⟨b45, rfl, rfl⟩
    refine RL.e (Eff.call ent20 [145] [145, 160, 161] (.cons rfl .nil) (mnew_ct [9] _ _ _ (iz_single rfl) (by simp)) rfl rfl rfl rfl (by rintro _ _ ⟨_, _, _, _, _, _, _, _, rfl⟩; rfl)) rfl ?_
    rintro _ _ ⟨_, ⟨b2, h0, Gh0, rfl, hh0, -, -, -, rfl⟩, rfl⟩
    refine RL.q (Yld.assign rfl) rfl ?_
    refine RL.nil ?_
    refine N.next ?_
    refine W.seq ?_
    refine W.seq ?_
    refine W.region ?_
    refine RL.q (Yld.move rfl) rfl ?_
    refine RL.q (by first | exact Yld.notD rfl | exact Yld.not rfl) rfl ?_
    refine RL.q (Yld.move rfl) rfl ?_
    first | refine RL.as (t := 49) rfl (boolF (by first | assumption | omega | (simp; done))) ?_ | refine RL.as (t := 49) (v := .bool false) rfl rfl ?_
    refine RL.gq rfl rfl (Yld.move rfl) rfl ?_
    refine RL.gq rfl rfl (Yld.move rfl) rfl ?_
    refine RL.ge rfl rfl (Eff.call ent22 [150, 151] [150, 151] (.cons rfl .nil) (msave_ct b x G hx hsx) rfl rfl rfl rfl (by rintro _ _ ⟨_, rfl⟩; rfl)) rfl ?_
    rintro _ _ ⟨_, ⟨rfl, rfl⟩, rfl⟩
    refine RL.ge rfl rfl (Eff.call ent21 [160, 161] [160, 161] (.cons rfl (.cons rfl .nil)) (mload_ct b2 h0 Gh0 hh0 (strOfNums (encC x.o x.n x.l)) (by rw [strOfNums_size]; omega)) rfl rfl rfl rfl (by rintro _ _ ⟨_, _, _, _, _, rfl⟩; rfl)) rfl ?_
    rintro _ _ ⟨_, ⟨h1, Gh1, rfl, hh1, hgh1, rfl⟩, rfl⟩
    rw [if_pos hge2.1, hge2.2] at hgh1
    rw [if_pos hge2.1]
    have hsh1 := sms (x := h1) (k := l.length) (by omega) (hgh1 ▸ hgk)
    have h13 : h1.o = x.o ∧ h1.n = x.n ∧ h1.l = x.l := by simpa [gl] using hgh1
    refine RL.gq rfl rfl (Yld.eq (v' := .bool false) (Yld.bin rfl rfl BinV.neq) (by rfl)) rfl ?_
    refine RL.q (by first | exact Yld.pickT rfl rfl | exact Yld.pickF rfl rfl) rfl ?_
    refine RL.q (Yld.move rfl) rfl ?_
    first | refine RL.as (t := 56) rfl (boolF (by first | assumption | omega | (simp; done))) ?_ | refine RL.as (t := 56) (v := .bool false) rfl rfl ?_
    refine RL.gq rfl rfl (Yld.move rfl) rfl ?_
    refine RL.ge rfl rfl (Eff.call ent22 [160, 161] [160, 161] (.cons rfl .nil) (msave_ct b2 h1 Gh1 hh1 hsh1) rfl rfl rfl rfl (by rintro _ _ ⟨_, rfl⟩; rfl)) rfl ?_
    rintro _ _ ⟨_, ⟨rfl, rfl⟩, rfl⟩
    refine RL.gq rfl rfl (Yld.move rfl) rfl ?_
    refine RL.ge rfl rfl (Eff.call ent22 [150, 151] [150, 151] (.cons rfl .nil) (msave_ct b x G hx hsx) rfl rfl rfl rfl (by rintro _ _ ⟨_, rfl⟩; rfl)) rfl ?_
    rintro _ _ ⟨_, ⟨rfl, rfl⟩, rfl⟩
    refine RL.gq rfl rfl (Yld.eq (v' := .bool false) (Yld.bin rfl rfl BinV.neqS) (by rw [h13.1, h13.2.1, h13.2.2]; simp)) rfl ?_
    refine RL.q (by first | exact Yld.pickT rfl rfl | exact Yld.pickF rfl rfl) rfl ?_
    refine RL.nil ?_
    refine N.next ?_
    refine W.keep (.cons (k := 2) rfl (.cons (k := 3) rfl (.cons (k := 9) rfl (.cons (k := 12) rfl (.cons (k := 62) rfl .nil))))) (.cons (k := 0) rfl (.cons (k := 1) rfl (.cons (k := 110) rfl (.cons (k := 145) rfl (.cons (k := 150) rfl (.cons (k := 151) rfl (.cons (k := 152) rfl (.cons (k := 160) rfl (.cons (k := 161) rfl .nil))))))))) ?_
    first | (refine W.as (t := 62) rfl (boolF (by first | assumption | omega | (simp; done))) ?_; refine W.condF rfl ?_) | refine W.condF rfl ?_
    refine W.skip ?_
    refine N.next ?_
    refine W.seq ?_
    refine W.seq ?_
    refine W.region ?_
    refine RL.q (Yld.move rfl) rfl ?_
    refine RL.q (Yld.lenSl Tryz.underlying23 rfl) rfl ?_
    refine RL.q (Yld.move rfl) rfl ?_
    refine RL.nil ?_
    refine N.next ?_
    refine W.block ?_
    refine W.loopK (ι := LI) (fun y => (y.j ≤ l2.length ∧ y.x.In y.G ∧ y.h.In y.K ∧ GOK (l.length + y.j) (gl y.x) ∧ gl y.h = gl y.x)) (fun y => [(65, .int .i64 (y.j : Nat))]) (fun y => [(150, single b (.cells [.slice y.x.po y.x.o.length y.x.co, .slice y.x.pn y.x.n.length y.x.cn, .slice y.x.pl y.x.l.length y.x.cl].toArray 60 (0, 0))), (151, y.G), (160, single b2 (.cells [.slice y.h.po y.h.o.length y.h.co, .slice y.h.pn y.h.n.length y.h.cn, .slice y.h.pl y.h.l.length y.h.cl].toArray 60 (0, 0))), (161, y.K)]) (fun y => l2.length - y.j) (.cons (k := 2) rfl (.cons (k := 3) rfl (.cons (k := 9) rfl (.cons (k := 12) rfl (.cons (k := 64) rfl .nil))))) (.cons (k := 0) rfl (.cons (k := 1) rfl (.cons (k := 110) rfl (.cons (k := 145) rfl (.cons (k := 152) rfl .nil))))) ⟨0, x, G, h1, Gh1⟩ ?_ ?_ ?_ ?_
    · exact ⟨Nat.zero_le _, hx, hh1, hgk, hgh1⟩
    · exact (.as rfl (by first | rfl | (simp; done) | (congr 1; simp; done) | (congr 1; omega)) .nil)
    · exact (.cons rfl (.cons rfl (.cons rfl (.cons rfl .nil))))
    rintro y ⟨hj, hyx, hyh, hyg, hye⟩
    refine W.keep (.cons (k := 65) rfl (.cons (k := 2) rfl (.cons (k := 3) rfl (.cons (k := 9) rfl (.cons (k := 12) rfl (.cons (k := 64) rfl .nil)))))) (.cons (k := 150) rfl (.cons (k := 151) rfl (.cons (k := 160) rfl (.cons (k := 161) rfl (.cons (k := 0) rfl (.cons (k := 1) rfl (.cons (k := 110) rfl (.cons (k := 145) rfl (.cons (k := 152) rfl .nil))))))))) ?_
    refine W.seq ?_
    refine W.region ?_
    refine RL.q (Yld.bin rfl rfl BinV.lss) rfl ?_
    refine RL.nil ?_
    refine N.next ?_
    refine W.seq ?_
    first | refine W.condD rfl (fun hc66 => ?_) (fun hc66 => ?_) | (refine W.cond rfl (fun hc66 => ?_) (fun hc66 => ?_) <;> try simp only [Bool.or_eq_true, Bool.and_eq_true, Bool.not_eq_true', Bool.not_eq_false', decide_eq_true_eq, Bool.or_eq_false_iff, Bool.and_eq_false_iff, decide_eq_false_iff_not, beq_iff_eq, beq_eq_false_iff_ne, ne_eq, Decidable.not_not] at hc66)
    ·
      obtain ⟨c, hcj⟩ : ∃ c, l2[y.j]? = some c := ⟨_, List.getElem?_eq_getElem (show y.j < l2.length by omega)⟩
      have hlc : (l2.map Ch.cells)[y.j]? = some [.int .i64 c.k, .int .i64 c.m, .slice c.pf c.f.length c.cf, .slice c.pt c.t.length c.ct] := by simp [hcj, Ch.cells]
      have hcc := hC2 c (List.mem_of_getElem? hcj)
      have hcs := hI2 c (List.mem_of_getElem? hcj)
      refine W.skip ?_
      refine N.next ?_
      refine W.seq ?_
      refine W.block ?_
      refine W.seq ?_
      refine W.region ?_
      refine RL.q (Yld.move rfl) rfl ?_
      refine RL.q (Yld.assign rfl) rfl ?_
      refine RL.nil ?_
      refine N.next ?_
      refine W.seq ?_
      refine W.draw (.q 0 (.q 1 (.q 2 (.q 3 (.q 4 (.q 6 (.q 7 (.q 8 (.q 9 (.q 10 (.one 5 (.one 11 (.q 12 .done))))))))))))) (.cons (k := 0) rfl (.cons (k := 1) rfl (.cons (k := 110) rfl (.cons (k := 145) rfl (.cons (k := 152) rfl .nil))))) mix (by kernel_rfl) (by kernel_rfl) ?_
      refine DL.q rfl (Yld.move rfl) rfl ?_
      refine DL.q rfl (Yld.move rfl) rfl ?_
      refine DL.q rfl (Yld.move rfl) rfl ?_
      refine DL.q rfl (Yld.indexRow Tryz.underlying23 sz41 rfl rfl (by first | assumption | exact Own.sl (by assumption)) (by first | rfl | omega | (simp; done) | (simp; omega)) (by omega) (by first | omega | (simp; done) | (simp; omega))) rfl ?_
      refine DL.q rfl (by first | exact Yld.loadRow (cl := 1) Tryz.underlying41 rfl sz41 rfl rfl (by first | assumption | exact Own.sl (by assumption)) (by assumption) | exact Yld.loadRow (cl := 110) Tryz.underlying41 rfl sz41 rfl rfl (by first | assumption | exact Own.sl (by assumption)) (by assumption) | exact Yld.loadRow (cl := 145) Tryz.underlying41 rfl sz41 rfl rfl (by first | assumption | exact Own.sl (by assumption)) (by assumption) | exact Yld.loadRow (cl := 152) Tryz.underlying41 rfl sz41 rfl rfl (by first | assumption | exact Own.sl (by assumption)) (by assumption) | exact Yld.loadRow (cl := 150) Tryz.underlying41 rfl sz41 rfl rfl (by first | assumption | exact Own.sl (by assumption)) (by assumption) | exact Yld.loadRow (cl := 151) Tryz.underlying41 rfl sz41 rfl rfl (by first | assumption | exact Own.sl (by assumption)) (by assumption) | exact Yld.loadRow (cl := 160) Tryz.underlying41 rfl sz41 rfl rfl (by first | assumption | exact Own.sl (by assumption)) (by assumption) | exact Yld.loadRow (cl := 161) Tryz.underlying41 rfl sz41 rfl rfl (by first | assumption | exact Own.sl (by assumption)) (by assumption)) rfl ?_
      refine DL.q rfl (Yld.move rfl) rfl ?_
      refine DL.q rfl (Yld.move rfl) rfl ?_
      refine DL.q rfl (Yld.move rfl) rfl ?_
      refine DL.q rfl (Yld.indexRow Tryz.underlying23 sz41 rfl rfl (by first | assumption | exact Own.sl (by assumption)) (by first | rfl | omega | (simp; done) | (simp; omega)) (by omega) (by first | omega | (simp; done) | (simp; omega))) rfl ?_
      refine DL.q rfl (by first | exact Yld.loadRow (cl := 1) Tryz.underlying41 rfl sz41 rfl rfl (by first | assumption | exact Own.sl (by assumption)) (by assumption) | exact Yld.loadRow (cl := 110) Tryz.underlying41 rfl sz41 rfl rfl (by first | assumption | exact Own.sl (by assumption)) (by assumption) | exact Yld.loadRow (cl := 145) Tryz.underlying41 rfl sz41 rfl rfl (by first | assumption | exact Own.sl (by assumption)) (by assumption) | exact Yld.loadRow (cl := 152) Tryz.underlying41 rfl sz41 rfl rfl (by first | assumption | exact Own.sl (by assumption)) (by assumption) | exact Yld.loadRow (cl := 150) Tryz.underlying41 rfl sz41 rfl rfl (by first | assumption | exact Own.sl (by assumption)) (by assumption) | exact Yld.loadRow (cl := 151) Tryz.underlying41 rfl sz41 rfl rfl (by first | assumption | exact Own.sl (by assumption)) (by assumption) | exact Yld.loadRow (cl := 160) Tryz.underlying41 rfl sz41 rfl rfl (by first | assumption | exact Own.sl (by assumption)) (by assumption) | exact Yld.loadRow (cl := 161) Tryz.underlying41 rfl sz41 rfl rfl (by first | assumption | exact Own.sl (by assumption)) (by assumption)) rfl ?_
      refine DL.one rfl (Eff.call ent23 [150, 151, 1] [150, 151, 1] (.cons rfl (.cons rfl .nil)) (admit_ct b y.x y.G hyx c H hcc (l.length + y.j) (by omega) hyg hcs) rfl rfl rfl rfl (by rintro _ _ ⟨_, _, _, _, _, rfl⟩; rfl)) rfl (by rintro _ _ ⟨_, ⟨x2, G2, rfl, hx2, hgx2, rfl⟩, rfl⟩; repeat (first | exact .nil | refine .cons rfl ?_)) ?_
      rintro _ _ ⟨_, ⟨x2, G2, rfl, hx2, hgx2, rfl⟩, rfl⟩
      refine DL.one rfl (Eff.call ent23 [160, 161, 1] [160, 161, 1] (.cons rfl (.cons rfl .nil)) (admit_ct b2 y.h y.K hyh c H hcc (l.length + y.j) (by omega) (hye ▸ hyg) hcs) rfl rfl rfl rfl (by rintro _ _ ⟨_, _, _, _, _, rfl⟩; rfl)) rfl (by rintro _ _ ⟨_, ⟨h2, K2, rfl, hh2, hgh2, rfl⟩, rfl⟩; repeat (first | exact .nil | refine .cons rfl ?_)) ?_
      rintro _ _ ⟨_, ⟨h2, K2, rfl, hh2, hgh2, rfl⟩, rfl⟩
      refine DL.q rfl (Yld.eq (v' := .bool false) (Yld.bin rfl rfl BinV.neq) (by rw [hye]; simp)) rfl ?_
      refine DL.done ?_
      refine N.next ?_
      refine W.keep (.cons (k := 2) rfl (.cons (k := 3) rfl (.cons (k := 9) rfl (.cons (k := 12) rfl (.cons (k := 64) rfl (.cons (k := 65) rfl (.cons (k := 80) rfl .nil))))))) (.cons (k := 0) rfl (.cons (k := 1) rfl (.cons (k := 110) rfl (.cons (k := 145) rfl (.cons (k := 150) rfl (.cons (k := 151) rfl (.cons (k := 152) rfl (.cons (k := 160) rfl (.cons (k := 161) rfl .nil))))))))) ?_
      first | (refine W.as (t := 80) rfl (boolF (by first | assumption | omega | (simp; done))) ?_; refine W.condF rfl ?_) | refine W.condF rfl ?_
      refine W.skip ?_
      refine N.block_normal ?_
      refine N.next ?_
      refine W.region ?_
      refine RL.q (Yld.bin rfl rfl (by first | exact BinV.add (by omega) (by omega) | exact BinV.addW)) rfl ?_
      refine RL.q (Yld.move rfl) rfl ?_
      refine RL.nil ?_
      exact N.famK ⟨y.j + 1, x2, G2, h2, K2⟩ ⟨⟨by dsimp only; omega, hx2, hh2, by dsimp only; rw [hgx2, ← Nat.add_assoc]; exact hyg.adm hcs, by dsimp only; rw [hgx2, hgh2, hye]⟩, by dsimp only; omega⟩ (.as rfl (by first | rfl | (simp; done) | (congr 1; simp; done) | (congr 1; omega)) .nil) (.cons rfl (.cons rfl (.cons rfl (.cons rfl (.cons rfl .nil))))) (.cons rfl (.cons rfl (.cons rfl (.cons rfl .nil)))) (.cons rfl (.cons rfl (.cons rfl (.cons rfl (.cons rfl .nil)))))
    ·
      have hsh := sms (x := y.h) (k := l.length + y.j) (by omega) (hye ▸ hyg)
      have hsx2 := sms (x := y.x) (k := l.length + y.j) (by omega) hyg
      have e4 : y.h.o = y.x.o ∧ y.h.n = y.x.n ∧ y.h.l = y.x.l := by simpa [gl] using hye
      refine W.exit ?_
      refine N.then_exit ?_
      refine N.then_exit ?_
      refine N.block_eq ?_
      refine N.next ?_
      refine W.keep (.cons (k := 3) rfl (.cons (k := 9) rfl (.cons (k := 12) rfl .nil))) (.cons (k := 0) rfl (.cons (k := 1) rfl (.cons (k := 110) rfl (.cons (k := 145) rfl (.cons (k := 150) rfl (.cons (k := 151) rfl (.cons (k := 152) rfl (.cons (k := 160) rfl (.cons (k := 161) rfl .nil))))))))) ?_
      refine W.seq ?_
      refine W.region ?_
      refine RL.q (Yld.move rfl) rfl ?_
      refine RL.e (Eff.call ent22 [160, 161] [160, 161] (.cons rfl .nil) (msave_ct b2 y.h y.K hyh hsh) rfl rfl rfl rfl (by rintro _ _ ⟨_, rfl⟩; rfl)) rfl ?_
      rintro _ _ ⟨_, ⟨rfl, rfl⟩, rfl⟩
      refine RL.q (Yld.assign rfl) rfl ?_
      refine RL.nil ?_
      refine N.next ?_
      refine W.seq ?_
      refine W.region ?_
      refine RL.q (Yld.move rfl) rfl ?_
      refine RL.q (Yld.move rfl) rfl ?_
      refine RL.e (Eff.call ent21 [160, 161] [160, 161] (.cons rfl (.cons rfl .nil)) (mload_ct b2 y.h y.K hyh s (by omega)) rfl rfl rfl rfl (by rintro _ _ ⟨_, _, _, _, _, rfl⟩; rfl)) rfl ?_
      rintro _ _ ⟨_, ⟨h3, Gh3, rfl, hh3, hgh3, rfl⟩, rfl⟩
      refine RL.q (Yld.assign rfl) rfl ?_
      refine RL.nil ?_
      refine N.next ?_
      refine W.keep (.cons (k := 3) rfl (.cons (k := 9) rfl (.cons (k := 12) rfl (.cons (k := 14) rfl (.cons (k := 15) rfl .nil))))) (.cons (k := 0) rfl (.cons (k := 1) rfl (.cons (k := 110) rfl (.cons (k := 145) rfl (.cons (k := 150) rfl (.cons (k := 151) rfl (.cons (k := 152) rfl (.cons (k := 160) rfl (.cons (k := 161) rfl .nil))))))))) ?_
      refine W.seq ?_
      refine W.region ?_
      refine RL.q (Yld.move rfl) rfl ?_
      refine RL.e (Eff.call ent24 [] [170] (.cons rfl .nil) (rmload_ct s (by omega)) rfl rfl rfl rfl (by rintro _ _ ⟨_, _, _, _, _, rfl⟩; rfl)) rfl ?_
      rintro _ _ ⟨_, ⟨w2, Hw2, rfl, hw2, hgw2, rfl⟩, rfl⟩
      refine RL.q (Yld.move rfl) rfl ?_
      refine RL.q (Yld.extract rfl rfl) rfl ?_
      refine RL.q (Yld.extract rfl rfl) rfl ?_
      refine RL.e (Eff.alloc 116 zc31) rfl ?_
      rintro _ _ ⟨b16, rfl, rfl⟩
      refine RL.e0 (Eff.storeS (c := 116) _ sz31 rfl rfl rfl rfl rfl rfl rfl (by (try simp only [putAt, List.take, List.drop, List.nil_append, List.cons_append, List.append_nil, List.length_cons, List.length_nil, Nat.add_zero, Nat.zero_add, Nat.reduceAdd]); rfl)) ?_
      rintro _ _ rfl
      refine RL.q (Yld.assign rfl) rfl ?_
      refine RL.nil ?_
      refine N.next ?_
      refine W.keep (.cons (k := 3) rfl (.cons (k := 9) rfl (.cons (k := 12) rfl (.cons (k := 14) rfl (.cons (k := 15) rfl (.cons (k := 16) rfl (.cons (k := 17) rfl .nil))))))) (.cons (k := 0) rfl (.cons (k := 1) rfl (.cons (k := 110) rfl (.cons (k := 116) rfl (.cons (k := 145) rfl (.cons (k := 150) rfl (.cons (k := 151) rfl (.cons (k := 152) rfl (.cons (k := 160) rfl (.cons (k := 161) rfl (.cons (k := 170) rfl .nil))))))))))) ?_
      refine W.seq ?_
      refine W.seq ?_
      refine W.region ?_
      refine RL.q (Yld.move rfl) rfl ?_
      refine RL.nil ?_
      refine N.next ?_
      first | refine W.condD rfl (fun hc92 => ?_) (fun hc92 => ?_) | (refine W.cond rfl (fun hc92 => ?_) (fun hc92 => ?_) <;> try simp only [Bool.or_eq_true, Bool.and_eq_true, Bool.not_eq_true', Bool.not_eq_false', decide_eq_true_eq, Bool.or_eq_false_iff, Bool.and_eq_false_iff, decide_eq_false_iff_not, beq_iff_eq, beq_eq_false_iff_ne, ne_eq, Decidable.not_not] at hc92)
      ·
        have hok : good (nums s) := hc92
        rw [if_pos hok] at hgh3
        have hgs := good_small hbt hok
        have d3 : h3.o = (decG (nums s)).o ∧ h3.n = (decG (nums s)).n ∧ h3.l = (decG (nums s)).l := by rw [← hgh3]; exact ⟨rfl, rfl, rfl⟩
        have hsh3 : SmS [(h3.po, h3.co, h3.o), (h3.pn, h3.cn, h3.n), (h3.pl, h3.cl, h3.l)] := sms_of (by rw [d3.1, d3.2.1, d3.2.2]; exact ⟨hgs.1, by omega, by omega, by omega⟩)
        have hes : strOfNums (encC h3.o h3.n h3.l) = s := by rw [d3.1, d3.2.1, d3.2.2, good_enc hbt hok, str_nums]
        refine W.seq ?_
        refine W.region ?_
        refine RL.q (Yld.move rfl) rfl ?_
        refine RL.q (Yld.eq (v' := .bool true) (Yld.bin rfl rfl BinV.eql) (by rw [if_pos hok]; rfl)) rfl ?_
        refine RL.q (Yld.move rfl) rfl ?_
        first | refine RL.as (t := 95) rfl (boolT (by first | assumption | omega | (simp; done))) ?_ | refine RL.as (t := 95) (v := .bool true) rfl rfl ?_
        refine RL.gq rfl rfl (Yld.move rfl) rfl ?_
        refine RL.gq rfl rfl (Yld.loadW (c := 116) Tryz.underlying31 rfl sz31 rfl rfl (by first | exact single_self _ _ | exact pset_self _ _ _ | assumption) rfl) rfl ?_
        refine RL.ge rfl rfl (Eff.call ent25 [160, 161, 170] [160, 161, 170] (.cons rfl (.cons rfl .nil)) (same_ct b2 h3 Gh3 hh3 w2 Hw2 hw2 hsh3 ((hgw2 hok).trans hgh3.symm)) rfl rfl rfl rfl (by rintro _ _ ⟨_, rfl⟩; rfl)) rfl ?_
        rintro _ _ ⟨_, ⟨rfl, rfl⟩, rfl⟩
        refine RL.q (by first | exact Yld.pickT rfl rfl | exact Yld.pickF rfl rfl) rfl ?_
        refine RL.q (Yld.move rfl) rfl ?_
        first | refine RL.as (t := 100) rfl (boolT (by first | assumption | omega | (simp; done))) ?_ | refine RL.as (t := 100) (v := .bool true) rfl rfl ?_
        refine RL.gq rfl rfl (Yld.move rfl) rfl ?_
        refine RL.ge rfl rfl (Eff.call ent22 [160, 161] [160, 161] (.cons rfl .nil) (msave_ct b2 h3 Gh3 hh3 hsh3) rfl rfl rfl rfl (by rintro _ _ ⟨_, rfl⟩; rfl)) rfl ?_
        rintro _ _ ⟨_, ⟨rfl, rfl⟩, rfl⟩
        refine RL.gq rfl rfl (Yld.move rfl) rfl ?_
        refine RL.gq rfl rfl (Yld.eq (v' := .bool true) (Yld.bin rfl rfl BinV.eqlS) (by rw [hes]; simp)) rfl ?_
        refine RL.q (by first | exact Yld.pickT rfl rfl | exact Yld.pickF rfl rfl) rfl ?_
        refine RL.q (Yld.assign rfl) rfl ?_
        refine RL.nil ?_
        refine N.next ?_
        refine W.keep (.cons (k := 8) rfl .nil) (.cons (k := 0) rfl (.cons (k := 1) rfl (.cons (k := 110) rfl (.cons (k := 116) rfl (.cons (k := 145) rfl (.cons (k := 150) rfl (.cons (k := 151) rfl (.cons (k := 152) rfl (.cons (k := 160) rfl (.cons (k := 161) rfl (.cons (k := 170) rfl .nil))))))))))) ?_
        refine W.ret ?_
        refine N.then_ret ?_
        exact N.retBy [1] (.cons (.tmp rfl) .nil) rfl rfl rfl rfl ⟨rfl, rfl⟩
      ·
        have hok : ¬ good (nums s) := hc92
        rw [if_neg hok] at hgh3
        have e3 : h3.o = y.h.o ∧ h3.n = y.h.n ∧ h3.l = y.h.l := by simpa [gl] using hgh3
        have hsh3 := sms (x := h3) (k := l.length + y.j) (by omega) (hgh3 ▸ hye ▸ hyg)
        refine W.skip ?_
        refine N.next ?_
        refine W.keep (.cons (k := 9) rfl (.cons (k := 12) rfl (.cons (k := 14) rfl (.cons (k := 15) rfl .nil)))) (.cons (k := 0) rfl (.cons (k := 1) rfl (.cons (k := 110) rfl (.cons (k := 116) rfl (.cons (k := 145) rfl (.cons (k := 150) rfl (.cons (k := 151) rfl (.cons (k := 152) rfl (.cons (k := 160) rfl (.cons (k := 161) rfl (.cons (k := 170) rfl .nil))))))))))) ?_
        refine W.seq ?_
        refine W.region ?_
        refine RL.q (Yld.move rfl) rfl ?_
        refine RL.q (Yld.eq (v' := .bool true) (Yld.bin rfl rfl BinV.eql) (by rw [if_neg hok]; rfl)) rfl ?_
        refine RL.q (Yld.move rfl) rfl ?_
        first | refine RL.as (t := 108) rfl (boolT (by first | assumption | omega | (simp; done))) ?_ | refine RL.as (t := 108) (v := .bool true) rfl rfl ?_
        refine RL.gq rfl rfl (Yld.move rfl) rfl ?_
        refine RL.ge rfl rfl (Eff.call ent22 [160, 161] [160, 161] (.cons rfl .nil) (msave_ct b2 h3 Gh3 hh3 hsh3) rfl rfl rfl rfl (by rintro _ _ ⟨_, rfl⟩; rfl)) rfl ?_
        rintro _ _ ⟨_, ⟨rfl, rfl⟩, rfl⟩
        refine RL.gq rfl rfl (Yld.move rfl) rfl ?_
        refine RL.gq rfl rfl (Yld.eq (v' := .bool true) (Yld.bin rfl rfl BinV.eqlS) (by rw [e3.1, e3.2.1, e3.2.2]; simp)) rfl ?_
        refine RL.q (by first | exact Yld.pickT rfl rfl | exact Yld.pickF rfl rfl) rfl ?_
        refine RL.q (Yld.move rfl) rfl ?_
        first | refine RL.as (t := 114) rfl (boolT (by first | assumption | omega | (simp; done))) ?_ | refine RL.as (t := 114) (v := .bool true) rfl rfl ?_
        refine RL.gq rfl rfl (Yld.move rfl) rfl ?_
        refine RL.gq rfl rfl (Yld.move rfl) rfl ?_
        refine RL.ge rfl rfl (Eff.call ent22 [150, 151] [150, 151] (.cons rfl .nil) (msave_ct b y.x y.G hyx hsx2) rfl rfl rfl rfl (by rintro _ _ ⟨_, rfl⟩; rfl)) rfl ?_
        rintro _ _ ⟨_, ⟨rfl, rfl⟩, rfl⟩
        refine RL.gq rfl rfl (Yld.eq (v' := .bool true) (Yld.bin rfl rfl BinV.eqlS) (by rw [e4.1, e4.2.1, e4.2.2]; simp)) rfl ?_
        refine RL.q (by first | exact Yld.pickT rfl rfl | exact Yld.pickF rfl rfl) rfl ?_
        refine RL.q (Yld.assign rfl) rfl ?_
        refine RL.nil ?_
        refine N.next ?_
        refine W.keep (.cons (k := 8) rfl .nil) (.cons (k := 0) rfl (.cons (k := 1) rfl (.cons (k := 110) rfl (.cons (k := 116) rfl (.cons (k := 145) rfl (.cons (k := 150) rfl (.cons (k := 151) rfl (.cons (k := 152) rfl (.cons (k := 160) rfl (.cons (k := 161) rfl (.cons (k := 170) rfl .nil))))))))))) ?_
        refine W.ret ?_
        exact N.retBy [1] (.cons (.tmp rfl) .nil) rfl rfl rfl rfl ⟨rfl, rfl⟩

end Go.Proofs.YtdjmdfnhnlijiaaGreatDoor
