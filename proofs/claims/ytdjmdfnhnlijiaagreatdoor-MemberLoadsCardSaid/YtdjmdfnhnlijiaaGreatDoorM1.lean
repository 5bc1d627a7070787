/- Goals. Written by program (walk2.py). -/
import Derived.Test.YtdjmdfnhnlijiaaGreatDoorR2
import Derived.Test.YtdjmdfnhnlijiaaGreatDoorMPure
import Derived.Test.YtdjmdfnhnlijiaaGreatDoorSlSub
namespace Go.Proofs.YtdjmdfnhnlijiaaGreatDoor
open SL Cfg Memb
set_option linter.unusedVariables false
set_option linter.unusedSimpArgs false
theorem ent26 : Ent Tryz.prog 26 := ⟨_, _, Tryz.func26, by kernel_rfl, rfl⟩
theorem lay60 : layS Tryz.prog 60 = some ([.slice none 0 0, .slice none 0 0, .slice none 0 0], [(0, 1), (1, 1), (2, 1)]) := by kernel_rfl
theorem fo60_0 : fieldOff Tryz.prog 60 0 = some 0 := by kernel_rfl
theorem fo60_1 : fieldOff Tryz.prog 60 1 = some 1 := by kernel_rfl
theorem fo60_2 : fieldOff Tryz.prog 60 2 = some 2 := by kernel_rfl
theorem ent100 : Ent Tryz.prog 100 := ⟨_, _, Tryz.func100, by kernel_rfl, rfl⟩
def Memb.gl (x : Cf) : Gl := ⟨x.o, x.n, x.l⟩
theorem Memb.err2_eq {g : Gl} {c : Ch} (hk : c.k = 2) : err g c = if setL c.f ≠ g.o then 9 else if c.t.length < 1 ∨ 7 < c.t.length ∨ setL c.t ≠ c.t then 1 else if 0 < (minusL (minusL c.t g.o) g.n).length then 6 else 0 := by
  unfold err; rw [if_neg (by omega), if_neg (by omega), if_pos hk]
theorem Memb.err1_eq {g : Gl} {c : Ch} (hk : c.k = 1) : err g c = if c.m ∈ g.n then 0 else 6 := by
  unfold err; rw [if_neg (by omega), if_pos hk]
theorem Memb.err0_eq {g : Gl} {c : Ch} (hk : c.k = 0) : err g c = if c.m < 1 then 1 else if c.m ∈ g.l then 5 else 0 := by
  unfold err; rw [if_pos hk]
theorem Memb.errN_eq {g : Gl} {c : Ch} (h0 : c.k ≠ 0) (h1 : c.k ≠ 1) (h2 : c.k ≠ 2) : err g c = 1 := by
  unfold err; rw [if_neg h0, if_neg h1, if_neg h2]

set_option maxRecDepth 100000 in
set_option maxHeartbeats 400000 in
theorem mnew_ct (l : List Int) (H1 : PH) (p : Option Addr) (c : Nat) (hl : Sl H1 p c 1 (iz l)) (hb : l.length ≤ 1000000) : Ct Tryz.prog 20 [.slice p l.length c] [H1] (fun v Hs => ∃ (b : Nat) (x : Cf) (G : PH), v = .pointer (some ⟨b, 0, none⟩) ∧ x.In G ∧ x.o = setL l ∧ x.n = [] ∧ x.l = setL l ∧ Hs = [H1, single b (.cells [.slice x.po x.o.length x.co, .slice x.pn x.n.length x.cn, .slice x.pl x.l.length x.cl].toArray 60 (0, 0)), G]) := by
  refine Ct.body Tryz.func20 rfl Tryz.ntmps20 rfl ?_
  intro E F
  have hsl := setL_len l
  refine W.seq ?_
  refine W.region ?_
  refine RL.q (Yld.assign rfl) rfl ?_
  refine RL.nil ?_
  refine N.next ?_
  refine W.seq ?_
  refine W.region ?_
  refine RL.q (Yld.move rfl) rfl ?_
  refine RL.e (Eff.call ent26 [1] [1, 130] (.cons rfl .nil) (simple_ct l _ _ _ hl hb) rfl rfl rfl rfl (by rintro _ _ ⟨_, _, _, _, _, rfl⟩; rfl)) rfl ?_
  rintro _ _ ⟨_, ⟨Hs, ps, cs, rfl, hOs, rfl⟩, rfl⟩
  refine RL.q (Yld.field Tryz.underlying25 rfl rfl (PartV.one Tryz.underlying22 rfl rfl)) rfl ?_
  refine RL.q (Yld.assign rfl) rfl ?_
  refine RL.nil ?_
  refine N.next ?_
  refine W.keep (.cons (k := 3) rfl .nil) (.cons (k := 0) rfl (.cons (k := 1) rfl (.cons (k := 130) rfl .nil))) ?_
  refine W.seq ?_
  refine W.region ?_
  refine RL.q (Yld.move rfl) rfl ?_
  refine RL.q (Yld.move rfl) rfl ?_
  refine RL.e (Eff.call ent41 [130] [130, 131] (.cons rfl .nil) (cloneI_ct (setL l) _ _ _ hOs.sl (by omega)) rfl rfl rfl rfl (by rintro _ _ ⟨_, _, _, _, _, rfl⟩; rfl)) rfl ?_
  rintro _ _ ⟨_, ⟨Ha, pa, ca, rfl, hOa, rfl⟩, rfl⟩
  refine RL.q (Yld.buildP lay60 (.cons rfl rfl (.cons rfl rfl .nil)) rfl) rfl ?_
  refine RL.e (Eff.box 111 _ rfl rfl) rfl ?_
  rintro _ _ ⟨b11, rfl, rfl⟩
  refine RL.q (Yld.assign rfl) rfl ?_
  refine RL.nil ?_
  refine N.next ?_
  refine W.keep (.cons (k := 2) rfl .nil) (.cons (k := 0) rfl (.cons (k := 1) rfl (.cons (k := 111) rfl (.cons (k := 130) rfl (.cons (k := 131) rfl .nil))))) ?_
  refine W.ret ?_
  refine N.merge 130 131 rfl rfl rfl fun ha1 => ?_
  exact N.retBy [1, 111, 130] (.cons (.tmp rfl) .nil) rfl rfl rfl rfl ⟨b11, ⟨setL l, [], setL l, ps, cs, none, 0, pa, ca⟩, _, rfl, ⟨hOs.sl.mono hjoin_l, ⟨rfl, rfl⟩, hOa.sl.mono ha1⟩, rfl, rfl, rfl, rfl⟩

set_option maxRecDepth 100000 in
set_option maxHeartbeats 400000 in
theorem mvot_ct (b : Nat) (x : Cf) (G : PH) (hx : x.In G) (hb : x.o.length ≤ 1000000) : Ct Tryz.prog 15 [.pointer (some ⟨b, 0, none⟩)] [single b (.cells [.slice x.po x.o.length x.co, .slice x.pn x.n.length x.cn, .slice x.pl x.l.length x.cl].toArray 60 (0, 0)), G] (fun v Hs => ∃ H' p' c', v = .slice p' x.o.length c' ∧ Own H' p' c' 3 1 (iz x.o) ∧ Hs = [single b (.cells [.slice x.po x.o.length x.co, .slice x.pn x.n.length x.cn, .slice x.pl x.l.length x.cl].toArray 60 (0, 0)), G, H']) := by
  refine Ct.body Tryz.func15 rfl Tryz.ntmps15 rfl ?_
  intro E F
  obtain ⟨ho, hn, hl⟩ := hx
  refine W.seq ?_
  refine W.region ?_
  refine RL.q (Yld.assign rfl) rfl ?_
  refine RL.nil ?_
  refine N.next ?_
  refine W.seq ?_
  refine W.region ?_
  refine RL.q (Yld.move rfl) rfl ?_
  refine RL.q (Yld.nilP rfl) rfl ?_
  refine RL.q (Yld.fieldAddr fo60_0 rfl) rfl ?_
  refine RL.q (Yld.load1 (c := 1) Tryz.underlying22 rfl rfl rfl (by first | exact single_self _ _ | exact pset_self _ _ _ | assumption) rfl) rfl ?_
  refine RL.e (Eff.call ent41 [2] [2, 30] (.cons rfl .nil) (cloneI_ct x.o _ _ _ ho hb) rfl rfl rfl rfl (by rintro _ _ ⟨_, _, _, _, _, rfl⟩; rfl)) rfl ?_
  rintro _ _ ⟨_, ⟨Ha, pa, ca, rfl, hOa, rfl⟩, rfl⟩
  refine RL.q (Yld.assign rfl) rfl ?_
  refine RL.nil ?_
  refine N.next ?_
  refine W.keep (.cons (k := 2) rfl .nil) (.cons (k := 0) rfl (.cons (k := 1) rfl (.cons (k := 2) rfl (.cons (k := 30) rfl .nil)))) ?_
  refine W.ret ?_
  exact N.retBy [1, 2, 30] (.cons (.tmp rfl) .nil) rfl rfl rfl rfl ⟨_, _, _, rfl, hOa, rfl⟩

set_option maxRecDepth 100000 in
set_option maxHeartbeats 400000 in
theorem mlea_ct (b : Nat) (x : Cf) (G : PH) (hx : x.In G) (hb : x.n.length ≤ 1000000) : Ct Tryz.prog 17 [.pointer (some ⟨b, 0, none⟩)] [single b (.cells [.slice x.po x.o.length x.co, .slice x.pn x.n.length x.cn, .slice x.pl x.l.length x.cl].toArray 60 (0, 0)), G] (fun v Hs => ∃ H' p' c', v = .slice p' x.n.length c' ∧ Own H' p' c' 3 1 (iz x.n) ∧ Hs = [single b (.cells [.slice x.po x.o.length x.co, .slice x.pn x.n.length x.cn, .slice x.pl x.l.length x.cl].toArray 60 (0, 0)), G, H']) := by
  refine Ct.body Tryz.func17 rfl Tryz.ntmps17 rfl ?_
  intro E F
  obtain ⟨ho, hn, hl⟩ := hx
  refine W.seq ?_
  refine W.region ?_
  refine RL.q (Yld.assign rfl) rfl ?_
  refine RL.nil ?_
  refine N.next ?_
  refine W.seq ?_
  refine W.region ?_
  refine RL.q (Yld.move rfl) rfl ?_
  refine RL.q (Yld.nilP rfl) rfl ?_
  refine RL.q (Yld.fieldAddr fo60_1 rfl) rfl ?_
  refine RL.q (Yld.load1 (c := 1) Tryz.underlying22 rfl rfl rfl (by first | exact single_self _ _ | exact pset_self _ _ _ | assumption) rfl) rfl ?_
  refine RL.e (Eff.call ent41 [2] [2, 30] (.cons rfl .nil) (cloneI_ct x.n _ _ _ hn hb) rfl rfl rfl rfl (by rintro _ _ ⟨_, _, _, _, _, rfl⟩; rfl)) rfl ?_
  rintro _ _ ⟨_, ⟨Ha, pa, ca, rfl, hOa, rfl⟩, rfl⟩
  refine RL.q (Yld.assign rfl) rfl ?_
  refine RL.nil ?_
  refine N.next ?_
  refine W.keep (.cons (k := 2) rfl .nil) (.cons (k := 0) rfl (.cons (k := 1) rfl (.cons (k := 2) rfl (.cons (k := 30) rfl .nil)))) ?_
  refine W.ret ?_
  exact N.retBy [1, 2, 30] (.cons (.tmp rfl) .nil) rfl rfl rfl rfl ⟨_, _, _, rfl, hOa, rfl⟩

set_option maxRecDepth 100000 in
set_option maxHeartbeats 400000 in
theorem mkno_ct (b : Nat) (x : Cf) (G : PH) (hx : x.In G) (hb : x.l.length ≤ 1000000) : Ct Tryz.prog 58 [.pointer (some ⟨b, 0, none⟩)] [single b (.cells [.slice x.po x.o.length x.co, .slice x.pn x.n.length x.cn, .slice x.pl x.l.length x.cl].toArray 60 (0, 0)), G] (fun v Hs => ∃ H' p' c', v = .slice p' x.l.length c' ∧ Own H' p' c' 3 1 (iz x.l) ∧ Hs = [single b (.cells [.slice x.po x.o.length x.co, .slice x.pn x.n.length x.cn, .slice x.pl x.l.length x.cl].toArray 60 (0, 0)), G, H']) := by
  refine Ct.body Tryz.func58 rfl Tryz.ntmps58 rfl ?_
  intro E F
  obtain ⟨ho, hn, hl⟩ := hx
  refine W.seq ?_
  refine W.region ?_
  refine RL.q (Yld.assign rfl) rfl ?_
  refine RL.nil ?_
  refine N.next ?_
  refine W.seq ?_
  refine W.region ?_
  refine RL.q (Yld.move rfl) rfl ?_
  refine RL.q (Yld.nilP rfl) rfl ?_
  refine RL.q (Yld.fieldAddr fo60_2 rfl) rfl ?_
  refine RL.q (Yld.load1 (c := 1) Tryz.underlying22 rfl rfl rfl (by first | exact single_self _ _ | exact pset_self _ _ _ | assumption) rfl) rfl ?_
  refine RL.e (Eff.call ent41 [2] [2, 30] (.cons rfl .nil) (cloneI_ct x.l _ _ _ hl hb) rfl rfl rfl rfl (by rintro _ _ ⟨_, _, _, _, _, rfl⟩; rfl)) rfl ?_
  rintro _ _ ⟨_, ⟨Ha, pa, ca, rfl, hOa, rfl⟩, rfl⟩
  refine RL.q (Yld.assign rfl) rfl ?_
  refine RL.nil ?_
  refine N.next ?_
  refine W.keep (.cons (k := 2) rfl .nil) (.cons (k := 0) rfl (.cons (k := 1) rfl (.cons (k := 2) rfl (.cons (k := 30) rfl .nil)))) ?_
  refine W.ret ?_
  exact N.retBy [1, 2, 30] (.cons (.tmp rfl) .nil) rfl rfl rfl rfl ⟨_, _, _, rfl, hOa, rfl⟩

set_option maxRecDepth 100000 in
set_option maxHeartbeats 400000 in
theorem mwith_ct (l : List Int) (H1 : PH) (p : Option Addr) (c : Nat) (hl : Sl H1 p c 1 (iz l)) (z : Int) (hb : l.length ≤ 100000) : Ct Tryz.prog 84 [.slice p l.length c, .int .i64 z] [H1] (fun v Hs => ∃ H' p' c', v = .slice p' (setL (l ++ [z])).length c' ∧ Own H' p' c' 3 1 (iz (setL (l ++ [z]))) ∧ Hs = [H1, H']) := by
  refine Ct.body Tryz.func84 rfl Tryz.ntmps84 rfl ?_
  intro E F
  refine W.seq ?_
  refine W.region ?_
  refine RL.q (Yld.assign rfl) rfl ?_
  refine RL.nil ?_
  refine N.next ?_
  refine W.seq ?_
  refine W.region ?_
  refine RL.q (Yld.move rfl) rfl ?_
  refine RL.e (Eff.call ent41 [1] [1, 130] (.cons rfl .nil) (cloneI_ct l _ _ _ hl (by omega)) rfl rfl rfl rfl (by rintro _ _ ⟨_, _, _, _, _, rfl⟩; rfl)) rfl ?_
  rintro _ _ ⟨_, ⟨Ha, pa, ca, rfl, hOa, rfl⟩, rfl⟩
  refine RL.q (Yld.move rfl) rfl ?_
  refine RL.e (Eff.buildSlice 108 Tryz.underlying22 sz3 zc3 rfl rfl (.cons rfl rfl .nil) rfl) rfl ?_
  rintro _ _ ⟨b8, rfl, rfl⟩
  refine RL.e (Eff.appendE (tc := 130) (sc := 108) (fun z : Int => [Value.int .i64 z]) Tryz.underlying22 el3 rfl rfl rfl rfl hOa rfl (iz_single rfl) rfl (iz_one1 _) (by decide) (by first | (simp; done) | (simp; omega)) (by first | (simp [maxLen]; done) | (simp [maxLen]; omega))) rfl ?_
  rintro _ _ ⟨Hb, pb, cb, rfl, hOb, rfl⟩
  refine RL.e (Eff.call ent26 [130] [130, 131] (.cons rfl .nil) (simple_ct (l ++ [z]) _ _ _ hOb.sl (by simp; omega)) rfl rfl rfl rfl (by rintro _ _ ⟨_, _, _, _, _, rfl⟩; rfl)) rfl ?_
  rintro _ _ ⟨_, ⟨Hc, pc, cc, rfl, hOc, rfl⟩, rfl⟩
  refine RL.q (Yld.field Tryz.underlying25 rfl rfl (PartV.one Tryz.underlying22 rfl rfl)) rfl ?_
  refine RL.q (Yld.assign rfl) rfl ?_
  refine RL.nil ?_
  refine N.next ?_
  refine W.keep (.cons (k := 4) rfl .nil) (.cons (k := 0) rfl (.cons (k := 1) rfl (.cons (k := 108) rfl (.cons (k := 130) rfl (.cons (k := 131) rfl .nil))))) ?_
  refine W.ret ?_
  exact N.retBy [1, 131] (.cons (.tmp rfl) .nil) rfl rfl rfl rfl ⟨_, _, _, rfl, hOc, rfl⟩

set_option maxRecDepth 100000 in
set_option maxHeartbeats 400000 in
theorem mwoC_ct (b : Nat) (m : List Int) (H2 : PH) (q : Option Addr) (d : Nat) (hm : Sl H2 q d 1 (iz m)) (z : Int) : Ct Tryz.prog 100 [.int .i64 z, .pointer (some ⟨b, 0, none⟩)] [single b (.cells [.slice q m.length d].toArray 22 (0, 0)), H2] (fun v Hs => v = .bool (decide (z ∈ m)) ∧ Hs = [single b (.cells [.slice q m.length d].toArray 22 (0, 0)), H2]) := by
  refine Ct.body Tryz.func100 rfl Tryz.ntmps100 rfl ?_
  intro E F
  refine W.seq ?_
  refine W.region ?_
  refine RL.q (Yld.assign rfl) rfl ?_
  refine RL.nil ?_
  refine N.next ?_
  refine W.seq ?_
  refine W.region ?_
  refine RL.q (Yld.load1 (c := 1) Tryz.underlying22 rfl rfl rfl (by first | exact single_self _ _ | exact pset_self _ _ _ | assumption) rfl) rfl ?_
  refine RL.q (Yld.move rfl) rfl ?_
  refine RL.e (Eff.call ent72 [2] [2] (.cons rfl (.cons rfl .nil)) (contains_ct m _ _ _ hm z) rfl rfl rfl rfl (by rintro _ _ ⟨_, rfl⟩; rfl)) rfl ?_
  rintro _ _ ⟨_, ⟨rfl, rfl⟩, rfl⟩
  refine RL.q (Yld.assign rfl) rfl ?_
  refine RL.nil ?_
  refine N.next ?_
  refine W.keep (.cons (k := 3) rfl .nil) (.cons (k := 0) rfl (.cons (k := 1) rfl (.cons (k := 2) rfl .nil))) ?_
  refine W.ret ?_
  exact N.retBy [1, 2] (.cons (.tmp rfl) .nil) rfl rfl rfl rfl ⟨rfl, rfl⟩

set_option maxRecDepth 100000 in
set_option maxHeartbeats 400000 in
theorem mwo_ct (l : List Int) (H1 : PH) (p : Option Addr) (c : Nat) (hl : Sl H1 p c 1 (iz l)) (m : List Int) (H2 : PH) (q : Option Addr) (d : Nat) (hm : Sl H2 q d 1 (iz m)) (hb : l.length ≤ 1000000) : Ct Tryz.prog 80 [.slice p l.length c, .slice q m.length d] [H1, H2] (fun v Hs => ∃ H' p' c', v = .slice p' (minusL l m).length c' ∧ Own H' p' c' 3 1 (iz (minusL l m)) ∧ Hs = [H1, H2, H']) := by
  refine Ct.body Tryz.func80 rfl Tryz.ntmps80 rfl ?_
  intro E F
  have hmxl := hl.len_le
  simp only [iz_len, maxLen] at hmxl
  have hmxm := hm.len_le
  simp only [iz_len, maxLen] at hmxm
  refine W.seq ?_
  refine W.region ?_
  refine RL.e (Eff.box 103 _ rfl rfl) rfl ?_
  rintro _ _ ⟨b3, rfl, rfl⟩
  refine RL.q (Yld.assign rfl) rfl ?_
  refine RL.nil ?_
  refine N.next ?_
  refine W.seq ?_
  refine W.region ?_
  refine RL.q (Yld.move rfl) rfl ?_
  refine RL.e (Eff.call ent41 [1] [1, 30] (.cons rfl .nil) (cloneI_ct l _ _ _ hl hb) rfl rfl rfl rfl (by rintro _ _ ⟨_, _, _, _, _, rfl⟩; rfl)) rfl ?_
  rintro _ _ ⟨_, ⟨Ha, pa, ca, rfl, hOa, rfl⟩, rfl⟩
  refine RL.q (Yld.makeFunc eval0 (eval1 rfl)) rfl ?_
  refine RL.e (Eff.call ent67 [30, 103, 2] [30, 103, 2] (.cons rfl (.cons rfl .nil)) (deleteFunc2_ct l _ _ _ hOa 100 [.pointer (some ⟨b3, 0, none⟩)] _ _ (fun z => decide (z ∈ m)) ent100 (fun z => mwoC_ct b3 m _ _ _ hm z)) rfl rfl rfl rfl (by rintro _ _ ⟨_, _, _, rfl⟩; rfl)) rfl ?_
  rintro _ _ ⟨_, ⟨Hd, rfl, hOd, rfl⟩, rfl⟩
  refine RL.q (Yld.assign rfl) rfl ?_
  refine RL.nil ?_
  refine N.next ?_
  refine W.keep (.cons (k := 4) rfl .nil) (.cons (k := 0) rfl (.cons (k := 1) rfl (.cons (k := 2) rfl (.cons (k := 30) rfl (.cons (k := 103) rfl .nil))))) ?_
  refine W.ret ?_
  exact N.retBy [1, 2, 30] (.cons (.tmp rfl) .nil) rfl rfl rfl rfl ⟨_, _, _, rfl, hOd, rfl⟩

end Go.Proofs.YtdjmdfnhnlijiaaGreatDoor
