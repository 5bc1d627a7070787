/- The reference of the next configuration. Written by program (walk2.py). -/
import Derived.Test.YtdjmdfnhnlijiaaGreatDoorM7
namespace Go.Proofs.YtdjmdfnhnlijiaaGreatDoor
open SL Cfg Memb
set_option linter.unusedVariables false
set_option linter.unusedSimpArgs false
theorem ent34 : Ent Tryz.prog 34 := ⟨_, _, Tryz.func34, by kernel_rfl, rfl⟩
theorem ent35 : Ent Tryz.prog 35 := ⟨_, _, Tryz.func35, by kernel_rfl, rfl⟩
theorem ent36 : Ent Tryz.prog 36 := ⟨_, _, Tryz.func36, by kernel_rfl, rfl⟩
theorem ent37 : Ent Tryz.prog 37 := ⟨_, _, Tryz.func37, by kernel_rfl, rfl⟩
set_option maxRecDepth 100000 in
set_option maxHeartbeats 400000 in
theorem rfinal_ct (x : Cf) (H1 : PH) (hx : x.In H1) (h0 : x.n.length ≠ 0) : Ct Tryz.prog 35 [.agg [.slice x.po x.o.length x.co, .slice x.pn x.n.length x.cn, .slice x.pl x.l.length x.cl].toArray] [H1] (fun v Hs => ∃ y : Cf, v = .agg [.slice y.po y.o.length y.co, .slice y.pn y.n.length y.cn, .slice y.pl y.l.length y.cl].toArray ∧ y.In H1 ∧ y.o = x.n ∧ y.n = [] ∧ y.l = x.l ∧ Hs = [H1]) := by
  refine Ct.body Tryz.func35 rfl Tryz.ntmps35 rfl ?_
  intro E F
  obtain ⟨ho, hn, hl⟩ := hx
  refine W.seq ?_
  refine W.region ?_
  refine RL.e (Eff.box 101 _ rfl rfl) rfl ?_
  rintro _ _ ⟨b1, rfl, rfl⟩
  refine RL.e (Eff.alloc 102 zc25) rfl ?_
  rintro _ _ ⟨b2, rfl, rfl⟩
  refine RL.nil ?_
  refine N.next ?_
  refine W.seq ?_
  refine W.seq ?_
  refine W.region ?_
  refine RL.q (Yld.fieldAddr fo25_1 rfl) rfl ?_
  refine RL.q (Yld.load1 (c := 101) Tryz.underlying22 rfl rfl rfl (by first | exact single_self _ _ | exact pset_self _ _ _ | assumption) rfl) rfl ?_
  refine RL.q (Yld.lenSl Tryz.underlying22 rfl) rfl ?_
  refine RL.q (Yld.bin rfl rfl BinV.eql) rfl ?_
  refine RL.nil ?_
  refine N.next ?_
  refine W.keep (.cons (k := 1) rfl (.cons (k := 2) rfl (.cons (k := 6) rfl .nil))) (.cons (k := 0) rfl (.cons (k := 1) rfl (.cons (k := 101) rfl (.cons (k := 102) rfl .nil)))) ?_
  first | (refine W.as (t := 6) rfl (boolF (by first | assumption | omega | (simp; done))) ?_; refine W.condF rfl ?_) | refine W.condF rfl ?_
  refine W.skip ?_
  refine N.next ?_
  refine W.seq ?_
  refine W.region ?_
  refine RL.q (Yld.fieldAddr fo25_1 rfl) rfl ?_
  refine RL.q (Yld.load1 (c := 101) Tryz.underlying22 rfl rfl rfl (by first | exact single_self _ _ | exact pset_self _ _ _ | assumption) rfl) rfl ?_
  refine RL.q (Yld.fieldAddr fo25_2 rfl) rfl ?_
  refine RL.q (Yld.load1 (c := 101) Tryz.underlying22 rfl rfl rfl (by first | exact single_self _ _ | exact pset_self _ _ _ | assumption) rfl) rfl ?_
  refine RL.q (Yld.buildP lay25 (.cons rfl rfl (.cons rfl rfl .nil)) rfl) rfl ?_
  refine RL.e0 (Eff.storeS (c := 102) _ sz25 rfl rfl rfl rfl rfl rfl rfl (by (try simp only [putAt, List.take, List.drop, List.nil_append, List.cons_append, List.append_nil, List.length_cons, List.length_nil, Nat.add_zero, Nat.zero_add, Nat.reduceAdd]); rfl)) ?_
  rintro _ _ rfl
  refine RL.nil ?_
  refine N.next ?_
  refine W.keep (.cons (k := 2) rfl .nil) (.cons (k := 0) rfl (.cons (k := 1) rfl (.cons (k := 101) rfl (.cons (k := 102) rfl .nil)))) ?_
  refine W.ret ?_
  exact N.retBy [1] (.cons (by first | exact .cell (c := 102) rfl rfl (fun w hs => run_loadVarA Tryz.underlying25 rfl sz25 rfl (fun j u hj => by rw [Nat.zero_add, PH.sub.cell hs (by first | exact single_self _ _ | exact pset_self _ _ _ | assumption)]; exact hj))) .nil) rfl rfl rfl rfl ⟨⟨x.n, [], x.l, x.pn, x.cn, none, 0, x.pl, x.cl⟩, rfl, ⟨hn, ⟨rfl, rfl⟩, hl⟩, rfl, rfl, rfl, rfl⟩

set_option maxRecDepth 100000 in
set_option maxHeartbeats 1600000 in
theorem rjoint_ct (x : Cf) (H1 : PH) (hx : x.In H1) (hbo : x.o.length ≤ 400000) (hbn : x.n.length ≤ 400000) (hbl : x.l.length ≤ 400000) (l : List Int) (H3 : PH) (q : Option Addr) (d : Nat) (hl : Sl H3 q d 1 (iz l)) (hb : l.length ≤ 400000) : Ct Tryz.prog 36 [.agg [.slice x.po x.o.length x.co, .slice x.pn x.n.length x.cn, .slice x.pl x.l.length x.cl].toArray, .slice q l.length d] [H1, H3] (fun v Hs => ∃ (y : Cf) (K : PH), v = .agg [.slice y.po y.o.length y.co, .slice y.pn y.n.length y.cn, .slice y.pl y.l.length y.cl].toArray ∧ Sl H1 y.po y.co 1 (iz y.o) ∧ Sl K y.pn y.cn 1 (iz y.n) ∧ Sl K y.pl y.cl 1 (iz y.l) ∧ y.o = x.o ∧ y.n = setL l ∧ y.l = minusL x.l (setL l) ∧ Hs = [H1, H3, K]) := by
  refine Ct.body Tryz.func36 rfl Tryz.ntmps36 rfl ?_
  intro E F
  obtain ⟨ho, hn, hxl⟩ := hx
  have hsl := setL_len l
  refine W.seq ?_
  refine W.region ?_
  refine RL.e (Eff.box 102 _ rfl rfl) rfl ?_
  rintro _ _ ⟨b2, rfl, rfl⟩
  refine RL.e (Eff.alloc 104 zc25) rfl ?_
  rintro _ _ ⟨b4, rfl, rfl⟩
  refine RL.nil ?_
  refine N.next ?_
  refine W.seq ?_
  refine W.draw (.q 0 (.q 1 (.q 2 (.q 4 (.q 5 (.q 6 (.one 3 (.one 7 (.one 8 (.q 9 (.one 10 .done))))))))))) (.cons (k := 0) rfl (.cons (k := 1) rfl (.cons (k := 2) rfl (.cons (k := 102) rfl .nil)))) mix (by kernel_rfl) (by kernel_rfl) ?_
  refine DL.q rfl (Yld.fieldAddr fo25_0 rfl) rfl ?_
  refine DL.q rfl (Yld.load1 (c := 102) Tryz.underlying22 rfl rfl rfl (by first | exact single_self _ _ | exact pset_self _ _ _ | assumption) rfl) rfl ?_
  refine DL.q rfl (Yld.move rfl) rfl ?_
  refine DL.q rfl (Yld.fieldAddr fo25_2 rfl) rfl ?_
  refine DL.q rfl (Yld.load1 (c := 102) Tryz.underlying22 rfl rfl rfl (by first | exact single_self _ _ | exact pset_self _ _ _ | assumption) rfl) rfl ?_
  refine DL.q rfl (Yld.move rfl) rfl ?_
  refine DL.one rfl (Eff.call ent61 [2] [2, 150] (.cons rfl .nil) (rset_ct l _ _ _ hl (by omega)) rfl rfl rfl rfl (by rintro _ _ ⟨_, _, _, _, _, rfl⟩; rfl)) rfl (by rintro _ _ ⟨_, ⟨Ha, pa, ca, rfl, hOa, rfl⟩, rfl⟩; repeat (first | exact .nil | refine .cons rfl ?_)) ?_
  rintro _ _ ⟨_, ⟨Ha, pa, ca, rfl, hOa, rfl⟩, rfl⟩
  refine DL.one rfl (Eff.call ent61 [2] [2, 151] (.cons rfl .nil) (rset_ct l _ _ _ hl (by omega)) rfl rfl rfl rfl (by rintro _ _ ⟨_, _, _, _, _, rfl⟩; rfl)) rfl (by rintro _ _ ⟨_, ⟨Hb, pb, cb, rfl, hOb, rfl⟩, rfl⟩; repeat (first | exact .nil | refine .cons rfl ?_)) ?_
  rintro _ _ ⟨_, ⟨Hb, pb, cb, rfl, hOb, rfl⟩, rfl⟩
  refine DL.one rfl (Eff.call ent64 [1, 151] [1, 151, 152] (.cons rfl (.cons rfl .nil)) (rminus_ct x.l _ _ _ hxl (setL l) _ _ _ hOb.sl (by omega)) rfl rfl rfl rfl (by rintro _ _ ⟨_, _, _, _, _, rfl⟩; rfl)) rfl (by rintro _ _ ⟨_, ⟨Hc, pc, cc, rfl, hOc, rfl⟩, rfl⟩; repeat (first | exact .nil | refine .cons rfl ?_)) ?_
  rintro _ _ ⟨_, ⟨Hc, pc, cc, rfl, hOc, rfl⟩, rfl⟩
  refine DL.q rfl (Yld.buildP lay25 (.cons rfl rfl (.cons rfl rfl (.cons rfl rfl .nil))) rfl) rfl ?_
  refine DL.one0 rfl (Eff.storeS (c := 104) _ sz25 rfl rfl rfl rfl rfl rfl rfl (by (try simp only [putAt, List.take, List.drop, List.nil_append, List.cons_append, List.append_nil, List.length_cons, List.length_nil, Nat.add_zero, Nat.zero_add, Nat.reduceAdd]); rfl)) (by rintro _ _ rfl; repeat (first | exact .nil | refine .cons rfl ?_)) ?_
  rintro _ _ rfl
  refine DL.done ?_
  refine N.next ?_
  refine W.keep (.cons (k := 4) rfl .nil) (.cons (k := 0) rfl (.cons (k := 1) rfl (.cons (k := 2) rfl (.cons (k := 102) rfl (.cons (k := 104) rfl (.cons (k := 150) rfl (.cons (k := 151) rfl (.cons (k := 152) rfl .nil)))))))) ?_
  refine W.ret ?_
  refine N.merge 150 152 rfl rfl rfl fun ha1 => ?_
  exact N.retBy [1, 2, 150] (.cons (by first | exact .cell (c := 104) rfl rfl (fun w hs => run_loadVarA Tryz.underlying25 rfl sz25 rfl (fun j u hj => by rw [Nat.zero_add, PH.sub.cell hs (by first | exact single_self _ _ | exact pset_self _ _ _ | assumption)]; exact hj))) .nil) rfl rfl rfl rfl ⟨⟨x.o, setL l, minusL x.l (setL l), x.po, x.co, pa, ca, pc, cc⟩, _, rfl, ho, hOa.sl.mono hjoin_l, hOc.sl.mono ha1, rfl, rfl, rfl, rfl⟩

theorem Memb.minus_set (a b : List Int) : minusL (setL a) (setL b) = minusL (setL a) b := by
  unfold minusL
  apply List.filter_congr
  intro z hz
  congr 1
  rw [decide_eq_decide, (setL_is b).mem]
  exact ⟨fun h => h.1, fun h => ⟨h, setL_pos hz⟩⟩

set_option maxRecDepth 100000 in
set_option maxHeartbeats 1600000 in
theorem rlearn_ct (x : Cf) (H1 : PH) (hx : x.In H1) (hbo : x.o.length ≤ 400000) (hbn : x.n.length ≤ 400000) (hbl : x.l.length ≤ 400000) (l : List Int) (H3 : PH) (q : Option Addr) (d : Nat) (hl : Sl H3 q d 1 (iz l)) (hb : l.length ≤ 400000) : Ct Tryz.prog 37 [.agg [.slice x.po x.o.length x.co, .slice x.pn x.n.length x.cn, .slice x.pl x.l.length x.cl].toArray, .slice q l.length d] [H1, H3] (fun v Hs => ∃ (y : Cf) (K : PH), v = .agg [.slice y.po y.o.length y.co, .slice y.pn y.n.length y.cn, .slice y.pl y.l.length y.cl].toArray ∧ Sl H1 y.po y.co 1 (iz y.o) ∧ Sl H1 y.pn y.cn 1 (iz y.n) ∧ Sl K y.pl y.cl 1 (iz y.l) ∧ y.o = x.o ∧ y.n = x.n ∧ y.l = minusL (setL l) (x.o ++ x.n) ∧ Hs = [H1, H3, K]) := by
  refine Ct.body Tryz.func37 rfl Tryz.ntmps37 rfl ?_
  intro E F
  have hxx := hx
  obtain ⟨ho, hn, hxl⟩ := hxx
  have hsl := setL_len l
  refine W.seq ?_
  refine W.region ?_
  refine RL.e (Eff.box 102 _ rfl rfl) rfl ?_
  rintro _ _ ⟨b2, rfl, rfl⟩
  refine RL.e (Eff.alloc 104 zc25) rfl ?_
  rintro _ _ ⟨b4, rfl, rfl⟩
  refine RL.nil ?_
  refine N.next ?_
  refine W.seq ?_
  refine W.draw (.q 0 (.q 1 (.q 2 (.q 3 (.q 4 (.q 6 (.one 5 (.one 7 (.one 8 (.q 9 (.one 10 .done))))))))))) (.cons (k := 0) rfl (.cons (k := 1) rfl (.cons (k := 2) rfl (.cons (k := 102) rfl .nil)))) mix (by kernel_rfl) (by kernel_rfl) ?_
  refine DL.q rfl (Yld.fieldAddr fo25_0 rfl) rfl ?_
  refine DL.q rfl (Yld.load1 (c := 102) Tryz.underlying22 rfl rfl rfl (by first | exact single_self _ _ | exact pset_self _ _ _ | assumption) rfl) rfl ?_
  refine DL.q rfl (Yld.fieldAddr fo25_1 rfl) rfl ?_
  refine DL.q rfl (Yld.load1 (c := 102) Tryz.underlying22 rfl rfl rfl (by first | exact single_self _ _ | exact pset_self _ _ _ | assumption) rfl) rfl ?_
  refine DL.q rfl (Yld.move rfl) rfl ?_
  refine DL.q rfl (Yld.loadW (c := 102) Tryz.underlying25 rfl sz25 rfl rfl (by first | exact single_self _ _ | exact pset_self _ _ _ | assumption) rfl) rfl ?_
  refine DL.one rfl (Eff.call ent61 [2] [2, 150] (.cons rfl .nil) (rset_ct l _ _ _ hl (by omega)) rfl rfl rfl rfl (by rintro _ _ ⟨_, _, _, _, _, rfl⟩; rfl)) rfl (by rintro _ _ ⟨_, ⟨Ha, pa, ca, rfl, hOa, rfl⟩, rfl⟩; repeat (first | exact .nil | refine .cons rfl ?_)) ?_
  rintro _ _ ⟨_, ⟨Ha, pa, ca, rfl, hOa, rfl⟩, rfl⟩
  refine DL.one rfl (Eff.call ent66 [1] [1, 151] (.cons rfl .nil) (rvoters_ct x H1 hx (by simp; omega)) rfl rfl rfl rfl (by rintro _ _ ⟨_, _, _, _, _, rfl⟩; rfl)) rfl (by rintro _ _ ⟨_, ⟨Hb, pb, cb, rfl, hOb, rfl⟩, rfl⟩; repeat (first | exact .nil | refine .cons rfl ?_)) ?_
  rintro _ _ ⟨_, ⟨Hb, pb, cb, rfl, hOb, rfl⟩, rfl⟩
  refine DL.one rfl (Eff.call ent64 [150, 151] [150, 151, 152] (.cons rfl (.cons rfl .nil)) (rminus_ct (setL l) _ _ _ hOa.sl (setL (x.o ++ x.n)) _ _ _ hOb.sl (by omega)) rfl rfl rfl rfl (by rintro _ _ ⟨_, _, _, _, _, rfl⟩; rfl)) rfl (by rintro _ _ ⟨_, ⟨Hc, pc, cc, rfl, hOc, rfl⟩, rfl⟩; repeat (first | exact .nil | refine .cons rfl ?_)) ?_
  rintro _ _ ⟨_, ⟨Hc, pc, cc, rfl, hOc, rfl⟩, rfl⟩
  rw [minus_set] at hOc ⊢
  refine DL.q rfl (Yld.buildP lay25 (.cons rfl rfl (.cons rfl rfl (.cons rfl rfl .nil))) rfl) rfl ?_
  refine DL.one0 rfl (Eff.storeS (c := 104) _ sz25 rfl rfl rfl rfl rfl rfl rfl (by (try simp only [putAt, List.take, List.drop, List.nil_append, List.cons_append, List.append_nil, List.length_cons, List.length_nil, Nat.add_zero, Nat.zero_add, Nat.reduceAdd]); rfl)) (by rintro _ _ rfl; repeat (first | exact .nil | refine .cons rfl ?_)) ?_
  rintro _ _ rfl
  refine DL.done ?_
  refine N.next ?_
  refine W.keep (.cons (k := 4) rfl .nil) (.cons (k := 0) rfl (.cons (k := 1) rfl (.cons (k := 2) rfl (.cons (k := 102) rfl (.cons (k := 104) rfl (.cons (k := 150) rfl (.cons (k := 151) rfl (.cons (k := 152) rfl .nil)))))))) ?_
  refine W.ret ?_
  exact N.retBy [1, 2, 152] (.cons (by first | exact .cell (c := 104) rfl rfl (fun w hs => run_loadVarA Tryz.underlying25 rfl sz25 rfl (fun j u hj => by rw [Nat.zero_add, PH.sub.cell hs (by first | exact single_self _ _ | exact pset_self _ _ _ | assumption)]; exact hj))) .nil) rfl rfl rfl rfl ⟨⟨x.o, x.n, minusL (setL l) (x.o ++ x.n), x.po, x.co, x.pn, x.cn, pc, cc⟩, _, rfl, ho, hn, hOc.sl, rfl, rfl, rfl, rfl⟩

set_option maxRecDepth 100000 in
set_option maxHeartbeats 3200000 in
theorem rnext_ct (x : Cf) (H2 : PH) (hx : x.In H2) (hbo : x.o.length ≤ 1000) (hbn : x.n.length ≤ 1000) (z : Cf) (H1 : PH) (hz : z.In H1) (hzo : z.o.length ≤ 1000) (hzn : z.n.length ≤ 1000) (hzl : z.l.length ≤ 1000) : Ct Tryz.prog 11 [.agg [.slice x.po x.o.length x.co, .slice x.pn x.n.length x.cn, .slice x.pl x.l.length x.cl].toArray, .agg [.slice z.po z.o.length z.co, .slice z.pn z.n.length z.cn, .slice z.pl z.l.length z.cl].toArray] [H2, H1] (fun v Hs => ∃ (y : Cf) (H' : PH), v = .tuple [.agg [.slice y.po y.o.length y.co, .slice y.pn y.n.length y.cn, .slice y.pl y.l.length y.cl].toArray, .bool (nextG (gl x) z).isSome].toArray ∧ y.In H' ∧ gl y = (nextG (gl x) z).getD ⟨[], [], []⟩ ∧ (∀ b o, H1 b = some o → H' b = some o) ∧ Hs = [H2, H']) := by
  refine Ct.body Tryz.func11 rfl Tryz.ntmps11 rfl ?_
  intro E F
  obtain ⟨hxo, hxn, hxl⟩ := hx
  have hzz := hz
  obtain ⟨hz1, hz2, hz3⟩ := hzz
  refine W.seq ?_
  refine W.region ?_
  refine RL.e (Eff.box 102 _ rfl rfl) rfl ?_
  rintro _ _ ⟨b2, rfl, rfl⟩
  refine RL.e (Eff.box 103 _ rfl rfl) rfl ?_
  rintro _ _ ⟨b3, rfl, rfl⟩
  refine RL.e (Eff.alloc 104 zc25) rfl ?_
  rintro _ _ ⟨b4, rfl, rfl⟩
  refine RL.q (Yld.assign rfl) rfl ?_
  refine RL.nil ?_
  refine N.next ?_
  refine W.seq ?_
  refine W.seq ?_
  refine W.region ?_
  refine RL.q (Yld.loadW (c := 103) Tryz.underlying25 rfl sz25 rfl rfl (by first | exact single_self _ _ | exact pset_self _ _ _ | assumption) rfl) rfl ?_
  refine RL.e (Eff.call ent34 [2] [2] (.cons rfl .nil) (rcvalid_ct z H1 hz (by omega) (by omega) (by omega)) rfl rfl rfl rfl (by rintro _ _ ⟨_, rfl⟩; rfl)) rfl ?_
  rintro _ _ ⟨_, ⟨rfl, rfl⟩, rfl⟩
  refine RL.q (by first | exact Yld.notD rfl | exact Yld.not rfl) rfl ?_
  refine RL.nil ?_
  refine N.next ?_
  refine W.keep (.cons (k := 2) rfl (.cons (k := 3) rfl (.cons (k := 4) rfl (.cons (k := 8) rfl .nil)))) (.cons (k := 0) rfl (.cons (k := 1) rfl (.cons (k := 2) rfl (.cons (k := 102) rfl (.cons (k := 103) rfl (.cons (k := 104) rfl .nil)))))) ?_
  first | refine W.condD rfl (fun hc8 => ?_) (fun hc8 => ?_) | (refine W.cond rfl (fun hc8 => ?_) (fun hc8 => ?_) <;> try simp only [Bool.or_eq_true, Bool.and_eq_true, Bool.not_eq_true', Bool.not_eq_false', decide_eq_true_eq, Bool.or_eq_false_iff, Bool.and_eq_false_iff, decide_eq_false_iff_not, beq_iff_eq, beq_eq_false_iff_ne, ne_eq, Decidable.not_not] at hc8)
  ·
    have hok : ¬ z.Ok := hc8
    refine W.seq ?_
    refine W.region ?_
    refine RL.q (Yld.buildP lay25 .nil rfl) rfl ?_
    refine RL.e0 (Eff.storeS (c := 104) _ sz25 rfl rfl rfl rfl rfl rfl rfl (by (try simp only [putAt, List.take, List.drop, List.nil_append, List.cons_append, List.append_nil, List.length_cons, List.length_nil, Nat.add_zero, Nat.zero_add, Nat.reduceAdd]); rfl)) ?_
    rintro _ _ rfl
    refine RL.q (Yld.assign rfl) rfl ?_
    refine RL.nil ?_
    refine N.next ?_
    refine W.keep (.cons (k := 4) rfl (.cons (k := 5) rfl .nil)) (.cons (k := 0) rfl (.cons (k := 1) rfl (.cons (k := 2) rfl (.cons (k := 102) rfl (.cons (k := 103) rfl (.cons (k := 104) rfl .nil)))))) ?_
    refine W.ret ?_
    refine N.then_ret ?_
    exact N.retBy [1, 2] (.cons (by first | exact .cell (c := 104) rfl rfl (fun w hs => run_loadVarA Tryz.underlying25 rfl sz25 rfl (fun j u hj => by rw [Nat.zero_add, PH.sub.cell hs (by first | exact single_self _ _ | exact pset_self _ _ _ | assumption)]; exact hj))) (.cons (.tmp rfl) .nil)) rfl rfl rfl rfl ⟨⟨[], [], [], none, 0, none, 0, none, 0⟩, H1, by rw [nx0 hok]; rfl, ⟨⟨rfl, rfl⟩, ⟨rfl, rfl⟩, ⟨rfl, rfl⟩⟩, by rw [nx0 hok]; rfl, fun _ _ h => h, rfl⟩
  ·
    have hok : z.Ok := Decidable.not_not.1 hc8
    refine W.skip ?_
    refine N.next ?_
    refine W.seq ?_
    refine W.seq ?_
    refine W.region ?_
    refine RL.q (Yld.fieldAddr fo25_1 rfl) rfl ?_
    refine RL.q (Yld.load1 (c := 103) Tryz.underlying22 rfl rfl rfl (by first | exact single_self _ _ | exact pset_self _ _ _ | assumption) rfl) rfl ?_
    refine RL.q (Yld.lenSl Tryz.underlying22 rfl) rfl ?_
    refine RL.q (Yld.bin rfl rfl BinV.gtr) rfl ?_
    refine RL.nil ?_
    refine N.next ?_
    refine W.keep (.cons (k := 2) rfl (.cons (k := 3) rfl (.cons (k := 4) rfl (.cons (k := 13) rfl .nil)))) (.cons (k := 0) rfl (.cons (k := 1) rfl (.cons (k := 2) rfl (.cons (k := 102) rfl (.cons (k := 103) rfl (.cons (k := 104) rfl .nil)))))) ?_
    first | refine W.condD rfl (fun hc13 => ?_) (fun hc13 => ?_) | (refine W.cond rfl (fun hc13 => ?_) (fun hc13 => ?_) <;> try simp only [Bool.or_eq_true, Bool.and_eq_true, Bool.not_eq_true', Bool.not_eq_false', decide_eq_true_eq, Bool.or_eq_false_iff, Bool.and_eq_false_iff, decide_eq_false_iff_not, beq_iff_eq, beq_eq_false_iff_ne, ne_eq, Decidable.not_not] at hc13)
    ·
      have h1 : 0 < z.n.length := by omega
      refine W.seq ?_
      refine W.region ?_
      refine RL.q (Yld.loadW (c := 103) Tryz.underlying25 rfl sz25 rfl rfl (by first | exact single_self _ _ | exact pset_self _ _ _ | assumption) rfl) rfl ?_
      refine RL.e (Eff.call ent35 [2] [2] (.cons rfl .nil) (rfinal_ct z H1 hz (by omega)) rfl rfl rfl rfl (by rintro _ _ ⟨_, _, _, _, _, _, rfl⟩; rfl)) rfl ?_
      rintro _ _ ⟨_, ⟨y, rfl, hy, y1, y2, y3, rfl⟩, rfl⟩
      refine RL.e0 (Eff.storeS (c := 104) _ sz25 rfl rfl rfl rfl rfl rfl rfl (by (try simp only [putAt, List.take, List.drop, List.nil_append, List.cons_append, List.append_nil, List.length_cons, List.length_nil, Nat.add_zero, Nat.zero_add, Nat.reduceAdd]); rfl)) ?_
      rintro _ _ rfl
      refine RL.q (Yld.assign rfl) rfl ?_
      refine RL.nil ?_
      refine N.next ?_
      refine W.keep (.cons (k := 4) rfl (.cons (k := 5) rfl .nil)) (.cons (k := 0) rfl (.cons (k := 1) rfl (.cons (k := 2) rfl (.cons (k := 102) rfl (.cons (k := 103) rfl (.cons (k := 104) rfl .nil)))))) ?_
      refine W.ret ?_
      refine N.then_ret ?_
      exact N.retBy [1, 2] (.cons (by first | exact .cell (c := 104) rfl rfl (fun w hs => run_loadVarA Tryz.underlying25 rfl sz25 rfl (fun j u hj => by rw [Nat.zero_add, PH.sub.cell hs (by first | exact single_self _ _ | exact pset_self _ _ _ | assumption)]; exact hj))) (.cons (.tmp rfl) .nil)) rfl rfl rfl rfl ⟨y, H1, by rw [nx1 hok h1]; rfl, hy, by rw [nx1 hok h1]; show Gl.mk y.o y.n y.l = _; rw [y1, y2, y3]; rfl, fun _ _ h => h, rfl⟩
    ·
      have h1 : ¬ 0 < z.n.length := by omega
      refine W.skip ?_
      refine N.next ?_
      refine W.seq ?_
      refine W.seq ?_
      refine W.region ?_
      refine RL.q (Yld.fieldAddr fo31_0 rfl) rfl ?_
      refine RL.q (Yld.load1 (c := 102) Tryz.underlying22 rfl rfl rfl (by first | exact single_self _ _ | exact pset_self _ _ _ | assumption) rfl) rfl ?_
      refine RL.q (Yld.lenSl Tryz.underlying22 rfl) rfl ?_
      refine RL.q (Yld.bin rfl rfl BinV.eql) rfl ?_
      refine RL.nil ?_
      refine N.next ?_
      refine W.keep (.cons (k := 2) rfl (.cons (k := 3) rfl (.cons (k := 4) rfl (.cons (k := 19) rfl .nil)))) (.cons (k := 0) rfl (.cons (k := 1) rfl (.cons (k := 2) rfl (.cons (k := 102) rfl (.cons (k := 103) rfl (.cons (k := 104) rfl .nil)))))) ?_
      first | refine W.condD rfl (fun hc19 => ?_) (fun hc19 => ?_) | (refine W.cond rfl (fun hc19 => ?_) (fun hc19 => ?_) <;> try simp only [Bool.or_eq_true, Bool.and_eq_true, Bool.not_eq_true', Bool.not_eq_false', decide_eq_true_eq, Bool.or_eq_false_iff, Bool.and_eq_false_iff, decide_eq_false_iff_not, beq_iff_eq, beq_eq_false_iff_ne, ne_eq, Decidable.not_not] at hc19)
      ·
        have h2 : (gl x).o.length = 0 := by show x.o.length = 0; omega
        refine W.seq ?_
        refine W.region ?_
        refine RL.q (Yld.buildP lay25 .nil rfl) rfl ?_
        refine RL.e0 (Eff.storeS (c := 104) _ sz25 rfl rfl rfl rfl rfl rfl rfl (by (try simp only [putAt, List.take, List.drop, List.nil_append, List.cons_append, List.append_nil, List.length_cons, List.length_nil, Nat.add_zero, Nat.zero_add, Nat.reduceAdd]); rfl)) ?_
        rintro _ _ rfl
        refine RL.q (Yld.assign rfl) rfl ?_
        refine RL.nil ?_
        refine N.next ?_
        refine W.keep (.cons (k := 4) rfl (.cons (k := 5) rfl .nil)) (.cons (k := 0) rfl (.cons (k := 1) rfl (.cons (k := 2) rfl (.cons (k := 102) rfl (.cons (k := 103) rfl (.cons (k := 104) rfl .nil)))))) ?_
        refine W.ret ?_
        refine N.then_ret ?_
        exact N.retBy [1, 2] (.cons (by first | exact .cell (c := 104) rfl rfl (fun w hs => run_loadVarA Tryz.underlying25 rfl sz25 rfl (fun j u hj => by rw [Nat.zero_add, PH.sub.cell hs (by first | exact single_self _ _ | exact pset_self _ _ _ | assumption)]; exact hj))) (.cons (.tmp rfl) .nil)) rfl rfl rfl rfl ⟨⟨[], [], [], none, 0, none, 0, none, 0⟩, H1, by rw [nx2 hok h1 h2]; rfl, ⟨⟨rfl, rfl⟩, ⟨rfl, rfl⟩, ⟨rfl, rfl⟩⟩, by rw [nx2 hok h1 h2]; rfl, fun _ _ h => h, rfl⟩
      ·
        have h2 : ¬ (gl x).o.length = 0 := by show ¬ x.o.length = 0; omega
        refine W.skip ?_
        refine N.next ?_
        refine W.seq ?_
        refine W.seq ?_
        refine W.region ?_
        refine RL.q (Yld.fieldAddr fo31_0 rfl) rfl ?_
        refine RL.q (Yld.load1 (c := 102) Tryz.underlying22 rfl rfl rfl (by first | exact single_self _ _ | exact pset_self _ _ _ | assumption) rfl) rfl ?_
        refine RL.q (Yld.fieldAddr fo25_0 rfl) rfl ?_
        refine RL.q (Yld.load1 (c := 103) Tryz.underlying22 rfl rfl rfl (by first | exact single_self _ _ | exact pset_self _ _ _ | assumption) rfl) rfl ?_
        refine RL.e (Eff.call ent16 [1, 2] [1, 2] (.cons rfl (.cons rfl .nil)) (ints_ct x.o _ _ _ hxo z.o _ _ _ hz1) rfl rfl rfl rfl (by rintro _ _ ⟨_, rfl⟩; rfl)) rfl ?_
        rintro _ _ ⟨_, ⟨rfl, rfl⟩, rfl⟩
        refine RL.q (by first | exact Yld.notD rfl | exact Yld.not rfl) rfl ?_
        refine RL.nil ?_
        refine N.next ?_
        refine W.keep (.cons (k := 2) rfl (.cons (k := 3) rfl (.cons (k := 4) rfl (.cons (k := 26) rfl .nil)))) (.cons (k := 0) rfl (.cons (k := 1) rfl (.cons (k := 2) rfl (.cons (k := 102) rfl (.cons (k := 103) rfl (.cons (k := 104) rfl .nil)))))) ?_
        first | refine W.condD rfl (fun hc26 => ?_) (fun hc26 => ?_) | (refine W.cond rfl (fun hc26 => ?_) (fun hc26 => ?_) <;> try simp only [Bool.or_eq_true, Bool.and_eq_true, Bool.not_eq_true', Bool.not_eq_false', decide_eq_true_eq, Bool.or_eq_false_iff, Bool.and_eq_false_iff, decide_eq_false_iff_not, beq_iff_eq, beq_eq_false_iff_ne, ne_eq, Decidable.not_not] at hc26)
        ·
          have h3 : (gl x).o ≠ z.o := hc26
          refine W.seq ?_
          refine W.region ?_
          refine RL.q (Yld.loadW (c := 103) Tryz.underlying25 rfl sz25 rfl rfl (by first | exact single_self _ _ | exact pset_self _ _ _ | assumption) rfl) rfl ?_
          refine RL.q (Yld.fieldAddr fo31_0 rfl) rfl ?_
          refine RL.q (Yld.load1 (c := 102) Tryz.underlying22 rfl rfl rfl (by first | exact single_self _ _ | exact pset_self _ _ _ | assumption) rfl) rfl ?_
          refine RL.e (Eff.call ent36 [2, 1] [2, 1, 160] (.cons rfl (.cons rfl .nil)) (rjoint_ct z H1 hz (by omega) (by omega) (by omega) x.o _ _ _ hxo (by omega)) rfl rfl rfl rfl (by rintro _ _ ⟨_, _, _, _, _, _, _, _, _, rfl⟩; rfl)) rfl ?_
          rintro _ _ ⟨_, ⟨y, K, rfl, s1, s2, s3, y1, y2, y3, rfl⟩, rfl⟩
          refine RL.e0 (Eff.storeS (c := 104) _ sz25 rfl rfl rfl rfl rfl rfl rfl (by (try simp only [putAt, List.take, List.drop, List.nil_append, List.cons_append, List.append_nil, List.length_cons, List.length_nil, Nat.add_zero, Nat.zero_add, Nat.reduceAdd]); rfl)) ?_
          rintro _ _ rfl
          refine RL.q (Yld.assign rfl) rfl ?_
          refine RL.nil ?_
          refine N.next ?_
          refine W.keep (.cons (k := 4) rfl (.cons (k := 5) rfl .nil)) (.cons (k := 0) rfl (.cons (k := 1) rfl (.cons (k := 2) rfl (.cons (k := 102) rfl (.cons (k := 103) rfl (.cons (k := 104) rfl (.cons (k := 160) rfl .nil))))))) ?_
          refine W.ret ?_
          refine N.then_ret ?_
          refine N.merge 2 160 rfl rfl rfl fun ha => ?_
          exact N.retBy [1, 2] (.cons (by first | exact .cell (c := 104) rfl rfl (fun w hs => run_loadVarA Tryz.underlying25 rfl sz25 rfl (fun j u hj => by rw [Nat.zero_add, PH.sub.cell hs (by first | exact single_self _ _ | exact pset_self _ _ _ | assumption)]; exact hj))) (.cons (.tmp rfl) .nil)) rfl rfl rfl rfl ⟨y, _, by rw [nx3 hok h1 h2 h3]; rfl, ⟨s1.mono hjoin_l, s2.mono ha, s3.mono ha⟩, by rw [nx3 hok h1 h2 h3]; show Gl.mk y.o y.n y.l = _; rw [y1, y2, y3]; rfl, fun b o h => hjoin_l b o h, rfl⟩
        ·
          have h3 : ¬ (gl x).o ≠ z.o := hc26
          refine W.skip ?_
          refine N.next ?_
          refine W.seq ?_
          refine W.seq ?_
          refine W.region ?_
          refine RL.q (Yld.fieldAddr fo31_1 rfl) rfl ?_
          refine RL.q (Yld.load1 (c := 102) Tryz.underlying22 rfl rfl rfl (by first | exact single_self _ _ | exact pset_self _ _ _ | assumption) rfl) rfl ?_
          refine RL.q (Yld.fieldAddr fo25_2 rfl) rfl ?_
          refine RL.q (Yld.load1 (c := 103) Tryz.underlying22 rfl rfl rfl (by first | exact single_self _ _ | exact pset_self _ _ _ | assumption) rfl) rfl ?_
          refine RL.e (Eff.call ent16 [1, 2] [1, 2] (.cons rfl (.cons rfl .nil)) (ints_ct x.n _ _ _ hxn z.l _ _ _ hz3) rfl rfl rfl rfl (by rintro _ _ ⟨_, rfl⟩; rfl)) rfl ?_
          rintro _ _ ⟨_, ⟨rfl, rfl⟩, rfl⟩
          refine RL.q (by first | exact Yld.notD rfl | exact Yld.not rfl) rfl ?_
          refine RL.nil ?_
          refine N.next ?_
          refine W.keep (.cons (k := 2) rfl (.cons (k := 3) rfl (.cons (k := 4) rfl (.cons (k := 36) rfl .nil)))) (.cons (k := 0) rfl (.cons (k := 1) rfl (.cons (k := 2) rfl (.cons (k := 102) rfl (.cons (k := 103) rfl (.cons (k := 104) rfl .nil)))))) ?_
          first | refine W.condD rfl (fun hc36 => ?_) (fun hc36 => ?_) | (refine W.cond rfl (fun hc36 => ?_) (fun hc36 => ?_) <;> try simp only [Bool.or_eq_true, Bool.and_eq_true, Bool.not_eq_true', Bool.not_eq_false', decide_eq_true_eq, Bool.or_eq_false_iff, Bool.and_eq_false_iff, decide_eq_false_iff_not, beq_iff_eq, beq_eq_false_iff_ne, ne_eq, Decidable.not_not] at hc36)
          ·
            have h4 : (gl x).n ≠ z.l := hc36
            refine W.seq ?_
            refine W.region ?_
            refine RL.q (Yld.loadW (c := 103) Tryz.underlying25 rfl sz25 rfl rfl (by first | exact single_self _ _ | exact pset_self _ _ _ | assumption) rfl) rfl ?_
            refine RL.q (Yld.fieldAddr fo31_1 rfl) rfl ?_
            refine RL.q (Yld.load1 (c := 102) Tryz.underlying22 rfl rfl rfl (by first | exact single_self _ _ | exact pset_self _ _ _ | assumption) rfl) rfl ?_
            refine RL.e (Eff.call ent37 [2, 1] [2, 1, 160] (.cons rfl (.cons rfl .nil)) (rlearn_ct z H1 hz (by omega) (by omega) (by omega) x.n _ _ _ hxn (by omega)) rfl rfl rfl rfl (by rintro _ _ ⟨_, _, _, _, _, _, _, _, _, rfl⟩; rfl)) rfl ?_
            rintro _ _ ⟨_, ⟨y, K, rfl, s1, s2, s3, y1, y2, y3, rfl⟩, rfl⟩
            refine RL.e0 (Eff.storeS (c := 104) _ sz25 rfl rfl rfl rfl rfl rfl rfl (by (try simp only [putAt, List.take, List.drop, List.nil_append, List.cons_append, List.append_nil, List.length_cons, List.length_nil, Nat.add_zero, Nat.zero_add, Nat.reduceAdd]); rfl)) ?_
            rintro _ _ rfl
            refine RL.q (Yld.assign rfl) rfl ?_
            refine RL.nil ?_
            refine N.next ?_
            refine W.keep (.cons (k := 4) rfl (.cons (k := 5) rfl .nil)) (.cons (k := 0) rfl (.cons (k := 1) rfl (.cons (k := 2) rfl (.cons (k := 102) rfl (.cons (k := 103) rfl (.cons (k := 104) rfl (.cons (k := 160) rfl .nil))))))) ?_
            refine W.ret ?_
            refine N.then_ret ?_
            refine N.merge 2 160 rfl rfl rfl fun ha => ?_
            exact N.retBy [1, 2] (.cons (by first | exact .cell (c := 104) rfl rfl (fun w hs => run_loadVarA Tryz.underlying25 rfl sz25 rfl (fun j u hj => by rw [Nat.zero_add, PH.sub.cell hs (by first | exact single_self _ _ | exact pset_self _ _ _ | assumption)]; exact hj))) (.cons (.tmp rfl) .nil)) rfl rfl rfl rfl ⟨y, _, by rw [nx4 hok h1 h2 h3 h4]; rfl, ⟨s1.mono hjoin_l, s2.mono hjoin_l, s3.mono ha⟩, by rw [nx4 hok h1 h2 h3 h4]; show Gl.mk y.o y.n y.l = _; rw [y1, y2, y3]; rfl, fun b o h => hjoin_l b o h, rfl⟩
          ·
            have h4 : ¬ (gl x).n ≠ z.l := hc36
            refine W.skip ?_
            refine N.next ?_
            refine W.seq ?_
            refine W.region ?_
            refine RL.q (Yld.buildP lay25 .nil rfl) rfl ?_
            refine RL.e0 (Eff.storeS (c := 104) _ sz25 rfl rfl rfl rfl rfl rfl rfl (by (try simp only [putAt, List.take, List.drop, List.nil_append, List.cons_append, List.append_nil, List.length_cons, List.length_nil, Nat.add_zero, Nat.zero_add, Nat.reduceAdd]); rfl)) ?_
            rintro _ _ rfl
            refine RL.q (Yld.assign rfl) rfl ?_
            refine RL.nil ?_
            refine N.next ?_
            refine W.keep (.cons (k := 4) rfl (.cons (k := 5) rfl .nil)) (.cons (k := 0) rfl (.cons (k := 1) rfl (.cons (k := 2) rfl (.cons (k := 102) rfl (.cons (k := 103) rfl (.cons (k := 104) rfl .nil)))))) ?_
            refine W.ret ?_
            exact N.retBy [1, 2] (.cons (by first | exact .cell (c := 104) rfl rfl (fun w hs => run_loadVarA Tryz.underlying25 rfl sz25 rfl (fun j u hj => by rw [Nat.zero_add, PH.sub.cell hs (by first | exact single_self _ _ | exact pset_self _ _ _ | assumption)]; exact hj))) (.cons (.tmp rfl) .nil)) rfl rfl rfl rfl ⟨⟨[], [], [], none, 0, none, 0, none, 0⟩, H1, by rw [nx5 hok h1 h2 h3 h4]; rfl, ⟨⟨rfl, rfl⟩, ⟨rfl, rfl⟩, ⟨rfl, rfl⟩⟩, by rw [nx5 hok h1 h2 h3 h4]; rfl, fun _ _ h => h, rfl⟩

end Go.Proofs.YtdjmdfnhnlijiaaGreatDoor
