/- Changes of configurations. Written by program (walk2.py). -/
import Derived.Test.YtdjmdfnhnlijiaaGreatDoorC3
namespace Go.Proofs.YtdjmdfnhnlijiaaGreatDoor
open SL Cfg
set_option linter.unusedVariables false
set_option linter.unusedSimpArgs false
theorem zc25 : zc Tryz.prog 25 [.slice none 0 0, .slice none 0 0, .slice none 0 0] := (by kernel_rfl : ((Tryz.prog.info? 25).bind (·.zero)).map (fun v => v.cells.toList) = some [.slice none 0 0, .slice none 0 0, .slice none 0 0])
theorem lay25 : layS Tryz.prog 25 = some ([.slice none 0 0, .slice none 0 0, .slice none 0 0], [(0, 1), (1, 1), (2, 1)]) := by kernel_rfl
set_option maxRecDepth 100000 in
set_option maxHeartbeats 400000 in
theorem simple_ct (l : List Int) (H1 : PH) (p : Option Addr) (c : Nat) (hl : Sl H1 p c 1 (iz l)) (hb : l.length ≤ 1000000) : Ct Tryz.prog 26 [.slice p l.length c] [H1] (fun v Hs => ∃ H' p' c', v = .agg [.slice p' (setL l).length c', .slice none 0 0, .slice none 0 0].toArray ∧ Own H' p' c' 3 1 (iz (setL l)) ∧ Hs = [H1, H']) := by
  refine Ct.body Tryz.func26 rfl Tryz.ntmps26 rfl ?_
  intro E F
  refine W.seq ?_
  refine W.region ?_
  refine RL.e (Eff.alloc 102 zc25) rfl ?_
  rintro _ _ ⟨b2, rfl, rfl⟩
  refine RL.nil ?_
  refine N.next ?_
  refine W.seq ?_
  refine W.region ?_
  refine RL.q (Yld.move rfl) rfl ?_
  refine RL.e (Eff.buildSlice 104 Tryz.underlying63 sz22 zc22 rfl rfl (.cons rfl rfl .nil) rfl) rfl ?_
  rintro _ _ ⟨b4, rfl, rfl⟩
  refine RL.e (Eff.call ent38 [104, 1] [104, 1, 130] (.cons rfl .nil) (cset_ct [(p, c, l)] _ H1 _ _ (Own.mk (e := 22) (n := 1) (c := 1) [] (by intro r hr; simp only [List.map_cons, List.map_nil, List.mem_cons, List.not_mem_nil, or_false] at hr; rcases hr with rfl <;> exact ⟨rfl, by simp [SV, Value.oneCell']⟩) (by simp) (by simp [maxLen]) (by rfl) (by rfl)).sl (by intro s hs; simp only [List.mem_cons, List.not_mem_nil, or_false] at hs; subst hs; exact hl) (by rw [cat1]; exact hb)) rfl rfl rfl rfl (by rintro _ _ ⟨_, _, _, _, _, rfl⟩; rfl)) rfl ?_
  rintro _ _ ⟨_, ⟨Hs1, ps, cs, rfl, hOs, rfl⟩, rfl⟩
  refine RL.q (Yld.buildP lay25 (.cons rfl rfl .nil) rfl) rfl ?_
  refine RL.e0 (Eff.storeS (c := 102) _ sz25 rfl rfl rfl rfl rfl rfl rfl (by (try simp only [putAt, List.take, List.drop, List.nil_append, List.cons_append, List.append_nil, List.length_cons, List.length_nil, Nat.add_zero, Nat.zero_add, Nat.reduceAdd]); rfl)) ?_
  rintro _ _ rfl
  refine RL.nil ?_
  refine N.next ?_
  refine W.keep (.cons (k := 2) rfl .nil) (.cons (k := 0) rfl (.cons (k := 1) rfl (.cons (k := 102) rfl (.cons (k := 104) rfl (.cons (k := 130) rfl .nil))))) ?_
  refine W.ret ?_
  exact N.retBy [1, 130] (.cons (by first | exact .cell (c := 102) rfl rfl (fun w hs => run_loadVarA Tryz.underlying25 rfl sz25 rfl (fun j u hj => by rw [Nat.zero_add, PH.sub.cell hs (by first | exact single_self _ _ | exact pset_self _ _ _ | assumption)]; exact hj))) .nil) rfl rfl rfl rfl ⟨_, _, _, by rw [cat1]; rfl, by rw [cat1] at hOs; exact hOs, rfl⟩

set_option maxRecDepth 100000 in
set_option maxHeartbeats 1600000 in
theorem cjoint_ct (x : Cf) (H1 : PH) (hx : x.In H1) (hbo : x.o.length ≤ 400000) (hbn : x.n.length ≤ 400000) (hbl : x.l.length ≤ 400000) (l : List Int) (H3 : PH) (q : Option Addr) (d : Nat) (hl : Sl H3 q d 1 (iz l)) (hb : l.length ≤ 400000) : Ct Tryz.prog 32 [.agg [.slice x.po x.o.length x.co, .slice x.pn x.n.length x.cn, .slice x.pl x.l.length x.cl].toArray, .slice q l.length d] [H1, H3] (fun v Hs => ∃ (y : Cf) (H' : PH), v = .agg [.slice y.po y.o.length y.co, .slice y.pn y.n.length y.cn, .slice y.pl y.l.length y.cl].toArray ∧ y.In H' ∧ y.o = x.o ∧ y.n = setL l ∧ y.l = minusL x.l (setL l) ∧ Hs = [H1, H3, H']) := by
  refine Ct.body Tryz.func32 rfl Tryz.ntmps32 rfl ?_
  intro E F
  obtain ⟨ho, hn, hl0⟩ := hx
  have hsl := setL_len l
  refine W.seq ?_
  refine W.region ?_
  refine RL.e (Eff.box 102 _ rfl rfl) rfl ?_
  rintro _ _ ⟨b2, rfl, rfl⟩
  refine RL.e (Eff.alloc 104 zc25) rfl ?_
  rintro _ _ ⟨b4, rfl, rfl⟩
  refine RL.nil ?_
  refine N.next ?_
  refine W.seq ?_
  refine W.region ?_
  refine RL.q (Yld.move rfl) rfl ?_
  refine RL.e (Eff.buildSlice 107 Tryz.underlying63 sz22 zc22 rfl rfl (.cons rfl rfl .nil) rfl) rfl ?_
  rintro _ _ ⟨b7, rfl, rfl⟩
  refine RL.e (Eff.call ent38 [107, 2] [107, 2, 130] (.cons rfl .nil) (cset_ct [(q, d, l)] _ H3 _ _ (Own.mk (e := 22) (n := 1) (c := 1) [] (by intro r hr; simp only [List.map_cons, List.map_nil, List.mem_cons, List.not_mem_nil, or_false] at hr; rcases hr with rfl <;> exact ⟨rfl, by simp [SV, Value.oneCell']⟩) (by simp) (by simp [maxLen]) (by rfl) (by rfl)).sl (by intro s hs; simp only [List.mem_cons, List.not_mem_nil, or_false] at hs; subst hs; exact hl) (by rw [cat1]; omega)) rfl rfl rfl rfl (by rintro _ _ ⟨_, _, _, _, _, rfl⟩; rfl)) rfl ?_
  rintro _ _ ⟨_, ⟨Hs1, ps, cs, rfl, hOs, rfl⟩, rfl⟩
  rw [cat1] at hOs ⊢
  refine RL.q (Yld.assign rfl) rfl ?_
  refine RL.nil ?_
  refine N.next ?_
  refine W.keep (.cons (k := 2) rfl (.cons (k := 4) rfl (.cons (k := 5) rfl .nil))) (.cons (k := 0) rfl (.cons (k := 1) rfl (.cons (k := 2) rfl (.cons (k := 102) rfl (.cons (k := 104) rfl (.cons (k := 107) rfl (.cons (k := 130) rfl .nil))))))) ?_
  refine W.seq ?_
  refine W.draw (.q 0 (.q 1 (.q 3 (.q 4 (.q 5 (.q 6 (.one 2 (.one 7 (.q 8 (.one 9 .done)))))))))) (.cons (k := 0) rfl (.cons (k := 2) rfl (.cons (k := 102) rfl (.cons (k := 107) rfl .nil)))) mix (by kernel_rfl) (by kernel_rfl) ?_
  refine DL.q rfl (Yld.fieldAddr fo25_0 rfl) rfl ?_
  refine DL.q rfl (Yld.load1 (c := 102) Tryz.underlying22 rfl rfl rfl (by first | exact single_self _ _ | exact pset_self _ _ _ | assumption) rfl) rfl ?_
  refine DL.q rfl (Yld.move rfl) rfl ?_
  refine DL.q rfl (Yld.fieldAddr fo25_2 rfl) rfl ?_
  refine DL.q rfl (Yld.load1 (c := 102) Tryz.underlying22 rfl rfl rfl (by first | exact single_self _ _ | exact pset_self _ _ _ | assumption) rfl) rfl ?_
  refine DL.q rfl (Yld.move rfl) rfl ?_
  refine DL.one rfl (Eff.call ent41 [1] [1, 150] (.cons rfl .nil) (cloneI_ct x.o _ _ _ ho (by omega)) rfl rfl rfl rfl (by rintro _ _ ⟨_, _, _, _, _, rfl⟩; rfl)) rfl (by rintro _ _ ⟨_, ⟨Ha, pa, ca, rfl, hOa, rfl⟩, rfl⟩; repeat (first | exact .nil | refine .cons rfl ?_)) ?_
  rintro _ _ ⟨_, ⟨Ha, pa, ca, rfl, hOa, rfl⟩, rfl⟩
  refine DL.one rfl (Eff.call ent39 [1, 130] [1, 130, 152] (.cons rfl (.cons rfl .nil)) (cminus_ct x.l _ _ _ hl0 (setL l) _ _ _ hOs.sl (by omega)) rfl rfl rfl rfl (by rintro _ _ ⟨_, _, _, _, _, rfl⟩; rfl)) rfl (by rintro _ _ ⟨_, ⟨Hm, pm, cm, rfl, hOm, rfl⟩, rfl⟩; repeat (first | exact .nil | refine .cons rfl ?_)) ?_
  rintro _ _ ⟨_, ⟨Hm, pm, cm, rfl, hOm, rfl⟩, rfl⟩
  refine DL.q rfl (Yld.buildP lay25 (.cons rfl rfl (.cons rfl rfl (.cons rfl rfl .nil))) rfl) rfl ?_
  refine DL.one0 rfl (Eff.storeS (c := 104) _ sz25 rfl rfl rfl rfl rfl rfl rfl (by (try simp only [putAt, List.take, List.drop, List.nil_append, List.cons_append, List.append_nil, List.length_cons, List.length_nil, Nat.add_zero, Nat.zero_add, Nat.reduceAdd]); rfl)) (by rintro _ _ rfl; repeat (first | exact .nil | refine .cons rfl ?_)) ?_
  rintro _ _ rfl
  refine DL.done ?_
  refine N.next ?_
  refine W.keep (.cons (k := 4) rfl .nil) (.cons (k := 0) rfl (.cons (k := 1) rfl (.cons (k := 2) rfl (.cons (k := 102) rfl (.cons (k := 104) rfl (.cons (k := 107) rfl (.cons (k := 130) rfl (.cons (k := 150) rfl (.cons (k := 152) rfl .nil))))))))) ?_
  refine W.ret ?_
  refine N.merge 150 130 rfl rfl rfl fun ha1 => ?_
  refine N.merge 150 152 rfl rfl rfl fun ha2 => ?_
  exact N.retBy [1, 2, 150] (.cons (by first | exact .cell (c := 104) rfl rfl (fun w hs => run_loadVarA Tryz.underlying25 rfl sz25 rfl (fun j u hj => by rw [Nat.zero_add, PH.sub.cell hs (by first | exact single_self _ _ | exact pset_self _ _ _ | assumption)]; exact hj))) .nil) rfl rfl rfl rfl ⟨⟨x.o, setL l, minusL x.l (setL l), pa, ca, ps, cs, pm, cm⟩, _, rfl, ⟨(hOa.sl.mono hjoin_l).mono hjoin_l, (hOs.sl.mono ha1).mono hjoin_l, hOm.sl.mono ha2⟩, rfl, rfl, rfl, rfl⟩

set_option maxRecDepth 100000 in
set_option maxHeartbeats 1600000 in
theorem cfinal_ct (x : Cf) (H1 : PH) (hx : x.In H1) (hbo : x.o.length ≤ 400000) (hbn : x.n.length ≤ 400000) (hbl : x.l.length ≤ 400000) : Ct Tryz.prog 30 [.agg [.slice x.po x.o.length x.co, .slice x.pn x.n.length x.cn, .slice x.pl x.l.length x.cl].toArray] [H1] (fun v Hs => ∃ (y : Cf) (H' : PH), v = .agg [.slice y.po y.o.length y.co, .slice y.pn y.n.length y.cn, .slice y.pl y.l.length y.cl].toArray ∧ y.In H' ∧ y.o = (if x.n.length = 0 then x.o else x.n) ∧ y.n = [] ∧ y.l = x.l ∧ Hs = [H1, H']) := by
  refine Ct.body Tryz.func30 rfl Tryz.ntmps30 rfl ?_
  intro E F
  obtain ⟨ho, hn, hl⟩ := hx
  refine W.seq ?_
  refine W.region ?_
  refine RL.e (Eff.box 101 _ rfl rfl) rfl ?_
  rintro _ _ ⟨b1, rfl, rfl⟩
  refine RL.e (Eff.alloc 102 zc25) rfl ?_
  rintro _ _ ⟨b2, rfl, rfl⟩
  refine RL.nil ?_
  refine N.next ?_
  refine W.seq ?_
  refine W.region ?_
  refine RL.q (Yld.fieldAddr fo25_1 rfl) rfl ?_
  refine RL.q (Yld.load1 (c := 101) Tryz.underlying22 rfl rfl rfl (by first | exact single_self _ _ | exact pset_self _ _ _ | assumption) rfl) rfl ?_
  refine RL.q (Yld.assign rfl) rfl ?_
  refine RL.nil ?_
  refine N.next ?_
  refine W.cutK (ι := SI) (fun y => (Sl H1 y.p y.c 1 (iz y.s) ∧ y.s = (if x.n.length = 0 then x.o else x.n))) (fun y => [(3, .slice y.p y.s.length y.c)]) (fun y => []) (.cons (k := 1) rfl (.cons (k := 2) rfl .nil)) (.cons (k := 0) rfl (.cons (k := 1) rfl (.cons (k := 101) rfl (.cons (k := 102) rfl .nil)))) ?_ ?_
  ·
    refine W.seq ?_
    refine W.region ?_
    refine RL.q (Yld.move rfl) rfl ?_
    refine RL.q (Yld.lenSl Tryz.underlying22 rfl) rfl ?_
    refine RL.q (Yld.bin rfl rfl BinV.eql) rfl ?_
    refine RL.nil ?_
    refine N.next ?_
    refine W.keep (.cons (k := 1) rfl (.cons (k := 2) rfl (.cons (k := 3) rfl (.cons (k := 8) rfl .nil)))) (.cons (k := 0) rfl (.cons (k := 1) rfl (.cons (k := 101) rfl (.cons (k := 102) rfl .nil)))) ?_
    first | refine W.condD rfl (fun hc8 => ?_) (fun hc8 => ?_) | (refine W.cond rfl (fun hc8 => ?_) (fun hc8 => ?_) <;> try simp only [Bool.or_eq_true, Bool.and_eq_true, Bool.not_eq_true', Bool.not_eq_false', decide_eq_true_eq, Bool.or_eq_false_iff, Bool.and_eq_false_iff, decide_eq_false_iff_not, beq_iff_eq, beq_eq_false_iff_ne, ne_eq, Decidable.not_not] at hc8)
    ·
      refine W.region ?_
      refine RL.q (Yld.fieldAddr fo25_0 rfl) rfl ?_
      refine RL.q (Yld.load1 (c := 101) Tryz.underlying22 rfl rfl rfl (by first | exact single_self _ _ | exact pset_self _ _ _ | assumption) rfl) rfl ?_
      refine RL.q (Yld.assign rfl) rfl ?_
      refine RL.nil ?_
      exact N.famK ⟨0, emp, x.po, x.co, x.o⟩ ⟨ho, (if_pos (by omega)).symm⟩ (.as rfl (by first | rfl | (simp; done) | (congr 1; simp; done) | (congr 1; omega)) .nil) (.cons rfl (.cons rfl .nil)) .nil (.cons rfl (.cons rfl (.cons rfl (.cons rfl .nil))))
    ·
      refine W.skip ?_
      exact N.famK ⟨0, emp, x.pn, x.cn, x.n⟩ ⟨hn, (if_neg (by omega)).symm⟩ (.as rfl (by first | rfl | (simp; done) | (congr 1; simp; done) | (congr 1; omega)) .nil) (.cons rfl (.cons rfl .nil)) .nil (.cons rfl (.cons rfl (.cons rfl (.cons rfl .nil))))
  rintro y ⟨hy, hys⟩
  refine W.keep (.cons (k := 3) rfl (.cons (k := 1) rfl (.cons (k := 2) rfl .nil))) (.cons (k := 0) rfl (.cons (k := 1) rfl (.cons (k := 101) rfl (.cons (k := 102) rfl .nil)))) ?_
  have hyl : y.s.length ≤ 400000 := by rw [hys]; split <;> assumption
  refine W.seq ?_
  refine W.draw (.q 0 (.q 2 (.q 3 (.one 1 (.one 4 (.q 5 (.one 6 .done))))))) (.cons (k := 0) rfl (.cons (k := 101) rfl .nil)) mix (by kernel_rfl) (by kernel_rfl) ?_
  refine DL.q rfl (Yld.move rfl) rfl ?_
  refine DL.q rfl (Yld.fieldAddr fo25_2 rfl) rfl ?_
  refine DL.q rfl (Yld.load1 (c := 101) Tryz.underlying22 rfl rfl rfl (by first | exact single_self _ _ | exact pset_self _ _ _ | assumption) rfl) rfl ?_
  refine DL.one rfl (Eff.call ent41 [1] [1, 150] (.cons rfl .nil) (cloneI_ct y.s _ _ _ hy (by omega)) rfl rfl rfl rfl (by rintro _ _ ⟨_, _, _, _, _, rfl⟩; rfl)) rfl (by rintro _ _ ⟨_, ⟨Ha, pa, ca, rfl, hOa, rfl⟩, rfl⟩; repeat (first | exact .nil | refine .cons rfl ?_)) ?_
  rintro _ _ ⟨_, ⟨Ha, pa, ca, rfl, hOa, rfl⟩, rfl⟩
  refine DL.one rfl (Eff.call ent41 [1] [1, 151] (.cons rfl .nil) (cloneI_ct x.l _ _ _ hl (by omega)) rfl rfl rfl rfl (by rintro _ _ ⟨_, _, _, _, _, rfl⟩; rfl)) rfl (by rintro _ _ ⟨_, ⟨Hb, pb, cb, rfl, hOb, rfl⟩, rfl⟩; repeat (first | exact .nil | refine .cons rfl ?_)) ?_
  rintro _ _ ⟨_, ⟨Hb, pb, cb, rfl, hOb, rfl⟩, rfl⟩
  refine DL.q rfl (Yld.buildP lay25 (.cons rfl rfl (.cons rfl rfl .nil)) rfl) rfl ?_
  refine DL.one0 rfl (Eff.storeS (c := 102) _ sz25 rfl rfl rfl rfl rfl rfl rfl (by (try simp only [putAt, List.take, List.drop, List.nil_append, List.cons_append, List.append_nil, List.length_cons, List.length_nil, Nat.add_zero, Nat.zero_add, Nat.reduceAdd]); rfl)) (by rintro _ _ rfl; repeat (first | exact .nil | refine .cons rfl ?_)) ?_
  rintro _ _ rfl
  refine DL.done ?_
  refine N.next ?_
  refine W.keep (.cons (k := 2) rfl .nil) (.cons (k := 0) rfl (.cons (k := 1) rfl (.cons (k := 101) rfl (.cons (k := 102) rfl (.cons (k := 150) rfl (.cons (k := 151) rfl .nil)))))) ?_
  refine W.ret ?_
  refine N.merge 150 151 rfl rfl rfl fun ha1 => ?_
  exact N.retBy [1, 150] (.cons (by first | exact .cell (c := 102) rfl rfl (fun w hs => run_loadVarA Tryz.underlying25 rfl sz25 rfl (fun j u hj => by rw [Nat.zero_add, PH.sub.cell hs (by first | exact single_self _ _ | exact pset_self _ _ _ | assumption)]; exact hj))) .nil) rfl rfl rfl rfl ⟨⟨y.s, [], x.l, pa, ca, none, 0, pb, cb⟩, _, rfl, ⟨hOa.sl.mono hjoin_l, ⟨rfl, rfl⟩, hOb.sl.mono ha1⟩, hys, rfl, rfl, rfl⟩

end Go.Proofs.YtdjmdfnhnlijiaaGreatDoor
