/- ConfigOverlaps. Written by program (walk2.py). -/
import Derived.Test.YtiedcjebkkdneaaDoorC10
namespace Go.Proofs.YtiedcjebkkdneaaDoor
open SL Cfg
set_option linter.unusedVariables false
set_option linter.unusedSimpArgs false
theorem ent22 : Ent Tryd.prog 22 := ⟨_, _, Tryd.func22, by kernel_rfl, rfl⟩
theorem ent23 : Ent Tryd.prog 23 := ⟨_, _, Tryd.func23, by kernel_rfl, rfl⟩
set_option maxRecDepth 100000 in
set_option maxHeartbeats 3200000 in
theorem overlaps_ct (x y : Cf) (H1 : PH) (hx : x.In H1) (hy : y.In H1) (hT : TabH H1) : Ct Tryd.prog 6 [.agg [.slice x.po x.o.length x.co, .slice x.pn x.n.length x.cn, .slice x.pl x.l.length x.cl].toArray, .agg [.slice y.po y.o.length y.co, .slice y.pn y.n.length y.cn, .slice y.pl y.l.length y.cl].toArray] [H1] (fun v Hs => v = .bool true ∧ Hs = [H1]) := by
  refine Ct.body Tryd.func6 rfl Tryd.ntmps6 rfl ?_
  intro E F
  refine W.seq ?_
  refine W.region ?_
  refine RL.e (Eff.box 102 _ rfl rfl) rfl ?_
  rintro _ _ ⟨b2, rfl, rfl⟩
  refine RL.e (Eff.box 103 _ rfl rfl) rfl ?_
  rintro _ _ ⟨b3, rfl, rfl⟩
  refine RL.q (Yld.assign rfl) rfl ?_
  refine RL.nil ?_
  refine N.next ?_
  refine W.seq ?_
  refine W.seq ?_
  refine W.region ?_
  refine RL.e (Eff.call ent8 [1] [1] .nil (awake_ct H1 hT) rfl rfl rfl rfl (by rintro _ _ ⟨_, rfl⟩; rfl)) rfl ?_
  rintro _ _ ⟨_, ⟨rfl, rfl⟩, rfl⟩
  refine RL.q (by first | exact Yld.notD rfl | exact Yld.not rfl) rfl ?_
  refine RL.nil ?_
  refine N.next ?_
  refine W.keep (.cons (k := 2) rfl (.cons (k := 3) rfl (.cons (k := 6) rfl .nil))) (.cons (k := 0) rfl (.cons (k := 1) rfl (.cons (k := 102) rfl (.cons (k := 103) rfl .nil)))) ?_
  first | (refine W.as (t := 6) rfl (boolF (by first | assumption | omega | (simp; done))) ?_; refine W.condF rfl ?_) | refine W.condF rfl ?_
  refine W.skip ?_
  refine N.next ?_
  refine W.seq ?_
  refine W.seq ?_
  refine W.draw (.q 0 (.one 1 (.q 2 (.q 3 (.q 4 (.one 5 (.q 6 (.q 7 (.q 8 (.q 9 (.one 10 (.q 11 (.q 12 (.q 13 (.q 14 (.one 15 (.q 16 (.q 17 (.q 18 (.q 19 (.q 21 (.one 20 (.one 22 (.one 23 (.one 24 (.q 25 (.q 26 (.q 27 .done)))))))))))))))))))))))))))) (.cons (k := 0) rfl (.cons (k := 102) rfl (.cons (k := 103) rfl .nil))) mix (by kernel_rfl) (by kernel_rfl) ?_
  refine DL.q rfl (Yld.loadW (c := 102) Tryd.underlying24 rfl sz24 rfl rfl (by first | exact single_self _ _ | exact pset_self _ _ _ | assumption) rfl) rfl ?_
  refine DL.one rfl (Eff.call ent9 [1] [1] (.cons rfl (.cons rfl .nil)) (cfew_ct x H1 hx 5) rfl rfl rfl rfl (by rintro _ _ ⟨_, rfl⟩; rfl)) rfl (by rintro _ _ ⟨_, ⟨rfl, rfl⟩, rfl⟩; repeat (first | exact .nil | refine .cons rfl ?_)) ?_
  rintro _ _ ⟨_, ⟨rfl, rfl⟩, rfl⟩
  refine DL.q rfl (by first | exact Yld.notD rfl | exact Yld.not rfl) rfl ?_
  refine DL.q rfl (Yld.move rfl) rfl ?_
  refine' DL.or (t := 10) (d := 14) 4 rfl (.cons (k := 2) rfl (.cons (k := 3) rfl (.cons (k := 6) rfl (.cons (k := 7) rfl (.cons (k := 8) rfl (.cons (k := 9) rfl .nil)))))) (.cons (k := 0) rfl (.cons (k := 1) rfl (.cons (k := 102) rfl (.cons (k := 103) rfl .nil)))) ?_ ?_ ?_
  rotate_left 1
  ·
    intro hg10
    refine DL.gq rfl rfl rfl (Yld.loadW (c := 103) Tryd.underlying24 rfl sz24 rfl rfl (by first | exact single_self _ _ | exact pset_self _ _ _ | assumption) rfl) rfl ?_
    refine DL.gone rfl rfl rfl (Eff.call ent9 [1] [1] (.cons rfl (.cons rfl .nil)) (cfew_ct y H1 hy 5) rfl rfl rfl rfl (by rintro _ _ ⟨_, rfl⟩; rfl)) rfl (by rintro _ _ ⟨_, ⟨rfl, rfl⟩, rfl⟩; repeat (first | exact .nil | refine .cons rfl ?_)) ?_
    rintro _ _ ⟨_, ⟨rfl, rfl⟩, rfl⟩
    refine DL.gq rfl rfl rfl (by first | exact Yld.notD rfl | exact Yld.not rfl) rfl ?_
    refine DL.q rfl (by first | exact Yld.pickT rfl rfl | exact Yld.pickF rfl rfl) rfl ?_
    exact DL.meet (.cons rfl (.cons rfl (.cons rfl (.cons rfl (.cons rfl (.cons rfl (.cons rfl .nil))))))) (.cons rfl (.cons rfl (.cons rfl (.cons rfl .nil))))
  ·
    intro hg10
    refine DL.gskip rfl rfl rfl rfl rfl ?_
    refine DL.gskip1 rfl rfl rfl rfl rfl ?_
    refine DL.gskip rfl rfl rfl rfl rfl ?_
    refine DL.q rfl (by first | exact Yld.pickT rfl rfl | exact Yld.pickF rfl rfl) rfl ?_
    exact DL.meet (.cons rfl (.cons rfl (.cons rfl (.cons rfl (.cons rfl (.cons rfl (.cons rfl .nil))))))) (.cons rfl (.cons rfl (.cons rfl (.cons rfl .nil))))
  refine DL.q rfl (Yld.move rfl) rfl ?_
  refine' DL.or (t := 15) (d := 19) 4 rfl (.cons (k := 2) rfl (.cons (k := 3) rfl (.cons (k := 6) rfl (.cons (k := 7) rfl (.cons (k := 8) rfl (.cons (k := 9) rfl (.cons (k := 14) rfl .nil))))))) (.cons (k := 0) rfl (.cons (k := 1) rfl (.cons (k := 102) rfl (.cons (k := 103) rfl .nil)))) ?_ ?_ ?_
  rotate_left 1
  ·
    intro hg15
    have hf5 : ((x.o.length : Int) ≤ 5 ∧ (x.n.length : Int) ≤ 5 ∧ (x.l.length : Int) ≤ 5) ∧ ((y.o.length : Int) ≤ 5 ∧ (y.n.length : Int) ≤ 5 ∧ (y.l.length : Int) ≤ 5) := by
      have h := hg15
      simp only [Bool.or_eq_false_iff, Bool.not_eq_false', decide_eq_true_eq, decide_eq_false_iff_not, Classical.not_not] at h
      exact h
    refine DL.gq rfl rfl rfl (Yld.loadW (c := 102) Tryd.underlying24 rfl sz24 rfl rfl (by first | exact single_self _ _ | exact pset_self _ _ _ | assumption) rfl) rfl ?_
    refine DL.gone rfl rfl rfl (Eff.call ent10 [1] [1] (.cons rfl .nil) (plain_ct x H1 hx (by omega) (by omega) (by omega)) rfl rfl rfl rfl (by rintro _ _ ⟨_, rfl⟩; rfl)) rfl (by rintro _ _ ⟨_, ⟨rfl, rfl⟩, rfl⟩; repeat (first | exact .nil | refine .cons rfl ?_)) ?_
    rintro _ _ ⟨_, ⟨rfl, rfl⟩, rfl⟩
    refine DL.gq rfl rfl rfl (by first | exact Yld.notD rfl | exact Yld.not rfl) rfl ?_
    refine DL.q rfl (by first | exact Yld.pickT rfl rfl | exact Yld.pickF rfl rfl) rfl ?_
    exact DL.meet (.cons rfl (.cons rfl (.cons rfl (.cons rfl (.cons rfl (.cons rfl (.cons rfl (.cons rfl .nil)))))))) (.cons rfl (.cons rfl (.cons rfl (.cons rfl .nil))))
  ·
    intro hg15
    refine DL.gskip rfl rfl rfl rfl rfl ?_
    refine DL.gskip1 rfl rfl rfl rfl rfl ?_
    refine DL.gskip rfl rfl rfl rfl rfl ?_
    refine DL.q rfl (by first | exact Yld.pickT rfl rfl | exact Yld.pickF rfl rfl) rfl ?_
    exact DL.meet (.cons rfl (.cons rfl (.cons rfl (.cons rfl (.cons rfl (.cons rfl (.cons rfl (.cons rfl .nil)))))))) (.cons rfl (.cons rfl (.cons rfl (.cons rfl .nil))))
  refine DL.q rfl (Yld.move rfl) rfl ?_
  refine' DL.or (t := 20) (d := 24) 4 rfl (.cons (k := 2) rfl (.cons (k := 3) rfl (.cons (k := 6) rfl (.cons (k := 7) rfl (.cons (k := 8) rfl (.cons (k := 9) rfl (.cons (k := 14) rfl (.cons (k := 19) rfl .nil)))))))) (.cons (k := 0) rfl (.cons (k := 1) rfl (.cons (k := 102) rfl (.cons (k := 103) rfl .nil)))) ?_ ?_ ?_
  rotate_left 1
  ·
    intro hg20
    have hf5 : ((x.o.length : Int) ≤ 5 ∧ (x.n.length : Int) ≤ 5 ∧ (x.l.length : Int) ≤ 5) ∧ ((y.o.length : Int) ≤ 5 ∧ (y.n.length : Int) ≤ 5 ∧ (y.l.length : Int) ≤ 5) := by
      have h := hg20
      simp only [Bool.or_eq_false_iff, Bool.not_eq_false', decide_eq_true_eq, decide_eq_false_iff_not, Classical.not_not] at h
      exact h.1
    refine DL.gq rfl rfl rfl (Yld.loadW (c := 103) Tryd.underlying24 rfl sz24 rfl rfl (by first | exact single_self _ _ | exact pset_self _ _ _ | assumption) rfl) rfl ?_
    refine DL.gone rfl rfl rfl (Eff.call ent10 [1] [1] (.cons rfl .nil) (plain_ct y H1 hy (by omega) (by omega) (by omega)) rfl rfl rfl rfl (by rintro _ _ ⟨_, rfl⟩; rfl)) rfl (by rintro _ _ ⟨_, ⟨rfl, rfl⟩, rfl⟩; repeat (first | exact .nil | refine .cons rfl ?_)) ?_
    rintro _ _ ⟨_, ⟨rfl, rfl⟩, rfl⟩
    refine DL.gq rfl rfl rfl (by first | exact Yld.notD rfl | exact Yld.not rfl) rfl ?_
    refine DL.q rfl (by first | exact Yld.pickT rfl rfl | exact Yld.pickF rfl rfl) rfl ?_
    exact DL.meet (.cons rfl (.cons rfl (.cons rfl (.cons rfl (.cons rfl (.cons rfl (.cons rfl (.cons rfl (.cons rfl .nil))))))))) (.cons rfl (.cons rfl (.cons rfl (.cons rfl .nil))))
  ·
    intro hg20
    refine DL.gskip rfl rfl rfl rfl rfl ?_
    refine DL.gskip1 rfl rfl rfl rfl rfl ?_
    refine DL.gskip rfl rfl rfl rfl rfl ?_
    refine DL.q rfl (by first | exact Yld.pickT rfl rfl | exact Yld.pickF rfl rfl) rfl ?_
    exact DL.meet (.cons rfl (.cons rfl (.cons rfl (.cons rfl (.cons rfl (.cons rfl (.cons rfl (.cons rfl (.cons rfl .nil))))))))) (.cons rfl (.cons rfl (.cons rfl (.cons rfl .nil))))
  refine DL.q rfl (Yld.move rfl) rfl ?_
  refine' DL.or (t := 25) (d := 34) 9 rfl (.cons (k := 2) rfl (.cons (k := 3) rfl (.cons (k := 6) rfl (.cons (k := 7) rfl (.cons (k := 8) rfl (.cons (k := 9) rfl (.cons (k := 14) rfl (.cons (k := 19) rfl (.cons (k := 24) rfl .nil))))))))) (.cons (k := 0) rfl (.cons (k := 1) rfl (.cons (k := 102) rfl (.cons (k := 103) rfl .nil)))) ?_ ?_ ?_
  rotate_left 1
  ·
    intro hg25
    have hf5 : ((x.o.length : Int) ≤ 5 ∧ (x.n.length : Int) ≤ 5 ∧ (x.l.length : Int) ≤ 5) ∧ ((y.o.length : Int) ≤ 5 ∧ (y.n.length : Int) ≤ 5 ∧ (y.l.length : Int) ≤ 5) := by
      have h := hg25
      simp only [Bool.or_eq_false_iff, Bool.not_eq_false', decide_eq_true_eq, decide_eq_false_iff_not, Classical.not_not] at h
      exact h.1.1
    have hvx := setL_len (x.o ++ x.n)
    rw [List.length_append] at hvx
    have hvy := setL_len (y.o ++ y.n)
    rw [List.length_append] at hvy
    refine DL.gq rfl rfl rfl (Yld.loadW (c := 102) Tryd.underlying24 rfl sz24 rfl rfl (by first | exact single_self _ _ | exact pset_self _ _ _ | assumption) rfl) rfl ?_
    refine DL.gq rfl rfl rfl (Yld.loadW (c := 103) Tryd.underlying24 rfl sz24 rfl rfl (by first | exact single_self _ _ | exact pset_self _ _ _ | assumption) rfl) rfl ?_
    refine DL.gone rfl rfl rfl (Eff.call ent16 [1] [1, 130] (.cons rfl .nil) (rvoters_ct x H1 hx (by simp; omega)) rfl rfl rfl rfl (by rintro _ _ ⟨_, _, _, _, _, rfl⟩; rfl)) rfl (by rintro _ _ ⟨_, ⟨Hv, pv, cv, rfl, hOv, rfl⟩, rfl⟩; repeat (first | exact .nil | refine .cons rfl ?_)) ?_
    rintro _ _ ⟨_, ⟨Hv, pv, cv, rfl, hOv, rfl⟩, rfl⟩
    refine DL.gone rfl rfl rfl (Eff.call ent16 [1] [1, 131] (.cons rfl .nil) (rvoters_ct y H1 hy (by simp; omega)) rfl rfl rfl rfl (by rintro _ _ ⟨_, _, _, _, _, rfl⟩; rfl)) rfl (by rintro _ _ ⟨_, ⟨Hu, pu, cu, rfl, hOu, rfl⟩, rfl⟩; repeat (first | exact .nil | refine .cons rfl ?_)) ?_
    rintro _ _ ⟨_, ⟨Hu, pu, cu, rfl, hOu, rfl⟩, rfl⟩
    refine DL.gone rfl rfl rfl (Eff.appendE (tc := 130) (sc := 131) (fun z : Int => [Value.int .i64 z]) Tryd.underlying22 el3 rfl rfl rfl rfl hOv rfl hOu.sl rfl (iz_one1 _) (by decide) (by omega) (by simp only [maxLen]; omega)) rfl (by rintro _ _ ⟨Ha, pa, ca, rfl, hOa, rfl⟩; repeat (first | exact .nil | refine .cons rfl ?_)) ?_
    rintro _ _ ⟨Ha, pa, ca, rfl, hOa, rfl⟩
    refine DL.gone rfl rfl rfl (Eff.call ent21 [130] [130, 132] (.cons rfl .nil) (rset_ct (setL (x.o ++ x.n) ++ setL (y.o ++ y.n)) _ _ _ hOa.sl (by simp; omega)) rfl rfl rfl rfl (by rintro _ _ ⟨_, _, _, _, _, rfl⟩; rfl)) rfl (by rintro _ _ ⟨_, ⟨Hl, pl, cl, rfl, hOl, rfl⟩, rfl⟩; repeat (first | exact .nil | refine .cons rfl ?_)) ?_
    rintro _ _ ⟨_, ⟨Hl, pl, cl, rfl, hOl, rfl⟩, rfl⟩
    refine DL.gq rfl rfl rfl (Yld.lenSl Tryd.underlying22 rfl) rfl ?_
    refine DL.gq rfl rfl rfl (Yld.bin rfl rfl BinV.gtr) rfl ?_
    refine DL.q rfl (by first | exact Yld.pickT rfl rfl | exact Yld.pickF rfl rfl) rfl ?_
    exact DL.meet (.cons rfl (.cons rfl (.cons rfl (.cons rfl (.cons rfl (.cons rfl (.cons rfl (.cons rfl (.cons rfl (.cons rfl .nil)))))))))) (.cons rfl (.cons rfl (.cons rfl (.cons rfl .nil))))
  ·
    intro hg25
    refine DL.gskip rfl rfl rfl rfl rfl ?_
    refine DL.gskip rfl rfl rfl rfl rfl ?_
    refine DL.gskip1 rfl rfl rfl rfl rfl ?_
    refine DL.gskip1 rfl rfl rfl rfl rfl ?_
    refine DL.gskip1 rfl rfl rfl rfl rfl ?_
    refine DL.gskip1 rfl rfl rfl rfl rfl ?_
    refine DL.gskip rfl rfl rfl rfl rfl ?_
    refine DL.gskip rfl rfl rfl rfl rfl ?_
    refine DL.q rfl (by first | exact Yld.pickT rfl rfl | exact Yld.pickF rfl rfl) rfl ?_
    exact DL.meet (.cons rfl (.cons rfl (.cons rfl (.cons rfl (.cons rfl (.cons rfl (.cons rfl (.cons rfl (.cons rfl (.cons rfl .nil)))))))))) (.cons rfl (.cons rfl (.cons rfl (.cons rfl .nil))))
  refine DL.done ?_
  refine N.next ?_
  refine W.keep (.cons (k := 2) rfl (.cons (k := 3) rfl (.cons (k := 34) rfl .nil))) (.cons (k := 0) rfl (.cons (k := 1) rfl (.cons (k := 102) rfl (.cons (k := 103) rfl .nil)))) ?_
  refine W.cond rfl (fun hc34 => ?_) (fun hc34 => ?_)
  ·
    refine W.seq ?_
    refine W.region ?_
    refine RL.q (Yld.assign rfl) rfl ?_
    refine RL.nil ?_
    refine N.next ?_
    refine W.ret ?_
    refine N.then_ret ?_
    exact N.retBy [1] (.cons (.tmp rfl) .nil) rfl rfl rfl rfl ⟨rfl, rfl⟩
  ·
    simp only [Bool.or_eq_false_iff, Bool.not_eq_false', decide_eq_true_eq, decide_eq_false_iff_not, Classical.not_not] at hc34
    have hf5 := hc34.1.1.1
    have hp1 := hc34.1.1.2
    have hp2 := hc34.1.2
    have hlL := hc34.2
    have hvx := setL_len (x.o ++ x.n)
    rw [List.length_append] at hvx
    have hvy := setL_len (y.o ++ y.n)
    rw [List.length_append] at hvy
    have heq := ovl_eq hp1.1 hp1.2.1 hp2.1 hp2.2.1
    refine W.skip ?_
    refine N.next ?_
    refine W.seq ?_
    refine W.draw (.q 0 (.q 1 (.q 3 (.q 4 (.one 2 (.one 5 (.q 6 (.q 7 .done)))))))) (.cons (k := 0) rfl (.cons (k := 102) rfl (.cons (k := 103) rfl .nil))) mix (by kernel_rfl) (by kernel_rfl) ?_
    refine DL.q rfl (Yld.loadW (c := 102) Tryd.underlying24 rfl sz24 rfl rfl (by first | exact single_self _ _ | exact pset_self _ _ _ | assumption) rfl) rfl ?_
    refine DL.q rfl (Yld.loadW (c := 103) Tryd.underlying24 rfl sz24 rfl rfl (by first | exact single_self _ _ | exact pset_self _ _ _ | assumption) rfl) rfl ?_
    refine DL.q rfl (Yld.loadW (c := 102) Tryd.underlying24 rfl sz24 rfl rfl (by first | exact single_self _ _ | exact pset_self _ _ _ | assumption) rfl) rfl ?_
    refine DL.q rfl (Yld.loadW (c := 103) Tryd.underlying24 rfl sz24 rfl rfl (by first | exact single_self _ _ | exact pset_self _ _ _ | assumption) rfl) rfl ?_
    refine DL.one rfl (Eff.call ent22 [1] [1] (.cons rfl (.cons rfl .nil)) (overlapS_ct x y H1 hx hy (by omega) (by omega) (by omega) (by omega) (by omega)) rfl rfl rfl rfl (by rintro _ _ ⟨_, rfl⟩; rfl)) rfl (by rintro _ _ ⟨_, ⟨rfl, rfl⟩, rfl⟩; repeat (first | exact .nil | refine .cons rfl ?_)) ?_
    rintro _ _ ⟨_, ⟨rfl, rfl⟩, rfl⟩
    refine DL.one rfl (Eff.call ent23 [1] [1] (.cons rfl (.cons rfl .nil)) (roverlap_ct x y H1 hx hy (by omega) (by omega) (by omega) (by omega) (by omega)) rfl rfl rfl rfl (by rintro _ _ ⟨_, rfl⟩; rfl)) rfl (by rintro _ _ ⟨_, ⟨rfl, rfl⟩, rfl⟩; repeat (first | exact .nil | refine .cons rfl ?_)) ?_
    rintro _ _ ⟨_, ⟨rfl, rfl⟩, rfl⟩
    refine DL.q rfl (Yld.bin rfl rfl (BinV.eqlB Tryd.underlying4)) rfl ?_
    refine DL.q rfl (Yld.assign rfl) rfl ?_
    refine DL.done ?_
    refine N.next ?_
    refine W.keep (.cons (k := 4) rfl .nil) (.cons (k := 0) rfl (.cons (k := 1) rfl (.cons (k := 102) rfl (.cons (k := 103) rfl .nil)))) ?_
    refine W.ret ?_
    exact N.retBy [1] (.cons (.tmp rfl) .nil) rfl rfl rfl rfl ⟨by show Value.bool _ = _; rw [Value.bool.injEq, heq]; simp, rfl⟩

end Go.Proofs.YtiedcjebkkdneaaDoor
