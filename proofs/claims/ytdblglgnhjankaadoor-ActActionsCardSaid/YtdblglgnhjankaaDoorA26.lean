/- ActActions. Written by program (walk2.py). -/
import Derived.Test.YtdblglgnhjankaaDoorA25
import Derived.Test.YtdblglgnhjankaaDoorA23
import Derived.Test.YtdblglgnhjankaaDoorA21
namespace Go.Proofs.YtdblglgnhjankaaDoor
open SL Cfg
set_option linter.unusedVariables false
set_option linter.unusedSimpArgs false
theorem ent10 : Ent Tryd.prog 10 := ⟨_, _, Tryd.func10, by kernel_rfl, rfl⟩
theorem eqg44 : Program.eqGuardType Tryd.prog (Program.depth Tryd.prog) 44 = false := by kernel_rfl
theorem sih44 : Program.stoodInHeld Tryd.prog 44 = false := by kernel_rfl
theorem ent16 : Ent Tryd.prog 16 := ⟨_, _, Tryd.func16, by kernel_rfl, rfl⟩
set_option maxRecDepth 100000 in
set_option maxHeartbeats 6400000 in
theorem actacts_ct (m : Md) (s : Ins) (x : Mdx) (H1 : PH) (hm : m.In H1) (hs : s.In H1) (hx : x.In m H1) (st ph rp : Int) (hrg : s.Rg) (hst : I64 st) (hT : TabH H1) : Ct Tryd.prog 3 [.agg [.slice m.a0 m.n0 m.c0, .slice m.a1 m.n1 m.c1, .slice m.a2 m.n2 m.c2, .slice m.pm m.ms.length m.cm, .slice m.a4 m.n4 m.c4, .slice m.pi m.is.length m.ci, .int .i64 m.d0, .int .i64 m.d1, .int .i64 m.d2, .int .i64 m.d3, .slice m.a5 m.n5 m.c5].toArray, .agg [.int .i64 s.g, .int .i64 s.v, .int .i64 s.sl, .slice s.pb s.nb s.cb, .slice s.pp s.xs.length s.cp, .slice s.ps s.ys.length s.cs, .bool s.ca, .int .i64 s.se, .int .i64 s.ou].toArray, .int .i64 st, .int .i64 ph, .int .i64 rp] [H1] (fun v Hs => v = .bool true ∧ Hs = [H1]) := by
  refine Ct.body Tryd.func3 rfl Tryd.ntmps3 rfl ?_
  intro E F
  have hsy := hs.ys
  have hqy := hsy.len_le
  simp only [List.length_map, maxLen] at hqy
  refine W.seq ?_
  refine W.region ?_
  refine RL.e (Eff.box 105 _ rfl rfl) rfl ?_
  rintro _ _ ⟨b5, rfl, rfl⟩
  refine RL.e (Eff.box 106 _ rfl rfl) rfl ?_
  rintro _ _ ⟨b6, rfl, rfl⟩
  refine RL.q (Yld.assign rfl) rfl ?_
  refine RL.nil ?_
  refine N.next ?_
  refine W.seq ?_
  refine W.seq ?_
  refine W.region ?_
  refine RL.q (Yld.loadW (c := 105) Tryd.underlying29 rfl sz29 rfl rfl (by first | exact single_self _ _ | exact pset_self _ _ _ | assumption) rfl) rfl ?_
  refine RL.q (Yld.loadW (c := 106) Tryd.underlying38 rfl sz38 rfl rfl (by first | exact single_self _ _ | exact pset_self _ _ _ | assumption) rfl) rfl ?_
  refine RL.e (Eff.call ent10 [1] [1] (.cons rfl (.cons rfl .nil)) (few50_ct m s x H1 hm hx) rfl rfl rfl rfl (by rintro _ _ ⟨_, _, _, rfl⟩; rfl)) rfl ?_
  rintro _ _ ⟨_, ⟨fb, rfl, hfb, rfl⟩, rfl⟩
  refine RL.q (by first | exact Yld.notD rfl | exact Yld.not rfl) rfl ?_
  refine RL.nil ?_
  refine N.next ?_
  refine W.keep (.cons (k := 2) rfl (.cons (k := 3) rfl (.cons (k := 4) rfl (.cons (k := 5) rfl (.cons (k := 6) rfl (.cons (k := 19) rfl .nil)))))) (.cons (k := 0) rfl (.cons (k := 1) rfl (.cons (k := 105) rfl (.cons (k := 106) rfl .nil)))) ?_
  refine W.cond rfl (fun hc19 => ?_) (fun hc19 => ?_)
  ·
    refine W.seq ?_
    refine W.region ?_
    refine RL.e (Eff.call ent11 [1] [1] .nil (awake_ct H1 hT) rfl rfl rfl rfl (by rintro _ _ ⟨_, rfl⟩; rfl)) rfl ?_
    rintro _ _ ⟨_, ⟨rfl, rfl⟩, rfl⟩
    refine RL.q (Yld.assign rfl) rfl ?_
    refine RL.nil ?_
    refine N.next ?_
    refine W.keep (.cons (k := 10) rfl .nil) (.cons (k := 0) rfl (.cons (k := 1) rfl (.cons (k := 105) rfl (.cons (k := 106) rfl .nil)))) ?_
    refine W.ret ?_
    refine N.then_ret ?_
    exact N.retBy [1] (.cons (.tmp rfl) .nil) rfl rfl rfl rfl ⟨rfl, rfl⟩
  ·
    have hsm := hfb (by simpa using hc19)
    refine W.skip ?_
    refine N.next ?_
    refine W.seq ?_
    refine W.region ?_
    refine RL.q (Yld.loadW (c := 105) Tryd.underlying29 rfl sz29 rfl rfl (by first | exact single_self _ _ | exact pset_self _ _ _ | assumption) rfl) rfl ?_
    refine RL.q (Yld.loadW (c := 106) Tryd.underlying38 rfl sz38 rfl rfl (by first | exact single_self _ _ | exact pset_self _ _ _ | assumption) rfl) rfl ?_
    refine RL.q (Yld.move rfl) rfl ?_
    refine RL.q (Yld.move rfl) rfl ?_
    refine RL.e (Eff.call ent12 [1] [1] (.cons rfl (.cons rfl (.cons rfl (.cons rfl .nil)))) (action_ct m s H1 hm hs st ph) rfl rfl rfl rfl (by rintro _ _ ⟨_, _, _, _, rfl⟩; rfl)) rfl ?_
    rintro _ _ ⟨_, ⟨a, ok, rfl, hR, rfl⟩, rfl⟩
    refine RL.q (Yld.move rfl) rfl ?_
    refine RL.q (Yld.extract rfl rfl) rfl ?_
    refine RL.q (Yld.extract rfl rfl) rfl ?_
    refine RL.e (Eff.alloc 111 zc44) rfl ?_
    rintro _ _ ⟨b11, rfl, rfl⟩
    refine RL.e0 (Eff.storeS (c := 111) _ sz44 rfl rfl rfl rfl rfl rfl rfl (by (try simp only [putAt, List.take, List.drop, List.nil_append, List.cons_append, List.append_nil, List.length_cons, List.length_nil, Nat.add_zero, Nat.zero_add, Nat.reduceAdd]); rfl)) ?_
    rintro _ _ rfl
    refine RL.q (Yld.assign rfl) rfl ?_
    refine RL.nil ?_
    refine N.next ?_
    refine W.keep (.cons (k := 2) rfl (.cons (k := 3) rfl (.cons (k := 4) rfl (.cons (k := 5) rfl (.cons (k := 6) rfl (.cons (k := 11) rfl (.cons (k := 12) rfl .nil))))))) (.cons (k := 0) rfl (.cons (k := 1) rfl (.cons (k := 105) rfl (.cons (k := 106) rfl (.cons (k := 111) rfl .nil))))) ?_
    refine W.seq ?_
    refine W.region ?_
    refine RL.q (Yld.loadW (c := 105) Tryd.underlying29 rfl sz29 rfl rfl (by first | exact single_self _ _ | exact pset_self _ _ _ | assumption) rfl) rfl ?_
    refine RL.q (Yld.loadW (c := 106) Tryd.underlying38 rfl sz38 rfl rfl (by first | exact single_self _ _ | exact pset_self _ _ _ | assumption) rfl) rfl ?_
    refine RL.q (Yld.move rfl) rfl ?_
    refine RL.q (Yld.move rfl) rfl ?_
    refine RL.e (Eff.call ent13 [1] [1] (.cons rfl (.cons rfl (.cons rfl (.cons rfl .nil)))) (raction_ct m s H1 hm hs st ph) rfl rfl rfl rfl (by rintro _ _ ⟨_, _, _, _, rfl⟩; rfl)) rfl ?_
    rintro _ _ ⟨_, ⟨b, is, rfl, hR2, rfl⟩, rfl⟩
    obtain ⟨rfl, rfl⟩ := actR_one hR hR2
    refine RL.q (Yld.move rfl) rfl ?_
    refine RL.q (Yld.extract rfl rfl) rfl ?_
    refine RL.q (Yld.extract rfl rfl) rfl ?_
    refine RL.e (Eff.alloc 113 zc44) rfl ?_
    rintro _ _ ⟨b13, rfl, rfl⟩
    refine RL.e0 (Eff.storeS (c := 113) _ sz44 rfl rfl rfl rfl rfl rfl rfl (by (try simp only [putAt, List.take, List.drop, List.nil_append, List.cons_append, List.append_nil, List.length_cons, List.length_nil, Nat.add_zero, Nat.zero_add, Nat.reduceAdd]); rfl)) ?_
    rintro _ _ rfl
    refine RL.q (Yld.assign rfl) rfl ?_
    refine RL.nil ?_
    refine N.next ?_
    refine W.keep (.cons (k := 2) rfl (.cons (k := 3) rfl (.cons (k := 4) rfl (.cons (k := 5) rfl (.cons (k := 6) rfl (.cons (k := 11) rfl (.cons (k := 12) rfl (.cons (k := 13) rfl (.cons (k := 14) rfl .nil))))))))) (.cons (k := 0) rfl (.cons (k := 1) rfl (.cons (k := 105) rfl (.cons (k := 106) rfl (.cons (k := 111) rfl (.cons (k := 113) rfl .nil)))))) ?_
    refine W.seq ?_
    refine W.seq ?_
    refine W.region ?_
    refine RL.q (Yld.move rfl) rfl ?_
    refine RL.q (Yld.move rfl) rfl ?_
    refine RL.q (Yld.bin rfl rfl (BinV.neqB Tryd.underlying4)) rfl ?_
    refine RL.q (Yld.move rfl) rfl ?_
    refine' RL.or (t := 40) (d := 44) 4 rfl (.cons (k := 2) rfl (.cons (k := 3) rfl (.cons (k := 4) rfl (.cons (k := 5) rfl (.cons (k := 6) rfl (.cons (k := 11) rfl (.cons (k := 12) rfl (.cons (k := 13) rfl (.cons (k := 14) rfl (.cons (k := 37) rfl (.cons (k := 38) rfl (.cons (k := 39) rfl .nil)))))))))))) (.cons (k := 0) rfl (.cons (k := 1) rfl (.cons (k := 105) rfl (.cons (k := 106) rfl (.cons (k := 111) rfl (.cons (k := 113) rfl .nil)))))) ?_ ?_ ?_
    rotate_left 1
    ·
      intro hg40
      refine RL.gq rfl rfl (Yld.loadW (c := 111) Tryd.underlying44 rfl sz44 rfl rfl (by first | exact single_self _ _ | exact pset_self _ _ _ | assumption) rfl) rfl ?_
      refine RL.gq rfl rfl (Yld.loadW (c := 113) Tryd.underlying44 rfl sz44 rfl rfl (by first | exact single_self _ _ | exact pset_self _ _ _ | assumption) rfl) rfl ?_
      refine RL.gq rfl rfl (Yld.bin rfl rfl (BinV.neqT eqg44 (EqV.struct Tryd.underlying44 sih44 (EqF.cons rfl (PartV.one Tryd.underlying3 rfl rfl) (PartV.one Tryd.underlying3 rfl rfl) (EqV.int Tryd.underlying3) (EqF.cons rfl (PartV.one Tryd.underlying3 rfl rfl) (PartV.one Tryd.underlying3 rfl rfl) (EqV.int Tryd.underlying3) (EqF.cons rfl (PartV.one Tryd.underlying3 rfl rfl) (PartV.one Tryd.underlying3 rfl rfl) (EqV.int Tryd.underlying3) (EqF.cons rfl (PartV.one Tryd.underlying3 rfl rfl) (PartV.one Tryd.underlying3 rfl rfl) (EqV.int Tryd.underlying3) (EqF.cons rfl (PartV.one Tryd.underlying3 rfl rfl) (PartV.one Tryd.underlying3 rfl rfl) (EqV.int Tryd.underlying3) (EqF.cons rfl (PartV.agg Tryd.underlying42 rfl sz42 rfl) (PartV.agg Tryd.underlying42 rfl sz42 rfl) (EqV.struct Tryd.underlying42 sih42 (EqF.cons rfl (PartV.one Tryd.underlying3 rfl rfl) (PartV.one Tryd.underlying3 rfl rfl) (EqV.int Tryd.underlying3) (EqF.cons rfl (PartV.one Tryd.underlying3 rfl rfl) (PartV.one Tryd.underlying3 rfl rfl) (EqV.int Tryd.underlying3) (EqF.cons rfl (PartV.one Tryd.underlying3 rfl rfl) (PartV.one Tryd.underlying3 rfl rfl) (EqV.int Tryd.underlying3) (EqF.cons rfl (PartV.one Tryd.underlying2 rfl rfl) (PartV.one Tryd.underlying2 rfl rfl) (EqV.int Tryd.underlying2) EqF.nil))))) EqF.nil))))))))) rfl ?_
      refine RL.q (by first | exact Yld.pickT rfl rfl | exact Yld.pickF rfl rfl) rfl ?_
      exact RL.nil (N.meet (.cons rfl (.cons rfl (.cons rfl (.cons rfl (.cons rfl (.cons rfl (.cons rfl (.cons rfl (.cons rfl (.cons rfl (.cons rfl (.cons rfl (.cons rfl .nil))))))))))))) (.cons rfl (.cons rfl (.cons rfl (.cons rfl (.cons rfl (.cons rfl .nil)))))))
    ·
      intro hg40
      refine RL.gskip rfl rfl rfl rfl ?_
      refine RL.gskip rfl rfl rfl rfl ?_
      refine RL.gskip rfl rfl rfl rfl ?_
      refine RL.q (by first | exact Yld.pickT rfl rfl | exact Yld.pickF rfl rfl) rfl ?_
      exact RL.nil (N.meet (.cons rfl (.cons rfl (.cons rfl (.cons rfl (.cons rfl (.cons rfl (.cons rfl (.cons rfl (.cons rfl (.cons rfl (.cons rfl (.cons rfl (.cons rfl .nil))))))))))))) (.cons rfl (.cons rfl (.cons rfl (.cons rfl (.cons rfl (.cons rfl .nil)))))))
    refine RL.q (Yld.move rfl) rfl ?_
    refine' RL.or (t := 45) (d := 55) 10 rfl (.cons (k := 2) rfl (.cons (k := 3) rfl (.cons (k := 4) rfl (.cons (k := 5) rfl (.cons (k := 6) rfl (.cons (k := 11) rfl (.cons (k := 12) rfl (.cons (k := 13) rfl (.cons (k := 14) rfl (.cons (k := 37) rfl (.cons (k := 38) rfl (.cons (k := 39) rfl (.cons (k := 44) rfl .nil))))))))))))) (.cons (k := 0) rfl (.cons (k := 1) rfl (.cons (k := 105) rfl (.cons (k := 106) rfl (.cons (k := 111) rfl (.cons (k := 113) rfl .nil)))))) ?_ ?_ ?_
    rotate_left 1
    ·
      intro hg45
      refine RL.gq rfl rfl (Yld.move rfl) rfl ?_
      refine RL.gq rfl rfl (Yld.bin rfl rfl BinV.geq) rfl ?_
      refine RL.gq rfl rfl (Yld.move rfl) rfl ?_
      refine' RL.and (t := 48) (d := 54) 6 rfl (.cons (k := 2) rfl (.cons (k := 3) rfl (.cons (k := 4) rfl (.cons (k := 5) rfl (.cons (k := 6) rfl (.cons (k := 11) rfl (.cons (k := 12) rfl (.cons (k := 13) rfl (.cons (k := 14) rfl (.cons (k := 37) rfl (.cons (k := 38) rfl (.cons (k := 39) rfl (.cons (k := 44) rfl (.cons (k := 45) rfl (.cons (k := 46) rfl (.cons (k := 47) rfl .nil)))))))))))))))) (.cons (k := 0) rfl (.cons (k := 1) rfl (.cons (k := 105) rfl (.cons (k := 106) rfl (.cons (k := 111) rfl (.cons (k := 113) rfl .nil)))))) ?_ ?_ ?_
      rotate_left 1
      ·
        intro hg48
        refine RL.gq rfl rfl (Yld.move rfl) rfl ?_
        refine RL.ge rfl rfl (Eff.call ent14 [] [] (.cons rfl .nil) (amach_ct rp) rfl rfl rfl rfl (by rintro _ _ ⟨_, rfl⟩; rfl)) rfl ?_
        rintro _ _ ⟨_, ⟨rfl, rfl⟩, rfl⟩
        refine RL.gq rfl rfl (Yld.move rfl) rfl ?_
        refine RL.gq rfl rfl (Yld.bin rfl rfl (BinV.remW (by omega))) rfl ?_
        refine RL.gq rfl rfl (Yld.bin rfl rfl BinV.neq) rfl ?_
        refine RL.gq rfl rfl (by first | exact Yld.pickT rfl rfl | exact Yld.pickF rfl rfl) rfl ?_
        exact RL.nil (N.meet (.cons rfl (.cons rfl (.cons rfl (.cons rfl (.cons rfl (.cons rfl (.cons rfl (.cons rfl (.cons rfl (.cons rfl (.cons rfl (.cons rfl (.cons rfl (.cons rfl (.cons rfl (.cons rfl (.cons rfl .nil))))))))))))))))) (.cons rfl (.cons rfl (.cons rfl (.cons rfl (.cons rfl (.cons rfl .nil)))))))
      ·
        intro hg48
        refine RL.gskip rfl rfl rfl rfl ?_
        refine RL.gskip rfl rfl rfl rfl ?_
        refine RL.gskip rfl rfl rfl rfl ?_
        refine RL.gskip rfl rfl rfl rfl ?_
        refine RL.gskip rfl rfl rfl rfl ?_
        refine RL.gq rfl rfl (by first | exact Yld.pickT rfl rfl | exact Yld.pickF rfl rfl) rfl ?_
        exact RL.nil (N.meet (.cons rfl (.cons rfl (.cons rfl (.cons rfl (.cons rfl (.cons rfl (.cons rfl (.cons rfl (.cons rfl (.cons rfl (.cons rfl (.cons rfl (.cons rfl (.cons rfl (.cons rfl (.cons rfl (.cons rfl .nil))))))))))))))))) (.cons rfl (.cons rfl (.cons rfl (.cons rfl (.cons rfl (.cons rfl .nil)))))))
      refine RL.q (by first | exact Yld.pickT rfl rfl | exact Yld.pickF rfl rfl) rfl ?_
      exact RL.nil (N.meet (.cons rfl (.cons rfl (.cons rfl (.cons rfl (.cons rfl (.cons rfl (.cons rfl (.cons rfl (.cons rfl (.cons rfl (.cons rfl (.cons rfl (.cons rfl (.cons rfl .nil)))))))))))))) (.cons rfl (.cons rfl (.cons rfl (.cons rfl (.cons rfl (.cons rfl .nil)))))))
    ·
      intro hg45
      refine RL.gskip rfl rfl rfl rfl ?_
      refine RL.gskip rfl rfl rfl rfl ?_
      refine RL.gskip rfl rfl rfl rfl ?_
      refine RL.gskipU rfl rfl rfl ?_
      refine RL.gskipU rfl rfl rfl ?_
      refine RL.gskipU rfl rfl rfl ?_
      refine RL.gskipU rfl rfl rfl ?_
      refine RL.gskipU rfl rfl rfl ?_
      refine RL.gskip rfl rfl rfl rfl ?_
      refine RL.q (by first | exact Yld.pickT rfl rfl | exact Yld.pickF rfl rfl) rfl ?_
      exact RL.nil (N.meet (.cons rfl (.cons rfl (.cons rfl (.cons rfl (.cons rfl (.cons rfl (.cons rfl (.cons rfl (.cons rfl (.cons rfl (.cons rfl (.cons rfl (.cons rfl (.cons rfl .nil)))))))))))))) (.cons rfl (.cons rfl (.cons rfl (.cons rfl (.cons rfl (.cons rfl .nil)))))))
    refine RL.nil ?_
    refine N.next ?_
    refine W.keep (.cons (k := 2) rfl (.cons (k := 3) rfl (.cons (k := 5) rfl (.cons (k := 6) rfl (.cons (k := 55) rfl .nil))))) (.cons (k := 0) rfl (.cons (k := 1) rfl (.cons (k := 105) rfl (.cons (k := 106) rfl (.cons (k := 111) rfl (.cons (k := 113) rfl .nil)))))) ?_
    refine W.cond rfl (fun hc55 => ?_) (fun hc55 => ?_)
    ·
      simp at hc55
    ·
      refine W.skip ?_
      refine N.next ?_
      refine W.seq ?_
      refine W.seq ?_
      refine W.region ?_
      refine RL.q (Yld.fieldAddr fo38_5 rfl) rfl ?_
      refine RL.q (Yld.load1 (c := 106) Tryd.underlying36 rfl rfl rfl (by first | exact single_self _ _ | exact pset_self _ _ _ | assumption) rfl) rfl ?_
      refine RL.q (Yld.lenSl Tryd.underlying36 rfl) rfl ?_
      refine RL.q (Yld.move rfl) rfl ?_
      refine RL.nil ?_
      refine N.next ?_
      refine W.block ?_
      refine W.loopK (ι := Nat) (fun j => (j ≤ s.ys.length ∧ ∀ (i : Nat) y, i < j → s.ys[i]? = some y → 0 ≤ y.r)) (fun j => [(59, .int .i64 (j : Nat))]) (fun j => []) (fun j => s.ys.length - j) (.cons (k := 2) rfl (.cons (k := 3) rfl (.cons (k := 5) rfl (.cons (k := 6) rfl (.cons (k := 58) rfl .nil))))) (.cons (k := 0) rfl (.cons (k := 1) rfl (.cons (k := 105) rfl (.cons (k := 106) rfl (.cons (k := 111) rfl (.cons (k := 113) rfl .nil)))))) 0 ?_ ?_ ?_ ?_
      · exact ⟨Nat.zero_le _, fun _ _ h => absurd h (Nat.not_lt_zero _)⟩
      · exact (.as rfl (by first | rfl | (simp; done) | (congr 1; simp; done) | (congr 1; omega)) .nil)
      · exact .nil
      rintro j ⟨hj, hI⟩
      refine W.keep (.cons (k := 59) rfl (.cons (k := 2) rfl (.cons (k := 3) rfl (.cons (k := 5) rfl (.cons (k := 6) rfl (.cons (k := 58) rfl .nil)))))) (.cons (k := 0) rfl (.cons (k := 1) rfl (.cons (k := 105) rfl (.cons (k := 106) rfl (.cons (k := 111) rfl (.cons (k := 113) rfl .nil)))))) ?_
      refine W.seq ?_
      refine W.region ?_
      refine RL.q (Yld.bin rfl rfl BinV.lss) rfl ?_
      refine RL.nil ?_
      refine N.next ?_
      refine W.seq ?_
      first | refine W.condD rfl (fun hc60 => ?_) (fun hc60 => ?_) | (refine W.cond rfl (fun hc60 => ?_) (fun hc60 => ?_) <;> try simp only [Bool.or_eq_true, Bool.and_eq_true, Bool.not_eq_true', Bool.not_eq_false', decide_eq_true_eq, Bool.or_eq_false_iff, Bool.and_eq_false_iff, decide_eq_false_iff_not, beq_iff_eq, beq_eq_false_iff_ne, ne_eq, Decidable.not_not] at hc60)
      ·
        obtain ⟨y, hy, hly⟩ := row_at (f := St.c') (show j < s.ys.length by omega)
        have hly : (s.ys.map St.c')[j]? = some [.int .i64 y.d, .int .i64 y.b, .int .i64 y.r, .int .i64 y.v] := hly
        refine W.skip ?_
        refine N.next ?_
        refine W.seq ?_
        refine W.block ?_
        refine W.seq ?_
        refine W.region ?_
        refine RL.q (Yld.move rfl) rfl ?_
        refine RL.q (Yld.assign rfl) rfl ?_
        refine RL.nil ?_
        refine N.next ?_
        refine W.seq ?_
        refine W.region ?_
        refine RL.q (Yld.fieldAddr fo38_5 rfl) rfl ?_
        refine RL.q (Yld.load1 (c := 106) Tryd.underlying36 rfl rfl rfl (by first | exact single_self _ _ | exact pset_self _ _ _ | assumption) rfl) rfl ?_
        refine RL.q (Yld.move rfl) rfl ?_
        refine RL.q (Yld.indexRow Tryd.underlying36 sz49 rfl rfl (by first | assumption | exact Own.sl (by assumption)) (by first | rfl | omega | (simp; done) | (simp; omega)) (by omega) (by first | omega | (simp; done) | (simp; omega))) rfl ?_
        refine RL.q (Yld.fieldAddr fo49_2 rfl) rfl ?_
        refine RL.q (by first | exact Yld.loadRowF (cl := 1) (j := 2) Tryd.underlying3 rfl rfl rfl (by first | assumption | exact Own.sl (by assumption)) (by assumption) rfl | exact Yld.loadRowF (cl := 105) (j := 2) Tryd.underlying3 rfl rfl rfl (by first | assumption | exact Own.sl (by assumption)) (by assumption) rfl | exact Yld.loadRowF (cl := 106) (j := 2) Tryd.underlying3 rfl rfl rfl (by first | assumption | exact Own.sl (by assumption)) (by assumption) rfl | exact Yld.loadRowF (cl := 111) (j := 2) Tryd.underlying3 rfl rfl rfl (by first | assumption | exact Own.sl (by assumption)) (by assumption) rfl | exact Yld.loadRowF (cl := 113) (j := 2) Tryd.underlying3 rfl rfl rfl (by first | assumption | exact Own.sl (by assumption)) (by assumption) rfl) rfl ?_
        refine RL.q (Yld.bin rfl rfl BinV.lss) rfl ?_
        refine RL.nil ?_
        refine N.next ?_
        refine W.keep (.cons (k := 2) rfl (.cons (k := 3) rfl (.cons (k := 5) rfl (.cons (k := 6) rfl (.cons (k := 58) rfl (.cons (k := 59) rfl (.cons (k := 68) rfl .nil))))))) (.cons (k := 0) rfl (.cons (k := 1) rfl (.cons (k := 105) rfl (.cons (k := 106) rfl (.cons (k := 111) rfl (.cons (k := 113) rfl .nil)))))) ?_
        first | refine W.condD rfl (fun hc68 => ?_) (fun hc68 => ?_) | (refine W.cond rfl (fun hc68 => ?_) (fun hc68 => ?_) <;> try simp only [Bool.or_eq_true, Bool.and_eq_true, Bool.not_eq_true', Bool.not_eq_false', decide_eq_true_eq, Bool.or_eq_false_iff, Bool.and_eq_false_iff, decide_eq_false_iff_not, beq_iff_eq, beq_eq_false_iff_ne, ne_eq, Decidable.not_not] at hc68)
        ·
          refine W.seq ?_
          refine W.region ?_
          refine RL.e (Eff.call ent11 [1] [1] .nil (awake_ct H1 hT) rfl rfl rfl rfl (by rintro _ _ ⟨_, rfl⟩; rfl)) rfl ?_
          rintro _ _ ⟨_, ⟨rfl, rfl⟩, rfl⟩
          refine RL.q (Yld.assign rfl) rfl ?_
          refine RL.nil ?_
          refine N.next ?_
          refine W.keep (.cons (k := 10) rfl .nil) (.cons (k := 0) rfl (.cons (k := 1) rfl (.cons (k := 105) rfl (.cons (k := 106) rfl (.cons (k := 111) rfl (.cons (k := 113) rfl .nil)))))) ?_
          refine W.ret ?_
          refine N.block_ret ?_
          refine N.then_ret ?_
          refine N.then_ret ?_
          refine N.block_ret ?_
          refine N.then_ret ?_
          exact N.retBy [1] (.cons (.tmp rfl) .nil) rfl rfl rfl rfl ⟨rfl, rfl⟩
        ·
          refine W.skip ?_
          refine N.block_normal ?_
          refine N.next ?_
          refine W.region ?_
          refine RL.q (Yld.bin rfl rfl (by first | exact BinV.add (by omega) (by omega) | exact BinV.addW)) rfl ?_
          refine RL.q (Yld.move rfl) rfl ?_
          refine RL.nil ?_
          exact N.famK (j + 1) ⟨⟨by omega, fun i y' hi hy' => (Nat.lt_succ_iff_lt_or_eq.1 hi).elim (fun h => hI i y' h hy') (fun e => by subst e; rw [hy] at hy'; cases hy'; omega)⟩, by omega⟩ (.as rfl (by first | rfl | (simp; done) | (congr 1; simp; done) | (congr 1; omega)) .nil) (.cons rfl (.cons rfl (.cons rfl (.cons rfl (.cons rfl .nil))))) .nil (.cons rfl (.cons rfl (.cons rfl (.cons rfl (.cons rfl (.cons rfl .nil))))))
      ·
        have hnn : ∀ y ∈ s.ys, 0 ≤ y.r := fun y hy => by obtain ⟨i, hi⟩ := List.getElem?_of_mem hy; exact hI i y (by have := (List.getElem?_eq_some_iff.1 hi).1; omega) hi
        refine W.exit ?_
        refine N.then_exit ?_
        refine N.then_exit ?_
        refine N.block_eq ?_
        refine N.next ?_
        refine W.seq ?_
        refine W.draw (.q 0 (.q 1 (.q 2 (.q 3 (.q 5 (.q 6 (.q 7 (.q 8 (.one 4 (.one 9 (.q 10 (.q 11 (.one 12 (.q 13 (.q 14 .done))))))))))))))) (.cons (k := 0) rfl (.cons (k := 105) rfl (.cons (k := 106) rfl (.cons (k := 111) rfl (.cons (k := 113) rfl .nil))))) mix (by kernel_rfl) (by kernel_rfl) ?_
        refine DL.q rfl (Yld.loadW (c := 105) Tryd.underlying29 rfl sz29 rfl rfl (by first | exact single_self _ _ | exact pset_self _ _ _ | assumption) rfl) rfl ?_
        refine DL.q rfl (Yld.loadW (c := 106) Tryd.underlying38 rfl sz38 rfl rfl (by first | exact single_self _ _ | exact pset_self _ _ _ | assumption) rfl) rfl ?_
        refine DL.q rfl (Yld.move rfl) rfl ?_
        refine DL.q rfl (Yld.move rfl) rfl ?_
        refine DL.q rfl (Yld.loadW (c := 105) Tryd.underlying29 rfl sz29 rfl rfl (by first | exact single_self _ _ | exact pset_self _ _ _ | assumption) rfl) rfl ?_
        refine DL.q rfl (Yld.loadW (c := 106) Tryd.underlying38 rfl sz38 rfl rfl (by first | exact single_self _ _ | exact pset_self _ _ _ | assumption) rfl) rfl ?_
        refine DL.q rfl (Yld.move rfl) rfl ?_
        refine DL.q rfl (Yld.move rfl) rfl ?_
        refine DL.one rfl (Eff.call ent15 [1] [1] (.cons rfl (.cons rfl (.cons rfl (.cons rfl .nil)))) (text1_ct m s H1 hm hs st ph hsm hrg hst hT) rfl rfl rfl rfl (by rintro _ _ ⟨_, _, _, rfl⟩; rfl)) rfl (by rintro _ _ ⟨_, ⟨b1, rfl, hb1, rfl⟩, rfl⟩; repeat (first | exact .nil | refine .cons rfl ?_)) ?_
        rintro _ _ ⟨_, ⟨b1, rfl, hb1, rfl⟩, rfl⟩
        refine DL.one rfl (Eff.call ent16 [1] [1] (.cons rfl (.cons rfl (.cons rfl (.cons rfl .nil)))) (rtext_ct m s H1 hm hs st ph hsm hrg hst hnn) rfl rfl rfl rfl (by rintro _ _ ⟨_, _, _, rfl⟩; rfl)) rfl (by rintro _ _ ⟨_, ⟨b2, rfl, hb2, rfl⟩, rfl⟩; repeat (first | exact .nil | refine .cons rfl ?_)) ?_
        rintro _ _ ⟨_, ⟨b2, rfl, hb2, rfl⟩, rfl⟩
        obtain rfl := textR_one hb1 hb2
        refine DL.q rfl (Yld.bin rfl rfl BinV.eqlS) rfl ?_
        refine DL.q rfl (Yld.move rfl) rfl ?_
        refine' DL.and (t := 82) (d := 84) 2 rfl (.cons (k := 2) rfl (.cons (k := 3) rfl (.cons (k := 5) rfl (.cons (k := 6) rfl (.cons (k := 58) rfl (.cons (k := 59) rfl (.cons (k := 60) rfl (.cons (k := 71) rfl (.cons (k := 72) rfl (.cons (k := 73) rfl (.cons (k := 74) rfl (.cons (k := 75) rfl (.cons (k := 76) rfl (.cons (k := 77) rfl (.cons (k := 78) rfl (.cons (k := 79) rfl (.cons (k := 80) rfl (.cons (k := 81) rfl .nil)))))))))))))))))) (.cons (k := 0) rfl (.cons (k := 1) rfl (.cons (k := 105) rfl (.cons (k := 106) rfl (.cons (k := 111) rfl (.cons (k := 113) rfl .nil)))))) ?_ ?_ ?_
        rotate_left 1
        ·
          intro hg82
          refine DL.gone rfl rfl rfl (Eff.call ent11 [1] [1] .nil (awake_ct H1 hT) rfl rfl rfl rfl (by rintro _ _ ⟨_, rfl⟩; rfl)) rfl (by rintro _ _ ⟨_, ⟨rfl, rfl⟩, rfl⟩; repeat (first | exact .nil | refine .cons rfl ?_)) ?_
          rintro _ _ ⟨_, ⟨rfl, rfl⟩, rfl⟩
          refine DL.q rfl (by first | exact Yld.pickT rfl rfl | exact Yld.pickF rfl rfl) rfl ?_
          exact DL.meet (.cons rfl (.cons rfl (.cons rfl (.cons rfl (.cons rfl (.cons rfl (.cons rfl (.cons rfl (.cons rfl (.cons rfl (.cons rfl (.cons rfl (.cons rfl (.cons rfl (.cons rfl (.cons rfl (.cons rfl (.cons rfl (.cons rfl .nil))))))))))))))))))) (.cons rfl (.cons rfl (.cons rfl (.cons rfl (.cons rfl (.cons rfl .nil))))))
        ·
          intro hg82
          refine DL.gskip1 rfl rfl rfl rfl rfl ?_
          refine DL.q rfl (by first | exact Yld.pickT rfl rfl | exact Yld.pickF rfl rfl) rfl ?_
          exact DL.meet (.cons rfl (.cons rfl (.cons rfl (.cons rfl (.cons rfl (.cons rfl (.cons rfl (.cons rfl (.cons rfl (.cons rfl (.cons rfl (.cons rfl (.cons rfl (.cons rfl (.cons rfl (.cons rfl (.cons rfl (.cons rfl (.cons rfl .nil))))))))))))))))))) (.cons rfl (.cons rfl (.cons rfl (.cons rfl (.cons rfl (.cons rfl .nil))))))
        refine DL.q rfl (Yld.assign rfl) rfl ?_
        refine DL.done ?_
        refine N.next ?_
        refine W.keep (.cons (k := 10) rfl .nil) (.cons (k := 0) rfl (.cons (k := 1) rfl (.cons (k := 105) rfl (.cons (k := 106) rfl (.cons (k := 111) rfl (.cons (k := 113) rfl .nil)))))) ?_
        refine W.ret ?_
        exact N.retBy [1] (.cons (.tmp rfl) .nil) rfl rfl rfl rfl ⟨by show Value.bool _ = _; rw [Value.bool.injEq]; simp, rfl⟩

end Go.Proofs.YtdblglgnhjankaaDoor
