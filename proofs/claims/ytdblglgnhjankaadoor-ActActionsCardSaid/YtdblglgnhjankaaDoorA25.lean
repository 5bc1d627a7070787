/- Text, in the reference. Written by program (walk2.py). -/
import Derived.Test.YtdblglgnhjankaaDoorA24
import Derived.Test.YtdblglgnhjankaaDoorA22
namespace Go.Proofs.YtdblglgnhjankaaDoor
open SL Cfg
set_option linter.unusedVariables false
set_option linter.unusedSimpArgs false
theorem ent13 : Ent Tryd.prog 13 := ⟨_, _, Tryd.func13, by kernel_rfl, rfl⟩
set_option maxRecDepth 100000 in
set_option maxHeartbeats 3200000 in
theorem text1_ct (m : Md) (s : Ins) (H1 : PH) (hm : m.In H1) (hs : s.In H1) (st ph : Int) (hsm : m.Sm) (hrg : s.Rg) (hst : I64 st) (hT : TabH H1) : Ct Tryd.prog 15 [.agg [.slice m.a0 m.n0 m.c0, .slice m.a1 m.n1 m.c1, .slice m.a2 m.n2 m.c2, .slice m.pm m.ms.length m.cm, .slice m.a4 m.n4 m.c4, .slice m.pi m.is.length m.ci, .int .i64 m.d0, .int .i64 m.d1, .int .i64 m.d2, .int .i64 m.d3, .slice m.a5 m.n5 m.c5].toArray, .agg [.int .i64 s.g, .int .i64 s.v, .int .i64 s.sl, .slice s.pb s.nb s.cb, .slice s.pp s.xs.length s.cp, .slice s.ps s.ys.length s.cs, .bool s.ca, .int .i64 s.se, .int .i64 s.ou].toArray, .int .i64 st, .int .i64 ph] [H1] (fun v Hs => ∃ b, v = .string b ∧ TextR m s st ph b ∧ Hs = [H1]) := by
  refine Ct.body Tryd.func15 rfl Tryd.ntmps15 rfl ?_
  intro E F
  have hmxi := hm.is.len_le
  have hmxx := hs.xs.len_le
  have hmxy := hs.ys.len_le
  simp only [List.length_map, maxLen] at hmxi hmxx hmxy
  have hsi := hm.is
  have hsx := hs.xs
  have hsy := hs.ys
  have hmxm := hm.ms.len_le
  simp only [List.length_map, maxLen] at hmxm
  have hsm1 := hm.ms
  have hzs := itoaB_size hst
  refine W.seq ?_
  refine W.region ?_
  refine RL.e (Eff.box 104 _ rfl rfl) rfl ?_
  rintro _ _ ⟨b4, rfl, rfl⟩
  refine RL.e (Eff.box 105 _ rfl rfl) rfl ?_
  rintro _ _ ⟨b5, rfl, rfl⟩
  refine RL.q (Yld.assign rfl) rfl ?_
  refine RL.nil ?_
  refine N.next ?_
  refine W.seq ?_
  refine W.region ?_
  refine RL.q (Yld.loadW (c := 104) Tryd.underlying29 rfl sz29 rfl rfl (by first | exact single_self _ _ | exact pset_self _ _ _ | assumption) rfl) rfl ?_
  refine RL.q (Yld.loadW (c := 105) Tryd.underlying38 rfl sz38 rfl rfl (by first | exact single_self _ _ | exact pset_self _ _ _ | assumption) rfl) rfl ?_
  refine RL.q (Yld.move rfl) rfl ?_
  refine RL.q (Yld.move rfl) rfl ?_
  refine RL.e (Eff.call ent12 [1] [1] (.cons rfl (.cons rfl (.cons rfl (.cons rfl .nil)))) (action_ct m s H1 hm hs st ph) rfl rfl rfl rfl (by rintro _ _ ⟨_, _, _, _, rfl⟩; rfl)) rfl ?_
  rintro _ _ ⟨_, ⟨a, ok, rfl, hR, rfl⟩, rfl⟩
  refine RL.q (Yld.move rfl) rfl ?_
  refine RL.q (Yld.extract rfl rfl) rfl ?_
  refine RL.q (Yld.extract rfl rfl) rfl ?_
  refine RL.e (Eff.alloc 109 zc44) rfl ?_
  rintro _ _ ⟨b9, rfl, rfl⟩
  refine RL.e0 (Eff.storeS (c := 109) _ sz44 rfl rfl rfl rfl rfl rfl rfl (by (try simp only [putAt, List.take, List.drop, List.nil_append, List.cons_append, List.append_nil, List.length_cons, List.length_nil, Nat.add_zero, Nat.zero_add, Nat.reduceAdd]); rfl)) ?_
  rintro _ _ rfl
  refine RL.q (Yld.assign rfl) rfl ?_
  refine RL.nil ?_
  refine N.next ?_
  refine W.keep (.cons (k := 2) rfl (.cons (k := 4) rfl (.cons (k := 5) rfl (.cons (k := 9) rfl (.cons (k := 10) rfl .nil))))) (.cons (k := 0) rfl (.cons (k := 1) rfl (.cons (k := 104) rfl (.cons (k := 105) rfl (.cons (k := 109) rfl .nil))))) ?_
  refine W.seq ?_
  refine W.seq ?_
  refine W.region ?_
  refine RL.q (Yld.move rfl) rfl ?_
  refine RL.q (by first | exact Yld.notD rfl | exact Yld.not rfl) rfl ?_
  refine RL.nil ?_
  refine N.next ?_
  refine W.cond rfl (fun hc24 => ?_) (fun hc24 => ?_)
  ·
    refine W.seq ?_
    refine W.region ?_
    refine RL.q (Yld.assign rfl) rfl ?_
    refine RL.nil ?_
    refine N.next ?_
    refine W.keep (.cons (k := 8) rfl .nil) (.cons (k := 0) rfl (.cons (k := 1) rfl (.cons (k := 104) rfl (.cons (k := 105) rfl (.cons (k := 109) rfl .nil))))) ?_
    refine W.ret ?_
    refine N.then_ret ?_
    exact N.retBy [1] (.cons (.tmp rfl) .nil) rfl rfl rfl rfl ⟨_, rfl, ⟨a, ok, hR, .inl ⟨by simpa using hc24, rfl⟩⟩, rfl⟩
  ·
    obtain rfl : ok = true := by simpa using hc24
    obtain ⟨hx, t, y, ht, hy, hL⟩ := hR.resolve_left (fun h => by cases h.2.2)
    obtain ⟨t', y', ht', hy', hlt, hly, hst1, hst2, hst3⟩ := ex_rows hx
    obtain rfl : t = t' := Option.some.inj (ht.symm.trans ht')
    obtain ⟨hph, hL⟩ := hL.resolve_left (fun h => by cases h.2.2)
    obtain ⟨hki1, hki2⟩ := phs_kind (is := m.is) (x := t.2) hph
    obtain ⟨yi, hli, hk, hyi⟩ := kind_row hki1 hki2
    have hyz := hsm.is yi (List.mem_of_getElem? hyi)
    refine W.skip ?_
    refine N.next ?_
    refine W.seq ?_
    refine W.draw (.q 0 (.q 1 (.q 2 (.q 3 (.q 4 (.q 5 (.q 6 (.q 7 (.q 8 (.q 9 (.q 10 (.q 11 (.q 12 .done))))))))))))) (.cons (k := 0) rfl (.cons (k := 1) rfl (.cons (k := 104) rfl (.cons (k := 105) rfl (.cons (k := 109) rfl .nil))))) mix (by kernel_rfl) (by kernel_rfl) ?_
    refine DL.q rfl (Yld.fieldAddr fo44_1 rfl) rfl ?_
    refine DL.q rfl (Yld.load1 (c := 109) Tryd.underlying3 rfl rfl rfl (by first | exact single_self _ _ | exact pset_self _ _ _ | assumption) rfl) rfl ?_
    refine DL.q rfl (Yld.bin rfl rfl BinV.geq) rfl ?_
    refine DL.q rfl (Yld.move rfl) rfl ?_
    refine' DL.and (t := 28) (d := 35) 7 rfl (.cons (k := 2) rfl (.cons (k := 4) rfl (.cons (k := 5) rfl (.cons (k := 9) rfl (.cons (k := 10) rfl (.cons (k := 23) rfl (.cons (k := 24) rfl (.cons (k := 25) rfl (.cons (k := 26) rfl (.cons (k := 27) rfl .nil)))))))))) (.cons (k := 0) rfl (.cons (k := 1) rfl (.cons (k := 104) rfl (.cons (k := 105) rfl (.cons (k := 109) rfl .nil))))) ?_ ?_ ?_
    rotate_left 1
    ·
      intro hg28
      refine DL.gq rfl rfl rfl (Yld.fieldAddr fo44_1 rfl) rfl ?_
      refine DL.gq rfl rfl rfl (Yld.load1 (c := 109) Tryd.underlying3 rfl rfl rfl (by first | exact single_self _ _ | exact pset_self _ _ _ | assumption) rfl) rfl ?_
      refine DL.gq rfl rfl rfl (Yld.fieldAddr fo29_3 rfl) rfl ?_
      refine DL.gq rfl rfl rfl (Yld.load1 (c := 104) Tryd.underlying24 rfl rfl rfl (by first | exact single_self _ _ | exact pset_self _ _ _ | assumption) rfl) rfl ?_
      refine DL.gq rfl rfl rfl (Yld.lenSl Tryd.underlying24 rfl) rfl ?_
      refine DL.gq rfl rfl rfl (Yld.bin rfl rfl BinV.leq) rfl ?_
      refine DL.q rfl (by first | exact Yld.pickT rfl rfl | exact Yld.pickF rfl rfl) rfl ?_
      exact DL.meet (.cons rfl (.cons rfl (.cons rfl (.cons rfl (.cons rfl (.cons rfl (.cons rfl (.cons rfl (.cons rfl (.cons rfl (.cons rfl .nil))))))))))) (.cons rfl (.cons rfl (.cons rfl (.cons rfl (.cons rfl .nil)))))
    ·
      intro hg28
      refine DL.gskip rfl rfl rfl rfl rfl ?_
      refine DL.gskip rfl rfl rfl rfl rfl ?_
      refine DL.gskip rfl rfl rfl rfl rfl ?_
      refine DL.gskip rfl rfl rfl rfl rfl ?_
      refine DL.gskip rfl rfl rfl rfl rfl ?_
      refine DL.gskip rfl rfl rfl rfl rfl ?_
      refine DL.q rfl (by first | exact Yld.pickT rfl rfl | exact Yld.pickF rfl rfl) rfl ?_
      exact DL.meet (.cons rfl (.cons rfl (.cons rfl (.cons rfl (.cons rfl (.cons rfl (.cons rfl (.cons rfl (.cons rfl (.cons rfl (.cons rfl .nil))))))))))) (.cons rfl (.cons rfl (.cons rfl (.cons rfl (.cons rfl .nil)))))
    refine DL.q rfl (Yld.assign rfl) rfl ?_
    refine DL.q rfl (Yld.assign rfl) rfl ?_
    refine DL.done ?_
    refine N.next ?_
    refine W.keep (.cons (k := 2) rfl (.cons (k := 4) rfl (.cons (k := 5) rfl (.cons (k := 9) rfl (.cons (k := 11) rfl (.cons (k := 12) rfl .nil)))))) (.cons (k := 0) rfl (.cons (k := 1) rfl (.cons (k := 104) rfl (.cons (k := 105) rfl (.cons (k := 109) rfl .nil))))) ?_
    refine W.cutK (ι := Unit) (fun u => ((nmAt m a).size ≤ 1000)) (fun u => [(11, .string (nmAt m a))]) (fun u => []) (.cons (k := 2) rfl (.cons (k := 4) rfl (.cons (k := 5) rfl (.cons (k := 9) rfl (.cons (k := 12) rfl .nil))))) (.cons (k := 0) rfl (.cons (k := 1) rfl (.cons (k := 104) rfl (.cons (k := 105) rfl (.cons (k := 109) rfl .nil))))) ?_ ?_
    ·
      refine W.seq ?_
      refine W.region ?_
      refine RL.q (Yld.move rfl) rfl ?_
      refine RL.nil ?_
      refine N.next ?_
      refine W.cond rfl (fun hc36 => ?_) (fun hc36 => ?_)
      ·
        obtain ⟨hm1, hm2⟩ : 1 ≤ a.m ∧ a.m ≤ m.ms.length := by simpa using hc36
        obtain ⟨ym, hlm, hym⟩ := mc_row hm1 hm2
        have hnm : nmAt m a = ym.nm := by unfold nmAt; rw [if_pos ⟨hm1, hm2⟩, hym]; rfl
        have hnz : (nmAt m a).size ≤ 1000 := by rw [hnm]; exact hsm.ms ym (List.mem_of_getElem? hym)
        refine W.region ?_
        refine RL.q (Yld.fieldAddr fo29_3 rfl) rfl ?_
        refine RL.q (Yld.load1 (c := 104) Tryd.underlying24 rfl rfl rfl (by first | exact single_self _ _ | exact pset_self _ _ _ | assumption) rfl) rfl ?_
        refine RL.q (Yld.fieldAddr fo44_1 rfl) rfl ?_
        refine RL.q (Yld.load1 (c := 109) Tryd.underlying3 rfl rfl rfl (by first | exact single_self _ _ | exact pset_self _ _ _ | assumption) rfl) rfl ?_
        refine RL.q (Yld.bin rfl rfl (by first | exact BinV.sub (by omega) (by omega) | exact BinV.subW)) rfl ?_
        refine RL.q (Yld.indexRow Tryd.underlying24 sz99 rfl rfl (by first | assumption | exact Own.sl (by assumption)) (by first | rfl | omega | (simp; done) | (simp; omega)) (by omega) (by first | omega | (simp; done) | (simp; omega))) rfl ?_
        refine RL.q (Yld.fieldAddr fo99_0 rfl) rfl ?_
        refine RL.q (by first | exact (by first | exact Yld.loadRow1 (cl := 109) Tryd.underlying9 rfl rfl rfl (by first | assumption | exact Own.sl (by assumption)) (by assumption) | exact Yld.loadRow1 (cl := 1) Tryd.underlying9 rfl rfl rfl (by first | assumption | exact Own.sl (by assumption)) (by assumption) | exact Yld.loadRow1 (cl := 105) Tryd.underlying9 rfl rfl rfl (by first | assumption | exact Own.sl (by assumption)) (by assumption) | exact Yld.loadRow1 (cl := 104) Tryd.underlying9 rfl rfl rfl (by first | assumption | exact Own.sl (by assumption)) (by assumption)) | exact (by first | exact Yld.loadRowF (cl := 109) (j := 0) Tryd.underlying9 rfl rfl rfl (by first | assumption | exact Own.sl (by assumption)) (by assumption) rfl | exact Yld.loadRowF (cl := 1) (j := 0) Tryd.underlying9 rfl rfl rfl (by first | assumption | exact Own.sl (by assumption)) (by assumption) rfl | exact Yld.loadRowF (cl := 105) (j := 0) Tryd.underlying9 rfl rfl rfl (by first | assumption | exact Own.sl (by assumption)) (by assumption) rfl | exact Yld.loadRowF (cl := 104) (j := 0) Tryd.underlying9 rfl rfl rfl (by first | assumption | exact Own.sl (by assumption)) (by assumption) rfl)) rfl ?_
        refine RL.q (Yld.assign rfl) rfl ?_
        refine RL.nil ?_
        exact N.famK () hnz (.as rfl (by first | (rw [hnm]; done) | (rw [hnm]; rfl)) .nil) (.cons rfl (.cons rfl (.cons rfl (.cons rfl (.cons rfl .nil))))) .nil (.cons rfl (.cons rfl (.cons rfl (.cons rfl (.cons rfl .nil)))))
      ·
        have hm0 : ¬ (1 ≤ a.m ∧ a.m ≤ m.ms.length) := fun h => by simp [h.1, h.2] at hc36
        have hnm : nmAt m a = .empty := if_neg hm0
        have hnz : (nmAt m a).size ≤ 1000 := by rw [hnm]; exact Nat.zero_le _
        refine W.skip ?_
        exact N.famK () hnz (.as rfl (by first | (rw [hnm]; done) | (rw [hnm]; rfl)) .nil) (.cons rfl (.cons rfl (.cons rfl (.cons rfl (.cons rfl .nil))))) .nil (.cons rfl (.cons rfl (.cons rfl (.cons rfl (.cons rfl .nil)))))
    rintro u hnz
    refine W.keep (.cons (k := 11) rfl (.cons (k := 2) rfl (.cons (k := 4) rfl (.cons (k := 5) rfl (.cons (k := 9) rfl (.cons (k := 12) rfl .nil)))))) (.cons (k := 0) rfl (.cons (k := 1) rfl (.cons (k := 104) rfl (.cons (k := 105) rfl (.cons (k := 109) rfl .nil))))) ?_
    refine W.seq ?_
    refine W.region ?_
    refine RL.q (Yld.loadW (c := 109) Tryd.underlying44 rfl sz44 rfl rfl (by first | exact single_self _ _ | exact pset_self _ _ _ | assumption) rfl) rfl ?_
    refine RL.q (Yld.move rfl) rfl ?_
    refine RL.e (Eff.call ent40 [1] [1] (.cons rfl (.cons rfl .nil)) (words_ct a (actR_r hR hrg) (nmAt m a) hnz H1 hT) rfl rfl rfl rfl (by rintro _ _ ⟨_, rfl⟩; rfl)) rfl ?_
    rintro _ _ ⟨_, ⟨rfl, rfl⟩, rfl⟩
    have hwz := words_size (nm := nmAt m a) (actR_r hR hrg) hnz
    refine RL.q (Yld.move rfl) rfl ?_
    refine RL.q (Yld.extract rfl rfl) rfl ?_
    refine RL.q (Yld.extract rfl rfl) rfl ?_
    refine RL.q (Yld.assign rfl) rfl ?_
    refine RL.q (Yld.assign rfl) rfl ?_
    refine RL.nil ?_
    refine N.next ?_
    refine W.keep (.cons (k := 2) rfl (.cons (k := 4) rfl (.cons (k := 5) rfl (.cons (k := 12) rfl (.cons (k := 13) rfl (.cons (k := 14) rfl .nil)))))) (.cons (k := 0) rfl (.cons (k := 1) rfl (.cons (k := 104) rfl (.cons (k := 105) rfl (.cons (k := 109) rfl .nil))))) ?_
    refine W.seq ?_
    refine W.seq ?_
    refine W.region ?_
    refine RL.q (Yld.move rfl) rfl ?_
    refine RL.q (Yld.move rfl) rfl ?_
    refine' RL.and (t := 52) (d := 55) 3 rfl (.cons (k := 2) rfl (.cons (k := 4) rfl (.cons (k := 5) rfl (.cons (k := 12) rfl (.cons (k := 13) rfl (.cons (k := 14) rfl (.cons (k := 51) rfl .nil))))))) (.cons (k := 0) rfl (.cons (k := 1) rfl (.cons (k := 104) rfl (.cons (k := 105) rfl (.cons (k := 109) rfl .nil))))) ?_ ?_ ?_
    rotate_left 1
    ·
      intro hg52
      refine RL.gq rfl rfl (Yld.move rfl) rfl ?_
      refine RL.gq rfl rfl (by first | exact Yld.notD rfl | exact Yld.not rfl) rfl ?_
      refine RL.q (by first | exact Yld.pickT rfl rfl | exact Yld.pickF rfl rfl) rfl ?_
      exact RL.nil (N.meet (.cons rfl (.cons rfl (.cons rfl (.cons rfl (.cons rfl (.cons rfl (.cons rfl (.cons rfl .nil)))))))) (.cons rfl (.cons rfl (.cons rfl (.cons rfl (.cons rfl .nil))))))
    ·
      intro hg52
      refine RL.gskip rfl rfl rfl rfl ?_
      refine RL.gskip rfl rfl rfl rfl ?_
      refine RL.q (by first | exact Yld.pickT rfl rfl | exact Yld.pickF rfl rfl) rfl ?_
      exact RL.nil (N.meet (.cons rfl (.cons rfl (.cons rfl (.cons rfl (.cons rfl (.cons rfl (.cons rfl (.cons rfl .nil)))))))) (.cons rfl (.cons rfl (.cons rfl (.cons rfl (.cons rfl .nil))))))
    refine RL.nil ?_
    refine N.next ?_
    refine W.cond rfl (fun hc55 => ?_) (fun hc55 => ?_)
    ·
      refine W.seq ?_
      refine W.region ?_
      refine RL.q (Yld.assign rfl) rfl ?_
      refine RL.nil ?_
      refine N.next ?_
      refine W.keep (.cons (k := 8) rfl .nil) (.cons (k := 0) rfl (.cons (k := 1) rfl (.cons (k := 104) rfl (.cons (k := 105) rfl (.cons (k := 109) rfl .nil))))) ?_
      refine W.ret ?_
      refine N.then_ret ?_
      exact N.retBy [1] (.cons (.tmp rfl) .nil) rfl rfl rfl rfl ⟨_, rfl, ⟨a, true, hR, .inr ⟨rfl, .inl ⟨by simp at hc55; exact hc55.1, by simp at hc55; simp [knB]; intro _; omega, rfl⟩⟩⟩, rfl⟩
    ·
      refine W.skip ?_
      refine N.next ?_
      refine W.keep (.cons (k := 2) rfl (.cons (k := 4) rfl (.cons (k := 5) rfl (.cons (k := 13) rfl .nil)))) (.cons (k := 0) rfl (.cons (k := 1) rfl (.cons (k := 104) rfl (.cons (k := 105) rfl (.cons (k := 109) rfl .nil))))) ?_
      refine W.seq ?_
      refine W.draw (.q 0 (.q 3 (.q 4 (.q 5 (.q 6 (.q 7 (.q 8 (.q 9 (.q 10 (.q 11 (.q 12 (.q 13 (.q 14 (.q 15 (.q 16 (.q 17 (.q 20 (.one 1 (.q 2 (.q 18 (.q 19 (.q 21 (.q 22 .done))))))))))))))))))))))) (.cons (k := 0) rfl (.cons (k := 1) rfl (.cons (k := 104) rfl (.cons (k := 105) rfl (.cons (k := 109) rfl .nil))))) mix (by kernel_rfl) (by kernel_rfl) ?_
      refine DL.q rfl (Yld.move rfl) rfl ?_
      refine DL.q rfl (Yld.fieldAddr fo29_5 rfl) rfl ?_
      refine DL.q rfl (Yld.load1 (c := 104) Tryd.underlying26 rfl rfl rfl (by first | exact single_self _ _ | exact pset_self _ _ _ | assumption) rfl) rfl ?_
      refine DL.q rfl (Yld.fieldAddr fo38_4 rfl) rfl ?_
      refine DL.q rfl (Yld.fieldAddr fo35_0 rfl) rfl ?_
      refine DL.q rfl (Yld.load1 (c := 105) Tryd.underlying33 rfl rfl rfl (by first | exact single_self _ _ | exact pset_self _ _ _ | assumption) rfl) rfl ?_
      refine DL.q rfl (Yld.move rfl) rfl ?_
      refine DL.q rfl (Yld.bin rfl rfl (by first | exact BinV.sub (by omega) (by omega) | exact BinV.subW)) rfl ?_
      refine DL.q rfl (Yld.indexRow Tryd.underlying33 sz86 rfl rfl (by first | assumption | exact Own.sl (by assumption)) (by first | rfl | omega | (simp; done) | (simp; omega)) (by omega) (by first | omega | (simp; done) | (simp; omega))) rfl ?_
      refine DL.q rfl (Yld.fieldAddr fo86_1 rfl) rfl ?_
      refine DL.q rfl (Yld.fieldAddr fo84_0 rfl) rfl ?_
      refine DL.q rfl (by first | exact Yld.loadRowF (cl := 1) (j := 1) Tryd.underlying3 rfl rfl rfl (by first | assumption | exact Own.sl (by assumption)) (by assumption) rfl | exact Yld.loadRowF (cl := 104) (j := 1) Tryd.underlying3 rfl rfl rfl (by first | assumption | exact Own.sl (by assumption)) (by assumption) rfl | exact Yld.loadRowF (cl := 105) (j := 1) Tryd.underlying3 rfl rfl rfl (by first | assumption | exact Own.sl (by assumption)) (by assumption) rfl | exact Yld.loadRowF (cl := 109) (j := 1) Tryd.underlying3 rfl rfl rfl (by first | assumption | exact Own.sl (by assumption)) (by assumption) rfl) rfl ?_
      refine DL.q rfl (Yld.bin rfl rfl (by first | exact BinV.sub (by omega) (by omega) | exact BinV.subW)) rfl ?_
      refine DL.q rfl (Yld.indexRow Tryd.underlying26 sz90 rfl rfl (by first | assumption | exact Own.sl (by assumption)) (by first | rfl | omega | (simp; done) | (simp; omega)) (by omega) (by first | omega | (simp; done) | (simp; omega))) rfl ?_
      refine DL.q rfl (Yld.fieldAddr fo90_0 rfl) rfl ?_
      refine DL.q rfl (by first | exact (by first | exact Yld.loadRow1 (cl := 1) Tryd.underlying9 rfl rfl rfl (by first | assumption | exact Own.sl (by assumption)) (by assumption) | exact Yld.loadRow1 (cl := 104) Tryd.underlying9 rfl rfl rfl (by first | assumption | exact Own.sl (by assumption)) (by assumption) | exact Yld.loadRow1 (cl := 105) Tryd.underlying9 rfl rfl rfl (by first | assumption | exact Own.sl (by assumption)) (by assumption) | exact Yld.loadRow1 (cl := 109) Tryd.underlying9 rfl rfl rfl (by first | assumption | exact Own.sl (by assumption)) (by assumption)) | exact (by first | exact Yld.loadRowF (cl := 1) (j := 0) Tryd.underlying9 rfl rfl rfl (by first | assumption | exact Own.sl (by assumption)) (by assumption) rfl | exact Yld.loadRowF (cl := 104) (j := 0) Tryd.underlying9 rfl rfl rfl (by first | assumption | exact Own.sl (by assumption)) (by assumption) rfl | exact Yld.loadRowF (cl := 105) (j := 0) Tryd.underlying9 rfl rfl rfl (by first | assumption | exact Own.sl (by assumption)) (by assumption) rfl | exact Yld.loadRowF (cl := 109) (j := 0) Tryd.underlying9 rfl rfl rfl (by first | assumption | exact Own.sl (by assumption)) (by assumption) rfl)) rfl ?_
      refine DL.q rfl (Yld.move rfl) rfl ?_
      refine DL.one rfl (Eff.call ent41 [1] [1] (.cons rfl .nil) (itoa_ct st hst H1 hT) rfl rfl rfl rfl (by rintro _ _ ⟨_, rfl⟩; rfl)) rfl (by rintro _ _ ⟨_, ⟨rfl, rfl⟩, rfl⟩; repeat (first | exact .nil | refine .cons rfl ?_)) ?_
      rintro _ _ ⟨_, ⟨rfl, rfl⟩, rfl⟩
      refine DL.q rfl (Yld.bin rfl rfl (BinV.addS (by (try simp only [ByteArray.size_append]); (try simp only [show (ByteArray.mk #[32]).size = 1 from rfl, show (ByteArray.mk #[58, 32]).size = 2 from rfl]); omega))) rfl ?_
      refine DL.q rfl (Yld.bin rfl rfl (BinV.addS (by (try simp only [ByteArray.size_append]); (try simp only [show (ByteArray.mk #[32]).size = 1 from rfl, show (ByteArray.mk #[58, 32]).size = 2 from rfl]); omega))) rfl ?_
      refine DL.q rfl (Yld.bin rfl rfl (BinV.addS (by (try simp only [ByteArray.size_append]); (try simp only [show (ByteArray.mk #[32]).size = 1 from rfl, show (ByteArray.mk #[58, 32]).size = 2 from rfl]); omega))) rfl ?_
      refine DL.q rfl (Yld.bin rfl rfl (BinV.addS (by (try simp only [ByteArray.size_append]); (try simp only [show (ByteArray.mk #[32]).size = 1 from rfl, show (ByteArray.mk #[58, 32]).size = 2 from rfl]); omega))) rfl ?_
      refine DL.q rfl (Yld.assign rfl) rfl ?_
      refine DL.done ?_
      refine N.next ?_
      refine W.keep (.cons (k := 8) rfl .nil) (.cons (k := 0) rfl (.cons (k := 1) rfl (.cons (k := 104) rfl (.cons (k := 105) rfl (.cons (k := 109) rfl .nil))))) ?_
      refine W.ret ?_
      exact N.retBy [1] (.cons (.tmp rfl) .nil) rfl rfl rfl rfl ⟨_, rfl, ⟨a, true, hR, .inr ⟨rfl, .inr ⟨fun h => by simp [knB] at h hc55; simp [h.1] at hc55; omega, t, yi, ht, hyi, rfl⟩⟩⟩, rfl⟩

theorem Cfg.lit_size (l : Array UInt8) : (ByteArray.mk l).size = l.size := rfl
def Cfg.w0 (a : Ac) : ByteArray := if a.k = 2 then (⟨#[119, 97, 105, 116, 32, 102, 111, 114, 32]⟩ : ByteArray) ++ itoaB a.r else if a.k = 1 ∧ a.c = 0 then (⟨#[108, 101, 97, 114, 110, 32]⟩ : ByteArray) ++ itoaB a.r else if a.k = 1 ∧ a.c = 1 then (⟨#[102, 111, 114, 103, 101, 116, 32]⟩ : ByteArray) ++ itoaB a.r else .empty
theorem Cfg.app_ne {x y : ByteArray} (h : 0 < x.size) : x ++ y ≠ .empty := fun e => by
  have := congrArg ByteArray.size e
  rw [ByteArray.size_append] at this
  have h0 : ByteArray.empty.size = 0 := rfl
  omega
theorem Cfg.w0_words {a : Ac} (nm : ByteArray) (h : w0 a ≠ .empty) : wordsV a nm = (w0 a, false) := by
  unfold w0 at *
  unfold wordsV
  split at h
  · rename_i h1; rw [if_pos h1, if_pos h1]
  · rename_i h1
    split at h
    · rename_i h2; rw [if_neg h1, if_neg h1, if_pos h2, if_pos h2]
    · rename_i h2
      split at h
      · rename_i h3; rw [if_neg h1, if_neg h1, if_neg h2, if_neg h2, if_pos h3, if_pos h3]
      · exact absurd rfl h
theorem Cfg.w0_none {a : Ac} (h : w0 a = .empty) : ¬ a.k = 2 ∧ ¬ (a.k = 1 ∧ a.c = 0) ∧ ¬ (a.k = 1 ∧ a.c = 1) := by
  unfold w0 at h
  split at h
  · exact absurd h (app_ne (by decide))
  · rename_i h1
    split at h
    · exact absurd h (app_ne (by decide))
    · rename_i h2
      split at h
      · exact absurd h (app_ne (by decide))
      · rename_i h3; exact ⟨h1, h2, h3⟩
theorem Cfg.w0_size {a : Ac} (ha : I64 a.r) : (w0 a).size ≤ 100 := by
  have hz := itoaB_size ha
  unfold w0
  repeat' split
  all_goals (simp only [ByteArray.size_append, lit_size, List.size_toArray, List.length_cons, List.length_nil, show ByteArray.empty.size = 0 from rfl]; omega)
theorem Cfg.words_k1 {a : Ac} (nm : ByteArray) (h : w0 a = .empty) (hk : a.k = 1) : wordsV a nm = ((⟨#[114, 101, 112, 108, 97, 99, 101, 32]⟩ : ByteArray) ++ nm ++ (⟨#[32, 98, 121, 32]⟩ : ByteArray) ++ itoaB a.r, true) := by
  obtain ⟨h1, h2, h3⟩ := w0_none h
  unfold wordsV; rw [if_neg h1, if_neg h2, if_neg h3, if_pos hk]
theorem Cfg.words_u0 {a : Ac} (nm : ByteArray) (h : w0 a = .empty) (hk : ¬ a.k = 1) (hu : a.uk = 0) : wordsV a nm = ((⟨#[111, 112, 101, 110, 32]⟩ : ByteArray) ++ itoaB a.r ++ (⟨#[32, 111, 110, 32]⟩ : ByteArray) ++ nm, true) := by
  obtain ⟨h1, h2, h3⟩ := w0_none h
  unfold wordsV; rw [if_neg h1, if_neg h2, if_neg h3, if_neg hk, if_pos hu]
theorem Cfg.words_u {a : Ac} (nm : ByteArray) (h : w0 a = .empty) (hk : ¬ a.k = 1) (hu : ¬ a.uk = 0) {x : ByteArray} (hx : verbB a.uk ++ (⟨#[32, 111, 110, 32]⟩ : ByteArray) = x) : wordsV a nm = (x ++ nm, true) := by
  obtain ⟨h1, h2, h3⟩ := w0_none h
  unfold wordsV; rw [if_neg h1, if_neg h2, if_neg h3, if_neg hk, if_neg hu, hx]
theorem Cfg.words_two {a : Ac} (nm : ByteArray) (h : w0 a = .empty) : (wordsV a nm).2 = true := by
  obtain ⟨h1, h2, h3⟩ := w0_none h
  unfold wordsV; rw [if_neg h1, if_neg h2, if_neg h3]
  repeat' split
  all_goals rfl
theorem Cfg.actD_pos {x : Mv} {y : St} {s : Int} {q : Int × Bool × Int} {a : Ac} (h : actD (fun _ => true) x y s q a.val) : (0 ≤ y.r → 0 ≤ a.r) ∧ (a.uk = 0 ∨ a.uk = 1 ∨ a.uk = 2 ∨ a.uk = 3 ∨ a.uk = 4 ∨ a.uk = 5) := by
  obtain ⟨a1, a2, a3, a4, ar, a6, a7, a8, a9⟩ := a
  rcases h with h | h | h | h | h | h | h | h | h | h | h | h | h
  all_goals (have e := h.2.2; simp [Ac.val, opV, admV, waitV, repV, leaveV, unitV, startV] at e; refine ⟨fun hr => ?_, ?_⟩ <;> simp [e]; try omega)
theorem Cfg.actR_pos {m : Md} {s : Ins} {st ph : Int} {a : Ac} {ok : Bool} (h : ActR m s st ph a ok) (hs : ∀ y ∈ s.ys, 0 ≤ y.r) : 0 ≤ a.r ∧ (a.uk = 0 ∨ a.uk = 1 ∨ a.uk = 2 ∨ a.uk = 3 ∨ a.uk = 4 ∨ a.uk = 5) := by
  rcases h with ⟨_, rfl, _⟩ | ⟨_, t, y, _, hy, ⟨_, rfl, _⟩ | ⟨_, hl⟩⟩
  · simp [ac0]
  · simp [ac0]
  · rcases hl with ⟨_, hd⟩ | ⟨_, rfl, _⟩
    · exact ⟨(actD_pos hd).1 (hs y (List.mem_of_getElem? hy)), (actD_pos hd).2⟩
    · simp [ac0]
theorem Cfg.textR_one {m : Md} {s : Ins} {st ph : Int} {b c : ByteArray} (h : TextR m s st ph b) (h' : TextR m s st ph c) : b = c := by
  obtain ⟨a, ok, hR, h⟩ := h
  obtain ⟨a', ok', hR', h'⟩ := h'
  obtain ⟨rfl, rfl⟩ := actR_one hR hR'
  rcases h with ⟨rfl, rfl⟩ | ⟨rfl, ⟨e1, e2, rfl⟩ | ⟨e, t, y, ht, hy, rfl⟩⟩ <;> rcases h' with ⟨e', rfl⟩ | ⟨e', ⟨e1', e2', rfl⟩ | ⟨e3', t', y', ht', hy', rfl⟩⟩
  · rfl
  · cases e'
  · cases e'
  · cases e'
  · rfl
  · exact absurd ⟨e1, e2⟩ e3'
  · cases e'
  · exact absurd ⟨e1', e2'⟩ e
  · obtain rfl := Option.some.inj (ht.symm.trans ht')
    obtain rfl := Option.some.inj (hy.symm.trans hy')
    rfl

set_option maxRecDepth 100000 in
set_option maxHeartbeats 6400000 in
theorem rtext_ct (m : Md) (s : Ins) (H1 : PH) (hm : m.In H1) (hs : s.In H1) (st ph : Int) (hsm : m.Sm) (hrg : s.Rg) (hst : I64 st) (hnn : ∀ y ∈ s.ys, 0 ≤ y.r) : Ct Tryd.prog 16 [.agg [.slice m.a0 m.n0 m.c0, .slice m.a1 m.n1 m.c1, .slice m.a2 m.n2 m.c2, .slice m.pm m.ms.length m.cm, .slice m.a4 m.n4 m.c4, .slice m.pi m.is.length m.ci, .int .i64 m.d0, .int .i64 m.d1, .int .i64 m.d2, .int .i64 m.d3, .slice m.a5 m.n5 m.c5].toArray, .agg [.int .i64 s.g, .int .i64 s.v, .int .i64 s.sl, .slice s.pb s.nb s.cb, .slice s.pp s.xs.length s.cp, .slice s.ps s.ys.length s.cs, .bool s.ca, .int .i64 s.se, .int .i64 s.ou].toArray, .int .i64 st, .int .i64 ph] [H1] (fun v Hs => ∃ b, v = .string b ∧ TextR m s st ph b ∧ Hs = [H1]) := by
  refine Ct.body Tryd.func16 rfl Tryd.ntmps16 rfl ?_
  intro E F
  have hmxi := hm.is.len_le
  have hmxx := hs.xs.len_le
  have hmxy := hs.ys.len_le
  simp only [List.length_map, maxLen] at hmxi hmxx hmxy
  have hsi := hm.is
  have hsx := hs.xs
  have hsy := hs.ys
  have hmxm := hm.ms.len_le
  simp only [List.length_map, maxLen] at hmxm
  have hsm1 := hm.ms
  have hzs := itoaB_size hst
  refine W.seq ?_
  refine W.region ?_
  refine RL.e (Eff.box 104 _ rfl rfl) rfl ?_
  rintro _ _ ⟨b4, rfl, rfl⟩
  refine RL.e (Eff.box 105 _ rfl rfl) rfl ?_
  rintro _ _ ⟨b5, rfl, rfl⟩
  refine RL.q (Yld.assign rfl) rfl ?_
  refine RL.nil ?_
  refine N.next ?_
  refine W.seq ?_
  refine W.region ?_
  refine RL.q (Yld.loadW (c := 104) Tryd.underlying29 rfl sz29 rfl rfl (by first | exact single_self _ _ | exact pset_self _ _ _ | assumption) rfl) rfl ?_
  refine RL.q (Yld.loadW (c := 105) Tryd.underlying38 rfl sz38 rfl rfl (by first | exact single_self _ _ | exact pset_self _ _ _ | assumption) rfl) rfl ?_
  refine RL.q (Yld.move rfl) rfl ?_
  refine RL.q (Yld.move rfl) rfl ?_
  refine RL.e (Eff.call ent13 [1] [1] (.cons rfl (.cons rfl (.cons rfl (.cons rfl .nil)))) (raction_ct m s H1 hm hs st ph) rfl rfl rfl rfl (by rintro _ _ ⟨_, _, _, _, rfl⟩; rfl)) rfl ?_
  rintro _ _ ⟨_, ⟨a, ok, rfl, hR, rfl⟩, rfl⟩
  refine RL.q (Yld.move rfl) rfl ?_
  refine RL.q (Yld.extract rfl rfl) rfl ?_
  refine RL.q (Yld.extract rfl rfl) rfl ?_
  refine RL.e (Eff.alloc 109 zc44) rfl ?_
  rintro _ _ ⟨b9, rfl, rfl⟩
  refine RL.e0 (Eff.storeS (c := 109) _ sz44 rfl rfl rfl rfl rfl rfl rfl (by (try simp only [putAt, List.take, List.drop, List.nil_append, List.cons_append, List.append_nil, List.length_cons, List.length_nil, Nat.add_zero, Nat.zero_add, Nat.reduceAdd]); rfl)) ?_
  rintro _ _ rfl
  refine RL.q (Yld.assign rfl) rfl ?_
  refine RL.nil ?_
  refine N.next ?_
  refine W.keep (.cons (k := 2) rfl (.cons (k := 4) rfl (.cons (k := 5) rfl (.cons (k := 9) rfl (.cons (k := 10) rfl .nil))))) (.cons (k := 0) rfl (.cons (k := 1) rfl (.cons (k := 104) rfl (.cons (k := 105) rfl (.cons (k := 109) rfl .nil))))) ?_
  refine W.seq ?_
  refine W.seq ?_
  refine W.region ?_
  refine RL.q (Yld.move rfl) rfl ?_
  refine RL.q (by first | exact Yld.notD rfl | exact Yld.not rfl) rfl ?_
  refine RL.nil ?_
  refine N.next ?_
  refine W.cond rfl (fun hc25 => ?_) (fun hc25 => ?_)
  ·
    refine W.seq ?_
    refine W.region ?_
    refine RL.q (Yld.assign rfl) rfl ?_
    refine RL.nil ?_
    refine N.next ?_
    refine W.keep (.cons (k := 8) rfl .nil) (.cons (k := 0) rfl (.cons (k := 1) rfl (.cons (k := 104) rfl (.cons (k := 105) rfl (.cons (k := 109) rfl .nil))))) ?_
    refine W.ret ?_
    refine N.then_ret ?_
    exact N.retBy [1] (.cons (.tmp rfl) .nil) rfl rfl rfl rfl ⟨_, rfl, ⟨a, ok, hR, .inl ⟨by simpa using hc25, rfl⟩⟩, rfl⟩
  ·
    obtain rfl : ok = true := by simpa using hc25
    obtain ⟨hx, t, y, ht, hy, hL⟩ := hR.resolve_left (fun h => by cases h.2.2)
    obtain ⟨t', y', ht', hy', hlt, hly, hst1, hst2, hst3⟩ := ex_rows hx
    obtain rfl : t = t' := Option.some.inj (ht.symm.trans ht')
    obtain ⟨hph, hL⟩ := hL.resolve_left (fun h => by cases h.2.2)
    obtain ⟨hki1, hki2⟩ := phs_kind (is := m.is) (x := t.2) hph
    obtain ⟨yi, hli, hk, hyi⟩ := kind_row hki1 hki2
    have hyz := hsm.is yi (List.mem_of_getElem? hyi)
    obtain ⟨hap, hau⟩ := actR_pos hR hnn
    have hzr := itoaB_size (actR_r hR hrg)
    have hw0 := w0_size (actR_r hR hrg)
    have hnz : (nmAt m a).size ≤ 1000 := by
      unfold nmAt; split
      · rename_i h; obtain ⟨ym, _, hym⟩ := mc_row h.1 h.2; rw [hym]; exact hsm.ms ym (List.mem_of_getElem? hym)
      · exact Nat.zero_le _
    have hwz := words_size (nm := nmAt m a) (actR_r hR hrg) hnz
    refine W.skip ?_
    refine N.next ?_
    refine W.seq ?_
    refine W.region ?_
    refine RL.q (Yld.loadW (c := 105) Tryd.underlying38 rfl sz38 rfl rfl (by first | exact single_self _ _ | exact pset_self _ _ _ | assumption) rfl) rfl ?_
    refine RL.q (Yld.move rfl) rfl ?_
    refine RL.e (Eff.call ent36 [1] [1] (.cons rfl (.cons rfl .nil)) (rmove_ct s st H1 hs t hst1 hst2 hlt) rfl rfl rfl rfl (by rintro _ _ ⟨_, rfl⟩; rfl)) rfl ?_
    rintro _ _ ⟨_, ⟨rfl, rfl⟩, rfl⟩
    refine RL.e (Eff.alloc 111 zc84) rfl ?_
    rintro _ _ ⟨b11, rfl, rfl⟩
    refine RL.e0 (Eff.storeS (c := 111) _ sz84 rfl rfl rfl rfl rfl rfl rfl (by (try simp only [putAt, List.take, List.drop, List.nil_append, List.cons_append, List.append_nil, List.length_cons, List.length_nil, Nat.add_zero, Nat.zero_add, Nat.reduceAdd]); rfl)) ?_
    rintro _ _ rfl
    refine RL.nil ?_
    refine N.next ?_
    refine W.keep (.cons (k := 2) rfl (.cons (k := 4) rfl (.cons (k := 9) rfl (.cons (k := 11) rfl .nil)))) (.cons (k := 0) rfl (.cons (k := 1) rfl (.cons (k := 104) rfl (.cons (k := 105) rfl (.cons (k := 109) rfl (.cons (k := 111) rfl .nil)))))) ?_
    refine W.seq ?_
    refine W.region ?_
    refine RL.q (Yld.fieldAddr fo44_4 rfl) rfl ?_
    refine RL.q (Yld.load1 (c := 109) Tryd.underlying3 rfl rfl rfl (by first | exact single_self _ _ | exact pset_self _ _ _ | assumption) rfl) rfl ?_
    refine RL.e (Eff.call ent42 [] [] (.cons rfl .nil) (num10_ct a.r hap (actR_r hR hrg).2) rfl rfl rfl rfl (by rintro _ _ ⟨_, rfl⟩; rfl)) rfl ?_
    rintro _ _ ⟨_, ⟨rfl, rfl⟩, rfl⟩
    refine RL.q (Yld.assign rfl) rfl ?_
    refine RL.nil ?_
    refine N.next ?_
    refine W.seq ?_
    refine W.region ?_
    refine RL.q (Yld.fieldAddr fo44_1 rfl) rfl ?_
    refine RL.q (Yld.load1 (c := 109) Tryd.underlying3 rfl rfl rfl (by first | exact single_self _ _ | exact pset_self _ _ _ | assumption) rfl) rfl ?_
    refine RL.q (Yld.assign rfl) rfl ?_
    refine RL.nil ?_
    refine N.next ?_
    refine W.keep (.cons (k := 2) rfl (.cons (k := 4) rfl (.cons (k := 9) rfl (.cons (k := 11) rfl (.cons (k := 12) rfl (.cons (k := 13) rfl .nil)))))) (.cons (k := 0) rfl (.cons (k := 1) rfl (.cons (k := 104) rfl (.cons (k := 105) rfl (.cons (k := 109) rfl (.cons (k := 111) rfl .nil)))))) ?_
    refine W.seq ?_
    refine W.region ?_
    refine RL.q (Yld.assign rfl) rfl ?_
    refine RL.nil ?_
    refine N.next ?_
    refine W.cutK (ι := Unit) (fun u => True) (fun u => [(14, .string (w0 a))]) (fun u => []) (.cons (k := 2) rfl (.cons (k := 4) rfl (.cons (k := 9) rfl (.cons (k := 11) rfl (.cons (k := 12) rfl (.cons (k := 13) rfl .nil)))))) (.cons (k := 0) rfl (.cons (k := 1) rfl (.cons (k := 104) rfl (.cons (k := 105) rfl (.cons (k := 109) rfl (.cons (k := 111) rfl .nil)))))) ?_ ?_
    ·
      refine W.block ?_
      refine W.seq ?_
      refine W.region ?_
      refine RL.q (Yld.fieldAddr fo44_0 rfl) rfl ?_
      refine RL.q (Yld.load1 (c := 109) Tryd.underlying3 rfl rfl rfl (by first | exact single_self _ _ | exact pset_self _ _ _ | assumption) rfl) rfl ?_
      refine RL.q (Yld.bin rfl rfl BinV.eql) rfl ?_
      refine RL.q (Yld.assign rfl) rfl ?_
      refine RL.nil ?_
      refine N.next ?_
      first | refine W.condD rfl (fun hc34 => ?_) (fun hc34 => ?_) | (refine W.cond rfl (fun hc34 => ?_) (fun hc34 => ?_) <;> try simp only [Bool.or_eq_true, Bool.and_eq_true, Bool.not_eq_true', Bool.not_eq_false', decide_eq_true_eq, Bool.or_eq_false_iff, Bool.and_eq_false_iff, decide_eq_false_iff_not, beq_iff_eq, beq_eq_false_iff_ne, ne_eq, Decidable.not_not] at hc34)
      ·
        refine W.region ?_
        refine RL.q (Yld.move rfl) rfl ?_
        refine RL.q (Yld.bin rfl rfl (BinV.addS (by (try simp only [ByteArray.size_append, lit_size, List.size_toArray, List.length_cons, List.length_nil]); omega))) rfl ?_
        refine RL.q (Yld.assign rfl) rfl ?_
        refine RL.nil ?_
        refine N.block_normal ?_
        exact N.famK () trivial (.as rfl (by show Value.string _ = Value.string _; unfold w0; rw [if_pos hc34]; try rfl) .nil) (.cons rfl (.cons rfl (.cons rfl (.cons rfl (.cons rfl (.cons rfl .nil)))))) .nil (.cons rfl (.cons rfl (.cons rfl (.cons rfl (.cons rfl (.cons rfl .nil))))))
      ·
        refine W.seq ?_
        refine W.region ?_
        refine RL.q (Yld.fieldAddr fo44_0 rfl) rfl ?_
        refine RL.q (Yld.load1 (c := 109) Tryd.underlying3 rfl rfl rfl (by first | exact single_self _ _ | exact pset_self _ _ _ | assumption) rfl) rfl ?_
        refine RL.q (Yld.bin rfl rfl BinV.eql) rfl ?_
        refine RL.q (Yld.move rfl) rfl ?_
        refine' RL.and (t := 44) (d := 48) 4 rfl (.cons (k := 2) rfl (.cons (k := 4) rfl (.cons (k := 9) rfl (.cons (k := 11) rfl (.cons (k := 12) rfl (.cons (k := 13) rfl (.cons (k := 14) rfl (.cons (k := 34) rfl (.cons (k := 35) rfl (.cons (k := 36) rfl (.cons (k := 37) rfl (.cons (k := 41) rfl (.cons (k := 42) rfl (.cons (k := 43) rfl .nil)))))))))))))) (.cons (k := 0) rfl (.cons (k := 1) rfl (.cons (k := 104) rfl (.cons (k := 105) rfl (.cons (k := 109) rfl (.cons (k := 111) rfl .nil)))))) ?_ ?_ ?_
        rotate_left 1
        ·
          intro hg44
          refine RL.gq rfl rfl (Yld.fieldAddr fo44_3 rfl) rfl ?_
          refine RL.gq rfl rfl (Yld.load1 (c := 109) Tryd.underlying3 rfl rfl rfl (by first | exact single_self _ _ | exact pset_self _ _ _ | assumption) rfl) rfl ?_
          refine RL.gq rfl rfl (Yld.bin rfl rfl BinV.eql) rfl ?_
          refine RL.q (by first | exact Yld.pickT rfl rfl | exact Yld.pickF rfl rfl) rfl ?_
          exact RL.nil (N.meet (.cons rfl (.cons rfl (.cons rfl (.cons rfl (.cons rfl (.cons rfl (.cons rfl (.cons rfl (.cons rfl (.cons rfl (.cons rfl (.cons rfl (.cons rfl (.cons rfl (.cons rfl .nil))))))))))))))) (.cons rfl (.cons rfl (.cons rfl (.cons rfl (.cons rfl (.cons rfl .nil)))))))
        ·
          intro hg44
          refine RL.gskip rfl rfl rfl rfl ?_
          refine RL.gskip rfl rfl rfl rfl ?_
          refine RL.gskip rfl rfl rfl rfl ?_
          refine RL.q (by first | exact Yld.pickT rfl rfl | exact Yld.pickF rfl rfl) rfl ?_
          exact RL.nil (N.meet (.cons rfl (.cons rfl (.cons rfl (.cons rfl (.cons rfl (.cons rfl (.cons rfl (.cons rfl (.cons rfl (.cons rfl (.cons rfl (.cons rfl (.cons rfl (.cons rfl (.cons rfl .nil))))))))))))))) (.cons rfl (.cons rfl (.cons rfl (.cons rfl (.cons rfl (.cons rfl .nil)))))))
        refine RL.q (Yld.assign rfl) rfl ?_
        refine RL.nil ?_
        refine N.next ?_
        refine W.keep (.cons (k := 2) rfl (.cons (k := 4) rfl (.cons (k := 9) rfl (.cons (k := 11) rfl (.cons (k := 12) rfl (.cons (k := 13) rfl (.cons (k := 14) rfl (.cons (k := 40) rfl .nil)))))))) (.cons (k := 0) rfl (.cons (k := 1) rfl (.cons (k := 104) rfl (.cons (k := 105) rfl (.cons (k := 109) rfl (.cons (k := 111) rfl .nil)))))) ?_
        first | refine W.condD rfl (fun hc40 => ?_) (fun hc40 => ?_) | (refine W.cond rfl (fun hc40 => ?_) (fun hc40 => ?_) <;> try simp only [Bool.or_eq_true, Bool.and_eq_true, Bool.not_eq_true', Bool.not_eq_false', decide_eq_true_eq, Bool.or_eq_false_iff, Bool.and_eq_false_iff, decide_eq_false_iff_not, beq_iff_eq, beq_eq_false_iff_ne, ne_eq, Decidable.not_not] at hc40)
        ·
          refine W.region ?_
          refine RL.q (Yld.move rfl) rfl ?_
          refine RL.q (Yld.bin rfl rfl (BinV.addS (by (try simp only [ByteArray.size_append, lit_size, List.size_toArray, List.length_cons, List.length_nil]); omega))) rfl ?_
          refine RL.q (Yld.assign rfl) rfl ?_
          refine RL.nil ?_
          refine N.block_normal ?_
          exact N.famK () trivial (.as rfl (by show Value.string _ = Value.string _; unfold w0; rw [if_neg hc34, if_pos hc40]; try rfl) .nil) (.cons rfl (.cons rfl (.cons rfl (.cons rfl (.cons rfl (.cons rfl .nil)))))) .nil (.cons rfl (.cons rfl (.cons rfl (.cons rfl (.cons rfl (.cons rfl .nil))))))
        ·
          refine W.seq ?_
          refine W.region ?_
          refine RL.q (Yld.fieldAddr fo44_0 rfl) rfl ?_
          refine RL.q (Yld.load1 (c := 109) Tryd.underlying3 rfl rfl rfl (by first | exact single_self _ _ | exact pset_self _ _ _ | assumption) rfl) rfl ?_
          refine RL.q (Yld.bin rfl rfl BinV.eql) rfl ?_
          refine RL.q (Yld.move rfl) rfl ?_
          refine' RL.and (t := 55) (d := 59) 4 rfl (.cons (k := 2) rfl (.cons (k := 4) rfl (.cons (k := 9) rfl (.cons (k := 11) rfl (.cons (k := 12) rfl (.cons (k := 13) rfl (.cons (k := 14) rfl (.cons (k := 40) rfl (.cons (k := 52) rfl (.cons (k := 53) rfl (.cons (k := 54) rfl .nil))))))))))) (.cons (k := 0) rfl (.cons (k := 1) rfl (.cons (k := 104) rfl (.cons (k := 105) rfl (.cons (k := 109) rfl (.cons (k := 111) rfl .nil)))))) ?_ ?_ ?_
          rotate_left 1
          ·
            intro hg55
            refine RL.gq rfl rfl (Yld.fieldAddr fo44_3 rfl) rfl ?_
            refine RL.gq rfl rfl (Yld.load1 (c := 109) Tryd.underlying3 rfl rfl rfl (by first | exact single_self _ _ | exact pset_self _ _ _ | assumption) rfl) rfl ?_
            refine RL.gq rfl rfl (Yld.bin rfl rfl BinV.eql) rfl ?_
            refine RL.q (by first | exact Yld.pickT rfl rfl | exact Yld.pickF rfl rfl) rfl ?_
            exact RL.nil (N.meet (.cons rfl (.cons rfl (.cons rfl (.cons rfl (.cons rfl (.cons rfl (.cons rfl (.cons rfl (.cons rfl (.cons rfl (.cons rfl (.cons rfl .nil)))))))))))) (.cons rfl (.cons rfl (.cons rfl (.cons rfl (.cons rfl (.cons rfl .nil)))))))
          ·
            intro hg55
            refine RL.gskip rfl rfl rfl rfl ?_
            refine RL.gskip rfl rfl rfl rfl ?_
            refine RL.gskip rfl rfl rfl rfl ?_
            refine RL.q (by first | exact Yld.pickT rfl rfl | exact Yld.pickF rfl rfl) rfl ?_
            exact RL.nil (N.meet (.cons rfl (.cons rfl (.cons rfl (.cons rfl (.cons rfl (.cons rfl (.cons rfl (.cons rfl (.cons rfl (.cons rfl (.cons rfl (.cons rfl .nil)))))))))))) (.cons rfl (.cons rfl (.cons rfl (.cons rfl (.cons rfl (.cons rfl .nil)))))))
          refine RL.q (Yld.assign rfl) rfl ?_
          refine RL.nil ?_
          refine N.next ?_
          refine W.keep (.cons (k := 2) rfl (.cons (k := 4) rfl (.cons (k := 9) rfl (.cons (k := 11) rfl (.cons (k := 12) rfl (.cons (k := 13) rfl (.cons (k := 14) rfl (.cons (k := 51) rfl .nil)))))))) (.cons (k := 0) rfl (.cons (k := 1) rfl (.cons (k := 104) rfl (.cons (k := 105) rfl (.cons (k := 109) rfl (.cons (k := 111) rfl .nil)))))) ?_
          first | refine W.condD rfl (fun hc51 => ?_) (fun hc51 => ?_) | (refine W.cond rfl (fun hc51 => ?_) (fun hc51 => ?_) <;> try simp only [Bool.or_eq_true, Bool.and_eq_true, Bool.not_eq_true', Bool.not_eq_false', decide_eq_true_eq, Bool.or_eq_false_iff, Bool.and_eq_false_iff, decide_eq_false_iff_not, beq_iff_eq, beq_eq_false_iff_ne, ne_eq, Decidable.not_not] at hc51)
          ·
            refine W.region ?_
            refine RL.q (Yld.move rfl) rfl ?_
            refine RL.q (Yld.bin rfl rfl (BinV.addS (by (try simp only [ByteArray.size_append, lit_size, List.size_toArray, List.length_cons, List.length_nil]); omega))) rfl ?_
            refine RL.q (Yld.assign rfl) rfl ?_
            refine RL.nil ?_
            refine N.block_normal ?_
            exact N.famK () trivial (.as rfl (by show Value.string _ = Value.string _; unfold w0; rw [if_neg hc34, if_neg (show ¬ (a.k = 1 ∧ a.c = 0) by omega), if_pos hc51]; try rfl) .nil) (.cons rfl (.cons rfl (.cons rfl (.cons rfl (.cons rfl (.cons rfl .nil)))))) .nil (.cons rfl (.cons rfl (.cons rfl (.cons rfl (.cons rfl (.cons rfl .nil))))))
          ·
            refine W.skip ?_
            refine N.block_normal ?_
            exact N.famK () trivial (.as rfl (by show Value.string _ = Value.string _; unfold w0; rw [if_neg hc34, if_neg (show ¬ (a.k = 1 ∧ a.c = 0) by omega), if_neg (show ¬ (a.k = 1 ∧ a.c = 1) by omega)]; try rfl) .nil) (.cons rfl (.cons rfl (.cons rfl (.cons rfl (.cons rfl (.cons rfl .nil)))))) .nil (.cons rfl (.cons rfl (.cons rfl (.cons rfl (.cons rfl (.cons rfl .nil))))))
    rintro u _
    refine W.keep (.cons (k := 14) rfl (.cons (k := 2) rfl (.cons (k := 4) rfl (.cons (k := 9) rfl (.cons (k := 11) rfl (.cons (k := 12) rfl (.cons (k := 13) rfl .nil))))))) (.cons (k := 0) rfl (.cons (k := 1) rfl (.cons (k := 104) rfl (.cons (k := 105) rfl (.cons (k := 109) rfl (.cons (k := 111) rfl .nil)))))) ?_
    refine W.cutK (ι := Unit) (fun u => (¬ ((wordsV a (nmAt m a)).2 = true ∧ knB m a = false))) (fun u => [(14, .string (wordsV a (nmAt m a)).1)]) (fun u => []) (.cons (k := 2) rfl (.cons (k := 4) rfl (.cons (k := 11) rfl .nil))) (.cons (k := 0) rfl (.cons (k := 1) rfl (.cons (k := 104) rfl (.cons (k := 105) rfl (.cons (k := 109) rfl (.cons (k := 111) rfl .nil)))))) ?_ ?_
    ·
      refine W.seq ?_
      refine W.region ?_
      refine RL.q (Yld.move rfl) rfl ?_
      refine RL.q (Yld.bin rfl rfl BinV.eqlS) rfl ?_
      refine RL.nil ?_
      refine N.next ?_
      first | refine W.condD rfl (fun hc63 => ?_) (fun hc63 => ?_) | (refine W.cond rfl (fun hc63 => ?_) (fun hc63 => ?_) <;> try simp only [Bool.or_eq_true, Bool.and_eq_true, Bool.not_eq_true', Bool.not_eq_false', decide_eq_true_eq, Bool.or_eq_false_iff, Bool.and_eq_false_iff, decide_eq_false_iff_not, beq_iff_eq, beq_eq_false_iff_ne, ne_eq, Decidable.not_not] at hc63)
      ·
        refine W.seq ?_
        refine W.seq ?_
        refine W.region ?_
        refine RL.q (Yld.move rfl) rfl ?_
        refine RL.q (Yld.bin rfl rfl BinV.lss) rfl ?_
        refine RL.q (Yld.move rfl) rfl ?_
        refine' RL.or (t := 66) (d := 72) 6 rfl (.cons (k := 2) rfl (.cons (k := 4) rfl (.cons (k := 9) rfl (.cons (k := 11) rfl (.cons (k := 12) rfl (.cons (k := 13) rfl (.cons (k := 14) rfl (.cons (k := 62) rfl (.cons (k := 63) rfl (.cons (k := 64) rfl (.cons (k := 65) rfl .nil))))))))))) (.cons (k := 0) rfl (.cons (k := 1) rfl (.cons (k := 104) rfl (.cons (k := 105) rfl (.cons (k := 109) rfl (.cons (k := 111) rfl .nil)))))) ?_ ?_ ?_
        rotate_left 1
        ·
          intro hg66
          refine RL.gq rfl rfl (Yld.move rfl) rfl ?_
          refine RL.gq rfl rfl (Yld.fieldAddr fo29_3 rfl) rfl ?_
          refine RL.gq rfl rfl (Yld.load1 (c := 104) Tryd.underlying24 rfl rfl rfl (by first | exact single_self _ _ | exact pset_self _ _ _ | assumption) rfl) rfl ?_
          refine RL.gq rfl rfl (Yld.lenSl Tryd.underlying24 rfl) rfl ?_
          refine RL.gq rfl rfl (Yld.bin rfl rfl BinV.gtr) rfl ?_
          refine RL.q (by first | exact Yld.pickT rfl rfl | exact Yld.pickF rfl rfl) rfl ?_
          exact RL.nil (N.meet (.cons rfl (.cons rfl (.cons rfl (.cons rfl (.cons rfl (.cons rfl (.cons rfl (.cons rfl (.cons rfl (.cons rfl (.cons rfl (.cons rfl .nil)))))))))))) (.cons rfl (.cons rfl (.cons rfl (.cons rfl (.cons rfl (.cons rfl .nil)))))))
        ·
          intro hg66
          refine RL.gskip rfl rfl rfl rfl ?_
          refine RL.gskip rfl rfl rfl rfl ?_
          refine RL.gskip rfl rfl rfl rfl ?_
          refine RL.gskip rfl rfl rfl rfl ?_
          refine RL.gskip rfl rfl rfl rfl ?_
          refine RL.q (by first | exact Yld.pickT rfl rfl | exact Yld.pickF rfl rfl) rfl ?_
          exact RL.nil (N.meet (.cons rfl (.cons rfl (.cons rfl (.cons rfl (.cons rfl (.cons rfl (.cons rfl (.cons rfl (.cons rfl (.cons rfl (.cons rfl (.cons rfl .nil)))))))))))) (.cons rfl (.cons rfl (.cons rfl (.cons rfl (.cons rfl (.cons rfl .nil)))))))
        refine RL.nil ?_
        refine N.next ?_
        refine W.keep (.cons (k := 2) rfl (.cons (k := 4) rfl (.cons (k := 9) rfl (.cons (k := 11) rfl (.cons (k := 12) rfl (.cons (k := 13) rfl (.cons (k := 72) rfl .nil))))))) (.cons (k := 0) rfl (.cons (k := 1) rfl (.cons (k := 104) rfl (.cons (k := 105) rfl (.cons (k := 109) rfl (.cons (k := 111) rfl .nil)))))) ?_
        first | refine W.condD rfl (fun hc72 => ?_) (fun hc72 => ?_) | (refine W.cond rfl (fun hc72 => ?_) (fun hc72 => ?_) <;> try simp only [Bool.or_eq_true, Bool.and_eq_true, Bool.not_eq_true', Bool.not_eq_false', decide_eq_true_eq, Bool.or_eq_false_iff, Bool.and_eq_false_iff, decide_eq_false_iff_not, beq_iff_eq, beq_eq_false_iff_ne, ne_eq, Decidable.not_not] at hc72)
        ·
          have hkn : knB m a = false := by unfold knB; rw [Bool.and_eq_false_iff, decide_eq_false_iff_not, decide_eq_false_iff_not]; omega
          refine W.seq ?_
          refine W.region ?_
          refine RL.q (Yld.assign rfl) rfl ?_
          refine RL.nil ?_
          refine N.next ?_
          refine W.keep (.cons (k := 8) rfl .nil) (.cons (k := 0) rfl (.cons (k := 1) rfl (.cons (k := 104) rfl (.cons (k := 105) rfl (.cons (k := 109) rfl (.cons (k := 111) rfl .nil)))))) ?_
          refine W.ret ?_
          refine N.then_ret ?_
          refine N.then_ret ?_
          exact N.retBy [1] (.cons (.tmp rfl) .nil) rfl rfl rfl rfl ⟨_, rfl, ⟨a, true, hR, .inr ⟨rfl, .inl ⟨words_two _ hc63, hkn, rfl⟩⟩⟩, rfl⟩
        ·
          have hm1 : 1 ≤ a.m := by omega
          have hm2 : a.m ≤ m.ms.length := by omega
          have hkn : knB m a = true := by unfold knB; rw [decide_eq_true hm1, decide_eq_true hm2]; rfl
          obtain ⟨ym, hlm, hym⟩ := mc_row hm1 hm2
          have hnm : nmAt m a = ym.nm := by unfold nmAt; rw [if_pos ⟨hm1, hm2⟩, hym]; rfl
          have hnz2 : ym.nm.size ≤ 1000 := by rw [← hnm]; exact hnz
          refine W.skip ?_
          refine N.next ?_
          refine W.seq ?_
          refine W.region ?_
          refine RL.q (Yld.fieldAddr fo29_3 rfl) rfl ?_
          refine RL.q (Yld.load1 (c := 104) Tryd.underlying24 rfl rfl rfl (by first | exact single_self _ _ | exact pset_self _ _ _ | assumption) rfl) rfl ?_
          refine RL.q (Yld.move rfl) rfl ?_
          refine RL.q (Yld.bin rfl rfl (by first | exact BinV.sub (by omega) (by omega) | exact BinV.subW)) rfl ?_
          refine RL.q (Yld.indexRow Tryd.underlying24 sz99 rfl rfl (by first | assumption | exact Own.sl (by assumption)) (by first | rfl | omega | (simp; done) | (simp; omega)) (by omega) (by first | omega | (simp; done) | (simp; omega))) rfl ?_
          refine RL.q (Yld.fieldAddr fo99_0 rfl) rfl ?_
          refine RL.q (by first | exact (by first | exact Yld.loadRow1 (cl := 1) Tryd.underlying9 rfl rfl rfl (by first | assumption | exact Own.sl (by assumption)) (by assumption) | exact Yld.loadRow1 (cl := 104) Tryd.underlying9 rfl rfl rfl (by first | assumption | exact Own.sl (by assumption)) (by assumption) | exact Yld.loadRow1 (cl := 105) Tryd.underlying9 rfl rfl rfl (by first | assumption | exact Own.sl (by assumption)) (by assumption) | exact Yld.loadRow1 (cl := 109) Tryd.underlying9 rfl rfl rfl (by first | assumption | exact Own.sl (by assumption)) (by assumption) | exact Yld.loadRow1 (cl := 111) Tryd.underlying9 rfl rfl rfl (by first | assumption | exact Own.sl (by assumption)) (by assumption)) | exact (by first | exact Yld.loadRowF (cl := 1) (j := 0) Tryd.underlying9 rfl rfl rfl (by first | assumption | exact Own.sl (by assumption)) (by assumption) rfl | exact Yld.loadRowF (cl := 104) (j := 0) Tryd.underlying9 rfl rfl rfl (by first | assumption | exact Own.sl (by assumption)) (by assumption) rfl | exact Yld.loadRowF (cl := 105) (j := 0) Tryd.underlying9 rfl rfl rfl (by first | assumption | exact Own.sl (by assumption)) (by assumption) rfl | exact Yld.loadRowF (cl := 109) (j := 0) Tryd.underlying9 rfl rfl rfl (by first | assumption | exact Own.sl (by assumption)) (by assumption) rfl | exact Yld.loadRowF (cl := 111) (j := 0) Tryd.underlying9 rfl rfl rfl (by first | assumption | exact Own.sl (by assumption)) (by assumption) rfl)) rfl ?_
          refine RL.q (Yld.assign rfl) rfl ?_
          refine RL.nil ?_
          refine N.next ?_
          refine W.keep (.cons (k := 2) rfl (.cons (k := 4) rfl (.cons (k := 9) rfl (.cons (k := 11) rfl (.cons (k := 12) rfl (.cons (k := 15) rfl .nil)))))) (.cons (k := 0) rfl (.cons (k := 1) rfl (.cons (k := 104) rfl (.cons (k := 105) rfl (.cons (k := 109) rfl (.cons (k := 111) rfl .nil)))))) ?_
          refine W.block ?_
          refine W.seq ?_
          refine W.region ?_
          refine RL.q (Yld.fieldAddr fo44_0 rfl) rfl ?_
          refine RL.q (Yld.load1 (c := 109) Tryd.underlying3 rfl rfl rfl (by first | exact single_self _ _ | exact pset_self _ _ _ | assumption) rfl) rfl ?_
          refine RL.q (Yld.bin rfl rfl BinV.eql) rfl ?_
          refine RL.q (Yld.assign rfl) rfl ?_
          refine RL.nil ?_
          refine N.next ?_
          first | refine W.condD rfl (fun hc82 => ?_) (fun hc82 => ?_) | (refine W.cond rfl (fun hc82 => ?_) (fun hc82 => ?_) <;> try simp only [Bool.or_eq_true, Bool.and_eq_true, Bool.not_eq_true', Bool.not_eq_false', decide_eq_true_eq, Bool.or_eq_false_iff, Bool.and_eq_false_iff, decide_eq_false_iff_not, beq_iff_eq, beq_eq_false_iff_ne, ne_eq, Decidable.not_not] at hc82)
          ·
            refine W.region ?_
            refine RL.q (Yld.move rfl) rfl ?_
            refine RL.q (Yld.bin rfl rfl (BinV.addS (by (try simp only [ByteArray.size_append, lit_size, List.size_toArray, List.length_cons, List.length_nil]); omega))) rfl ?_
            refine RL.q (Yld.bin rfl rfl (BinV.addS (by (try simp only [ByteArray.size_append, lit_size, List.size_toArray, List.length_cons, List.length_nil]); omega))) rfl ?_
            refine RL.q (Yld.move rfl) rfl ?_
            refine RL.q (Yld.bin rfl rfl (BinV.addS (by (try simp only [ByteArray.size_append, lit_size, List.size_toArray, List.length_cons, List.length_nil]); omega))) rfl ?_
            refine RL.q (Yld.assign rfl) rfl ?_
            refine RL.nil ?_
            refine N.block_normal ?_
            exact N.famK () (fun (h : (wordsV a (nmAt m a)).2 = true ∧ knB m a = false) => by rw [hkn] at h; cases h.2) (.as rfl (by show Value.string _ = Value.string _; rw [words_k1 _ hc63 hc82]; try rw [hnm]) .nil) (.cons rfl (.cons rfl (.cons rfl .nil))) .nil (.cons rfl (.cons rfl (.cons rfl (.cons rfl (.cons rfl (.cons rfl .nil))))))
          ·
            refine W.seq ?_
            refine W.region ?_
            refine RL.q (Yld.fieldAddr fo44_5 rfl) rfl ?_
            refine RL.q (Yld.fieldAddr fo42_0 rfl) rfl ?_
            refine RL.q (Yld.load1 (c := 109) Tryd.underlying3 rfl rfl rfl (by first | exact single_self _ _ | exact pset_self _ _ _ | assumption) rfl) rfl ?_
            refine RL.q (Yld.bin rfl rfl BinV.eql) rfl ?_
            refine RL.q (Yld.assign rfl) rfl ?_
            refine RL.nil ?_
            refine N.next ?_
            refine W.keep (.cons (k := 2) rfl (.cons (k := 4) rfl (.cons (k := 9) rfl (.cons (k := 11) rfl (.cons (k := 12) rfl (.cons (k := 15) rfl (.cons (k := 91) rfl .nil))))))) (.cons (k := 0) rfl (.cons (k := 1) rfl (.cons (k := 104) rfl (.cons (k := 105) rfl (.cons (k := 109) rfl (.cons (k := 111) rfl .nil)))))) ?_
            first | refine W.condD rfl (fun hc91 => ?_) (fun hc91 => ?_) | (refine W.cond rfl (fun hc91 => ?_) (fun hc91 => ?_) <;> try simp only [Bool.or_eq_true, Bool.and_eq_true, Bool.not_eq_true', Bool.not_eq_false', decide_eq_true_eq, Bool.or_eq_false_iff, Bool.and_eq_false_iff, decide_eq_false_iff_not, beq_iff_eq, beq_eq_false_iff_ne, ne_eq, Decidable.not_not] at hc91)
            ·
              refine W.region ?_
              refine RL.q (Yld.move rfl) rfl ?_
              refine RL.q (Yld.bin rfl rfl (BinV.addS (by (try simp only [ByteArray.size_append, lit_size, List.size_toArray, List.length_cons, List.length_nil]); omega))) rfl ?_
              refine RL.q (Yld.bin rfl rfl (BinV.addS (by (try simp only [ByteArray.size_append, lit_size, List.size_toArray, List.length_cons, List.length_nil]); omega))) rfl ?_
              refine RL.q (Yld.move rfl) rfl ?_
              refine RL.q (Yld.bin rfl rfl (BinV.addS (by (try simp only [ByteArray.size_append, lit_size, List.size_toArray, List.length_cons, List.length_nil]); omega))) rfl ?_
              refine RL.q (Yld.assign rfl) rfl ?_
              refine RL.nil ?_
              refine N.block_normal ?_
              exact N.famK () (fun (h : (wordsV a (nmAt m a)).2 = true ∧ knB m a = false) => by rw [hkn] at h; cases h.2) (.as rfl (by show Value.string _ = Value.string _; rw [words_u0 _ hc63 hc82 hc91]; try rw [hnm]) .nil) (.cons rfl (.cons rfl (.cons rfl .nil))) .nil (.cons rfl (.cons rfl (.cons rfl (.cons rfl (.cons rfl (.cons rfl .nil))))))
            ·
              refine W.seq ?_
              refine W.region ?_
              refine RL.q (Yld.fieldAddr fo44_5 rfl) rfl ?_
              refine RL.q (Yld.fieldAddr fo42_0 rfl) rfl ?_
              refine RL.q (Yld.load1 (c := 109) Tryd.underlying3 rfl rfl rfl (by first | exact single_self _ _ | exact pset_self _ _ _ | assumption) rfl) rfl ?_
              refine RL.q (Yld.bin rfl rfl BinV.eql) rfl ?_
              refine RL.q (Yld.assign rfl) rfl ?_
              refine RL.nil ?_
              refine N.next ?_
              refine W.keep (.cons (k := 2) rfl (.cons (k := 4) rfl (.cons (k := 9) rfl (.cons (k := 11) rfl (.cons (k := 15) rfl (.cons (k := 101) rfl .nil)))))) (.cons (k := 0) rfl (.cons (k := 1) rfl (.cons (k := 104) rfl (.cons (k := 105) rfl (.cons (k := 109) rfl (.cons (k := 111) rfl .nil)))))) ?_
              first | refine W.condD rfl (fun hc101 => ?_) (fun hc101 => ?_) | (refine W.cond rfl (fun hc101 => ?_) (fun hc101 => ?_) <;> try simp only [Bool.or_eq_true, Bool.and_eq_true, Bool.not_eq_true', Bool.not_eq_false', decide_eq_true_eq, Bool.or_eq_false_iff, Bool.and_eq_false_iff, decide_eq_false_iff_not, beq_iff_eq, beq_eq_false_iff_ne, ne_eq, Decidable.not_not] at hc101)
              ·
                refine W.region ?_
                refine RL.q (Yld.move rfl) rfl ?_
                refine RL.q (Yld.bin rfl rfl (BinV.addS (by (try simp only [ByteArray.size_append, lit_size, List.size_toArray, List.length_cons, List.length_nil]); omega))) rfl ?_
                refine RL.q (Yld.assign rfl) rfl ?_
                refine RL.nil ?_
                refine N.block_normal ?_
                exact N.famK () (fun (h : (wordsV a (nmAt m a)).2 = true ∧ knB m a = false) => by rw [hkn] at h; cases h.2) (.as rfl (by show Value.string _ = Value.string _; rw [words_u _ hc63 hc82 hc91 (x := (⟨#[99, 108, 111, 115, 101, 32, 111, 110, 32]⟩ : ByteArray)) (by rw [hc101]; first | rfl | decide +kernel)]; try rw [hnm]) .nil) (.cons rfl (.cons rfl (.cons rfl .nil))) .nil (.cons rfl (.cons rfl (.cons rfl (.cons rfl (.cons rfl (.cons rfl .nil))))))
              ·
                refine W.seq ?_
                refine W.region ?_
                refine RL.q (Yld.fieldAddr fo44_5 rfl) rfl ?_
                refine RL.q (Yld.fieldAddr fo42_0 rfl) rfl ?_
                refine RL.q (Yld.load1 (c := 109) Tryd.underlying3 rfl rfl rfl (by first | exact single_self _ _ | exact pset_self _ _ _ | assumption) rfl) rfl ?_
                refine RL.q (Yld.bin rfl rfl BinV.eql) rfl ?_
                refine RL.q (Yld.assign rfl) rfl ?_
                refine RL.nil ?_
                refine N.next ?_
                refine W.keep (.cons (k := 2) rfl (.cons (k := 4) rfl (.cons (k := 9) rfl (.cons (k := 11) rfl (.cons (k := 15) rfl (.cons (k := 108) rfl .nil)))))) (.cons (k := 0) rfl (.cons (k := 1) rfl (.cons (k := 104) rfl (.cons (k := 105) rfl (.cons (k := 109) rfl (.cons (k := 111) rfl .nil)))))) ?_
                first | refine W.condD rfl (fun hc108 => ?_) (fun hc108 => ?_) | (refine W.cond rfl (fun hc108 => ?_) (fun hc108 => ?_) <;> try simp only [Bool.or_eq_true, Bool.and_eq_true, Bool.not_eq_true', Bool.not_eq_false', decide_eq_true_eq, Bool.or_eq_false_iff, Bool.and_eq_false_iff, decide_eq_false_iff_not, beq_iff_eq, beq_eq_false_iff_ne, ne_eq, Decidable.not_not] at hc108)
                ·
                  refine W.region ?_
                  refine RL.q (Yld.move rfl) rfl ?_
                  refine RL.q (Yld.bin rfl rfl (BinV.addS (by (try simp only [ByteArray.size_append, lit_size, List.size_toArray, List.length_cons, List.length_nil]); omega))) rfl ?_
                  refine RL.q (Yld.assign rfl) rfl ?_
                  refine RL.nil ?_
                  refine N.block_normal ?_
                  exact N.famK () (fun (h : (wordsV a (nmAt m a)).2 = true ∧ knB m a = false) => by rw [hkn] at h; cases h.2) (.as rfl (by show Value.string _ = Value.string _; rw [words_u _ hc63 hc82 hc91 (x := (⟨#[115, 116, 97, 114, 116, 32, 111, 110, 32]⟩ : ByteArray)) (by rw [hc108]; first | rfl | decide +kernel)]; try rw [hnm]) .nil) (.cons rfl (.cons rfl (.cons rfl .nil))) .nil (.cons rfl (.cons rfl (.cons rfl (.cons rfl (.cons rfl (.cons rfl .nil))))))
                ·
                  refine W.seq ?_
                  refine W.region ?_
                  refine RL.q (Yld.fieldAddr fo44_5 rfl) rfl ?_
                  refine RL.q (Yld.fieldAddr fo42_0 rfl) rfl ?_
                  refine RL.q (Yld.load1 (c := 109) Tryd.underlying3 rfl rfl rfl (by first | exact single_self _ _ | exact pset_self _ _ _ | assumption) rfl) rfl ?_
                  refine RL.q (Yld.bin rfl rfl BinV.eql) rfl ?_
                  refine RL.q (Yld.assign rfl) rfl ?_
                  refine RL.nil ?_
                  refine N.next ?_
                  refine W.keep (.cons (k := 2) rfl (.cons (k := 4) rfl (.cons (k := 9) rfl (.cons (k := 11) rfl (.cons (k := 15) rfl (.cons (k := 115) rfl .nil)))))) (.cons (k := 0) rfl (.cons (k := 1) rfl (.cons (k := 104) rfl (.cons (k := 105) rfl (.cons (k := 109) rfl (.cons (k := 111) rfl .nil)))))) ?_
                  first | refine W.condD rfl (fun hc115 => ?_) (fun hc115 => ?_) | (refine W.cond rfl (fun hc115 => ?_) (fun hc115 => ?_) <;> try simp only [Bool.or_eq_true, Bool.and_eq_true, Bool.not_eq_true', Bool.not_eq_false', decide_eq_true_eq, Bool.or_eq_false_iff, Bool.and_eq_false_iff, decide_eq_false_iff_not, beq_iff_eq, beq_eq_false_iff_ne, ne_eq, Decidable.not_not] at hc115)
                  ·
                    refine W.region ?_
                    refine RL.q (Yld.move rfl) rfl ?_
                    refine RL.q (Yld.bin rfl rfl (BinV.addS (by (try simp only [ByteArray.size_append, lit_size, List.size_toArray, List.length_cons, List.length_nil]); omega))) rfl ?_
                    refine RL.q (Yld.assign rfl) rfl ?_
                    refine RL.nil ?_
                    refine N.block_normal ?_
                    exact N.famK () (fun (h : (wordsV a (nmAt m a)).2 = true ∧ knB m a = false) => by rw [hkn] at h; cases h.2) (.as rfl (by show Value.string _ = Value.string _; rw [words_u _ hc63 hc82 hc91 (x := (⟨#[100, 114, 97, 105, 110, 32, 111, 110, 32]⟩ : ByteArray)) (by rw [hc115]; first | rfl | decide +kernel)]; try rw [hnm]) .nil) (.cons rfl (.cons rfl (.cons rfl .nil))) .nil (.cons rfl (.cons rfl (.cons rfl (.cons rfl (.cons rfl (.cons rfl .nil))))))
                  ·
                    refine W.seq ?_
                    refine W.region ?_
                    refine RL.q (Yld.fieldAddr fo44_5 rfl) rfl ?_
                    refine RL.q (Yld.fieldAddr fo42_0 rfl) rfl ?_
                    refine RL.q (Yld.load1 (c := 109) Tryd.underlying3 rfl rfl rfl (by first | exact single_self _ _ | exact pset_self _ _ _ | assumption) rfl) rfl ?_
                    refine RL.q (Yld.bin rfl rfl BinV.eql) rfl ?_
                    refine RL.q (Yld.assign rfl) rfl ?_
                    refine RL.nil ?_
                    refine N.next ?_
                    refine W.keep (.cons (k := 2) rfl (.cons (k := 4) rfl (.cons (k := 11) rfl (.cons (k := 15) rfl (.cons (k := 122) rfl .nil))))) (.cons (k := 0) rfl (.cons (k := 1) rfl (.cons (k := 104) rfl (.cons (k := 105) rfl (.cons (k := 109) rfl (.cons (k := 111) rfl .nil)))))) ?_
                    first | refine W.condD rfl (fun hc122 => ?_) (fun hc122 => ?_) | (refine W.cond rfl (fun hc122 => ?_) (fun hc122 => ?_) <;> try simp only [Bool.or_eq_true, Bool.and_eq_true, Bool.not_eq_true', Bool.not_eq_false', decide_eq_true_eq, Bool.or_eq_false_iff, Bool.and_eq_false_iff, decide_eq_false_iff_not, beq_iff_eq, beq_eq_false_iff_ne, ne_eq, Decidable.not_not] at hc122)
                    ·
                      refine W.region ?_
                      refine RL.q (Yld.move rfl) rfl ?_
                      refine RL.q (Yld.bin rfl rfl (BinV.addS (by (try simp only [ByteArray.size_append, lit_size, List.size_toArray, List.length_cons, List.length_nil]); omega))) rfl ?_
                      refine RL.q (Yld.assign rfl) rfl ?_
                      refine RL.nil ?_
                      refine N.block_normal ?_
                      exact N.famK () (fun (h : (wordsV a (nmAt m a)).2 = true ∧ knB m a = false) => by rw [hkn] at h; cases h.2) (.as rfl (by show Value.string _ = Value.string _; rw [words_u _ hc63 hc82 hc91 (x := (⟨#[112, 97, 117, 115, 101, 32, 111, 110, 32]⟩ : ByteArray)) (by rw [hc122]; first | rfl | decide +kernel)]; try rw [hnm]) .nil) (.cons rfl (.cons rfl (.cons rfl .nil))) .nil (.cons rfl (.cons rfl (.cons rfl (.cons rfl (.cons rfl (.cons rfl .nil))))))
                    ·
                      refine W.region ?_
                      refine RL.q (Yld.move rfl) rfl ?_
                      refine RL.q (Yld.bin rfl rfl (BinV.addS (by (try simp only [ByteArray.size_append, lit_size, List.size_toArray, List.length_cons, List.length_nil]); omega))) rfl ?_
                      refine RL.q (Yld.assign rfl) rfl ?_
                      refine RL.nil ?_
                      refine N.block_normal ?_
                      exact N.famK () (fun (h : (wordsV a (nmAt m a)).2 = true ∧ knB m a = false) => by rw [hkn] at h; cases h.2) (.as rfl (by show Value.string _ = Value.string _; rw [words_u _ hc63 hc82 hc91 (x := (⟨#[115, 116, 111, 112, 32, 111, 110, 32]⟩ : ByteArray)) (by rw [show a.uk = 5 by omega]; first | rfl | decide +kernel)]; try rw [hnm]) .nil) (.cons rfl (.cons rfl (.cons rfl .nil))) .nil (.cons rfl (.cons rfl (.cons rfl (.cons rfl (.cons rfl (.cons rfl .nil))))))
      ·
        refine W.skip ?_
        exact N.famK () (fun (h : (wordsV a (nmAt m a)).2 = true ∧ knB m a = false) => by rw [w0_words _ hc63] at h; cases h.1) (.as rfl (by rw [w0_words _ hc63]) .nil) (.cons rfl (.cons rfl (.cons rfl .nil))) .nil (.cons rfl (.cons rfl (.cons rfl (.cons rfl (.cons rfl (.cons rfl .nil))))))
    rintro u hkw
    refine W.keep (.cons (k := 14) rfl (.cons (k := 2) rfl (.cons (k := 4) rfl (.cons (k := 11) rfl .nil)))) (.cons (k := 0) rfl (.cons (k := 1) rfl (.cons (k := 104) rfl (.cons (k := 105) rfl (.cons (k := 109) rfl (.cons (k := 111) rfl .nil)))))) ?_
    refine W.seq ?_
    refine W.draw (.q 0 (.q 3 (.q 4 (.q 5 (.q 6 (.q 7 (.q 8 (.q 9 (.q 10 (.q 13 (.one 1 (.q 2 (.q 11 (.q 12 (.q 14 (.q 15 .done)))))))))))))))) (.cons (k := 0) rfl (.cons (k := 1) rfl (.cons (k := 104) rfl (.cons (k := 105) rfl (.cons (k := 109) rfl (.cons (k := 111) rfl .nil)))))) mix (by kernel_rfl) (by kernel_rfl) ?_
    refine DL.q rfl (Yld.move rfl) rfl ?_
    refine DL.q rfl (Yld.fieldAddr fo29_5 rfl) rfl ?_
    refine DL.q rfl (Yld.load1 (c := 104) Tryd.underlying26 rfl rfl rfl (by first | exact single_self _ _ | exact pset_self _ _ _ | assumption) rfl) rfl ?_
    refine DL.q rfl (Yld.fieldAddr fo84_0 rfl) rfl ?_
    refine DL.q rfl (Yld.load1 (c := 111) Tryd.underlying3 rfl rfl rfl (by first | exact single_self _ _ | exact pset_self _ _ _ | assumption) rfl) rfl ?_
    refine DL.q rfl (Yld.bin rfl rfl (by first | exact BinV.sub (by omega) (by omega) | exact BinV.subW)) rfl ?_
    refine DL.q rfl (Yld.indexRow Tryd.underlying26 sz90 rfl rfl (by first | assumption | exact Own.sl (by assumption)) (by first | rfl | omega | (simp; done) | (simp; omega)) (by omega) (by first | omega | (simp; done) | (simp; omega))) rfl ?_
    refine DL.q rfl (Yld.fieldAddr fo90_0 rfl) rfl ?_
    refine DL.q rfl (by first | exact (by first | exact Yld.loadRow1 (cl := 1) Tryd.underlying9 rfl rfl rfl (by first | assumption | exact Own.sl (by assumption)) (by assumption) | exact Yld.loadRow1 (cl := 104) Tryd.underlying9 rfl rfl rfl (by first | assumption | exact Own.sl (by assumption)) (by assumption) | exact Yld.loadRow1 (cl := 105) Tryd.underlying9 rfl rfl rfl (by first | assumption | exact Own.sl (by assumption)) (by assumption) | exact Yld.loadRow1 (cl := 109) Tryd.underlying9 rfl rfl rfl (by first | assumption | exact Own.sl (by assumption)) (by assumption) | exact Yld.loadRow1 (cl := 111) Tryd.underlying9 rfl rfl rfl (by first | assumption | exact Own.sl (by assumption)) (by assumption)) | exact (by first | exact Yld.loadRowF (cl := 1) (j := 0) Tryd.underlying9 rfl rfl rfl (by first | assumption | exact Own.sl (by assumption)) (by assumption) rfl | exact Yld.loadRowF (cl := 104) (j := 0) Tryd.underlying9 rfl rfl rfl (by first | assumption | exact Own.sl (by assumption)) (by assumption) rfl | exact Yld.loadRowF (cl := 105) (j := 0) Tryd.underlying9 rfl rfl rfl (by first | assumption | exact Own.sl (by assumption)) (by assumption) rfl | exact Yld.loadRowF (cl := 109) (j := 0) Tryd.underlying9 rfl rfl rfl (by first | assumption | exact Own.sl (by assumption)) (by assumption) rfl | exact Yld.loadRowF (cl := 111) (j := 0) Tryd.underlying9 rfl rfl rfl (by first | assumption | exact Own.sl (by assumption)) (by assumption) rfl)) rfl ?_
    refine DL.q rfl (Yld.move rfl) rfl ?_
    refine DL.one rfl (Eff.call ent42 [] [] (.cons rfl .nil) (num10_ct st (by omega) hst.2) rfl rfl rfl rfl (by rintro _ _ ⟨_, rfl⟩; rfl)) rfl (by rintro _ _ ⟨_, ⟨rfl, rfl⟩, rfl⟩; repeat (first | exact .nil | refine .cons rfl ?_)) ?_
    rintro _ _ ⟨_, ⟨rfl, rfl⟩, rfl⟩
    refine DL.q rfl (Yld.bin rfl rfl (BinV.addS (by (try simp only [ByteArray.size_append, lit_size, List.size_toArray, List.length_cons, List.length_nil]); omega))) rfl ?_
    refine DL.q rfl (Yld.bin rfl rfl (BinV.addS (by (try simp only [ByteArray.size_append, lit_size, List.size_toArray, List.length_cons, List.length_nil]); omega))) rfl ?_
    refine DL.q rfl (Yld.bin rfl rfl (BinV.addS (by (try simp only [ByteArray.size_append, lit_size, List.size_toArray, List.length_cons, List.length_nil]); omega))) rfl ?_
    refine DL.q rfl (Yld.bin rfl rfl (BinV.addS (by (try simp only [ByteArray.size_append, lit_size, List.size_toArray, List.length_cons, List.length_nil]); omega))) rfl ?_
    refine DL.q rfl (Yld.assign rfl) rfl ?_
    refine DL.done ?_
    refine N.next ?_
    refine W.keep (.cons (k := 8) rfl .nil) (.cons (k := 0) rfl (.cons (k := 1) rfl (.cons (k := 104) rfl (.cons (k := 105) rfl (.cons (k := 109) rfl (.cons (k := 111) rfl .nil)))))) ?_
    refine W.ret ?_
    exact N.retBy [1] (.cons (.tmp rfl) .nil) rfl rfl rfl rfl ⟨_, rfl, ⟨a, true, hR, .inr ⟨rfl, .inr ⟨hkw, t, yi, ht, hyi, rfl⟩⟩⟩, rfl⟩

end Go.Proofs.YtdblglgnhjankaaDoor
