/- Commits. Written by program (walk2.py). -/
import Derived.Test.YtdkefpnebmmhlaaP6
namespace Go.Proofs.Ytdkefpnebmmhlaa
open SL Cfg Rep
set_option linter.unusedVariables false
set_option linter.unusedSimpArgs false
theorem ent26 : Ent Try.prog 26 := ⟨_, _, Try.func26, by kernel_rfl, rfl⟩
theorem ent56 : Ent Try.prog 56 := ⟨_, _, Try.func56, by kernel_rfl, rfl⟩
theorem ent55 : Ent Try.prog 55 := ⟨_, _, Try.func55, by kernel_rfl, rfl⟩
theorem ent58 : Ent Try.prog 58 := ⟨_, _, Try.func58, by kernel_rfl, rfl⟩
set_option maxRecDepth 100000 in
set_option maxHeartbeats 400000 in
theorem commitC_ct (bp bm : Nat) (es : Array MapEntry) (ck : Nat) (m : List (Int × Value)) (ms : List Mb) (hM : MapP (fun a : Int => Value.int .i64 a) es ck m) (hR : MR m ms) (hK : MOK ms) (bq bn : Nat) (n z : Int) : Ct Try.prog 56 [.int .i64 z, .pointer (some ⟨bq, 0, none⟩), .pointer (some ⟨bn, 0, none⟩)] [single bq (.cells [.pointer (some ⟨bp, 0, none⟩)].toArray 26 (0, 0)), single bn (.cells [.int .i64 n].toArray 3 (0, 0)), single bp (.cells [.int .i64 1, .map (some bm)].toArray 90 (0, 0)), single bm (.map es ck)] (fun v Hs => v = .int .i64 (qf ms n z) ∧ Hs = [single bq (.cells [.pointer (some ⟨bp, 0, none⟩)].toArray 26 (0, 0)), single bn (.cells [.int .i64 n].toArray 3 (0, 0)), single bp (.cells [.int .i64 1, .map (some bm)].toArray 90 (0, 0)), single bm (.map es ck)]) := by
  refine Ct.body Try.func56 rfl Try.ntmps56 rfl ?_
  intro E F
  refine W.seq ?_
  refine W.region ?_
  refine RL.q (Yld.assign rfl) rfl ?_
  refine RL.nil ?_
  refine N.next ?_
  refine W.seq ?_
  refine W.seq ?_
  refine W.region ?_
  refine RL.q (Yld.move rfl) rfl ?_
  refine RL.q (Yld.load1 (c := 1) Try.underlying26 rfl rfl rfl (by first | exact single_self _ _ | exact pset_self _ _ _ | assumption) rfl) rfl ?_
  refine RL.q (Yld.nilP rfl) rfl ?_
  refine RL.q (Yld.fieldAddr fo90_0 rfl) rfl ?_
  refine RL.q (Yld.load1 (c := 3) Try.underlying3 rfl rfl rfl (by first | exact single_self _ _ | exact pset_self _ _ _ | assumption) rfl) rfl ?_
  refine RL.q (Yld.bin rfl rfl BinV.eql) rfl ?_
  refine RL.nil ?_
  refine N.next ?_
  refine W.keep (.cons (k := 0) rfl (.cons (k := 1) rfl (.cons (k := 2) rfl (.cons (k := 10) rfl .nil)))) (.cons (k := 0) rfl (.cons (k := 1) rfl (.cons (k := 2) rfl (.cons (k := 3) rfl (.cons (k := 4) rfl .nil))))) ?_
  first | refine W.condD rfl (fun hc10 => ?_) (fun hc10 => ?_) | (refine W.cond rfl (fun hc10 => ?_) (fun hc10 => ?_) <;> try simp only [Bool.or_eq_true, Bool.and_eq_true, Bool.not_eq_true', Bool.not_eq_false', decide_eq_true_eq, Bool.or_eq_false_iff, Bool.and_eq_false_iff, decide_eq_false_iff_not, beq_iff_eq, beq_eq_false_iff_ne, ne_eq, Decidable.not_not] at hc10)
  ·
    refine W.seq ?_
    refine W.region ?_
    refine RL.q (Yld.load1 (c := 2) Try.underlying3 rfl rfl rfl (by first | exact single_self _ _ | exact pset_self _ _ _ | assumption) rfl) rfl ?_
    refine RL.q (Yld.assign rfl) rfl ?_
    refine RL.nil ?_
    refine N.next ?_
    refine W.keep (.cons (k := 4) rfl .nil) (.cons (k := 0) rfl (.cons (k := 1) rfl (.cons (k := 2) rfl (.cons (k := 3) rfl (.cons (k := 4) rfl .nil))))) ?_
    refine W.ret ?_
    refine N.then_ret ?_
    exact N.retBy [1, 2, 3, 4] (.cons (.tmp rfl) .nil) rfl rfl rfl rfl ⟨by unfold qf; rw [if_pos hc10]; rfl, rfl⟩
  ·
    refine W.skip ?_
    refine N.next ?_
    refine W.seq ?_
    refine W.region ?_
    refine RL.q (Yld.load1 (c := 1) Try.underlying26 rfl rfl rfl (by first | exact single_self _ _ | exact pset_self _ _ _ | assumption) rfl) rfl ?_
    refine RL.q (Yld.move rfl) rfl ?_
    refine RL.e (Eff.call ent26 [3, 4] [3, 4] (.cons rfl (.cons rfl .nil)) (pmatch_ct bp bm es ck m ms hM hR hK z) rfl rfl rfl rfl (by rintro _ _ ⟨_, rfl⟩; rfl)) rfl ?_
    rintro _ _ ⟨_, ⟨rfl, rfl⟩, rfl⟩
    refine RL.q (Yld.assign rfl) rfl ?_
    refine RL.nil ?_
    refine N.next ?_
    refine W.keep (.cons (k := 4) rfl .nil) (.cons (k := 0) rfl (.cons (k := 1) rfl (.cons (k := 2) rfl (.cons (k := 3) rfl (.cons (k := 4) rfl .nil))))) ?_
    refine W.ret ?_
    exact N.retBy [1, 2, 3, 4] (.cons (.tmp rfl) .nil) rfl rfl rfl rfl ⟨by unfold qf; rw [if_neg hc10]; rfl, rfl⟩

set_option maxRecDepth 100000 in
set_option maxHeartbeats 1600000 in
theorem pcommit_ct (bp bm : Nat) (es : Array MapEntry) (ck : Nat) (m : List (Int × Value)) (ms : List Mb) (hM : MapP (fun a : Int => Value.int .i64 a) es ck m) (hR : MR m ms) (hK : MOK ms) (x : Cf) (H1 : PH) (hx : x.In H1) (hbo : x.o.length ≤ 400000) (hbn : x.n.length ≤ 400000) (lb : Nat) (g : Lg) (hg : LOK g) (H2 : PH) (p : Option Addr) (c : Nat) (hO : Own H2 p c 82 15 (g.es.map En.c)) (tm cm : Int) : Ct Try.prog 23 [.pointer (some ⟨bp, 0, none⟩), .agg [.slice x.po x.o.length x.co, .slice x.pn x.n.length x.cn, .slice x.pl x.l.length x.cl].toArray, .pointer (some ⟨lb, 0, none⟩), .int .i64 tm, .int .i64 cm] [single bp (.cells [.int .i64 1, .map (some bm)].toArray 90 (0, 0)), single bm (.map es ck), H1, single lb (.cells [.int .i64 g.ix, .int .i64 g.tm, .slice p g.es.length c].toArray 112 (0, 0)), H2] (fun v Hs => v = .int .i64 (cmt ms x.o x.n g tm cm) ∧ Hs = [single bp (.cells [.int .i64 1, .map (some bm)].toArray 90 (0, 0)), single bm (.map es ck), H1, single lb (.cells [.int .i64 g.ix, .int .i64 g.tm, .slice p g.es.length c].toArray 112 (0, 0)), H2]) := by
  refine Ct.body Try.func23 rfl Try.ntmps23 rfl ?_
  intro E F
  have hS := hO.sl
  have hmx := hS.len_le
  simp only [List.length_map, maxLen] at hmx
  obtain ⟨g0, g1, g2, g3⟩ := hg
  have hg : LOK g := ⟨g0, g1, g2, g3⟩
  have hli := Lg.last_ix hg
  have hqb := qf_bound (ms := ms) hK (last := g.last.1) (by omega) (by omega)
  have hab := agr_bound (o := x.o) (n := x.n) hqb (by omega)
  obtain ⟨a, ha⟩ : ∃ a, agr x.o x.n (qf ms g.last.1) = a := ⟨_, rfl⟩
  rw [ha] at hab
  obtain ⟨tt, tb, ht⟩ : ∃ tt tb, g.term a = (tt, tb) := ⟨_, _, rfl⟩
  have hcm : cmt ms x.o x.n g tm cm = if (cm < a ∧ tb = true) ∧ tt = tm then a else cm := by unfold cmt; rw [ha, ht]
  refine W.seq ?_
  refine W.region ?_
  refine RL.e (Eff.box 105 _ rfl rfl) rfl ?_
  rintro _ _ ⟨b5, rfl, rfl⟩
  refine RL.e (Eff.box 106 _ rfl rfl) rfl ?_
  rintro _ _ ⟨b6, rfl, rfl⟩
  refine RL.q (Yld.assign rfl) rfl ?_
  refine RL.nil ?_
  refine N.next ?_
  refine W.seq ?_
  refine W.region ?_
  refine RL.q (Yld.move rfl) rfl ?_
  refine RL.e (Eff.call ent37 [4, 5] [4, 5] (.cons rfl .nil) (llast_ct lb g hg _ _ _ hO) rfl rfl rfl rfl (by rintro _ _ ⟨_, rfl⟩; rfl)) rfl ?_
  rintro _ _ ⟨_, ⟨rfl, rfl⟩, rfl⟩
  refine RL.q (Yld.move rfl) rfl ?_
  refine RL.q (Yld.extract rfl rfl) rfl ?_
  refine RL.q (Yld.extract rfl rfl) rfl ?_
  refine RL.e (Eff.alloc 111 zc3) rfl ?_
  rintro _ _ ⟨b11, rfl, rfl⟩
  refine RL.e0 (Eff.storeS (c := 111) _ sz3 rfl rfl rfl rfl rfl rfl rfl (by (try simp only [putAt, List.take, List.drop, List.nil_append, List.cons_append, List.append_nil, List.length_cons, List.length_nil, Nat.add_zero, Nat.zero_add, Nat.reduceAdd]); rfl)) ?_
  rintro _ _ rfl
  refine RL.q (Yld.assign rfl) rfl ?_
  refine RL.nil ?_
  refine N.next ?_
  refine W.keep (.cons (k := 2) rfl (.cons (k := 3) rfl (.cons (k := 4) rfl (.cons (k := 5) rfl (.cons (k := 6) rfl (.cons (k := 11) rfl .nil)))))) (.cons (k := 0) rfl (.cons (k := 1) rfl (.cons (k := 2) rfl (.cons (k := 3) rfl (.cons (k := 4) rfl (.cons (k := 5) rfl (.cons (k := 105) rfl (.cons (k := 106) rfl (.cons (k := 111) rfl .nil))))))))) ?_
  refine W.seq ?_
  refine W.region ?_
  refine RL.q (Yld.loadW (c := 106) Try.underlying55 rfl sz55 rfl rfl (by first | exact single_self _ _ | exact pset_self _ _ _ | assumption) rfl) rfl ?_
  refine RL.q (Yld.makeFunc eval0 (eval2 rfl rfl)) rfl ?_
  refine RL.e (Eff.call ent55 [3, 105, 111, 1, 2] [3, 105, 111, 1, 2] (.cons rfl (.cons rfl .nil)) (agreed_ct x H1 hx 56 [.pointer (some ⟨b5, 0, none⟩), .pointer (some ⟨b11, 0, none⟩)] _ _ _ _ (qf ms g.last.1) ent56 (fun z => commitC_ct bp bm es ck m ms hM hR hK b5 b11 g.last.1 z) hbo hbn) rfl rfl rfl rfl (by rintro _ _ ⟨_, rfl⟩; rfl)) rfl ?_
  rintro _ _ ⟨_, ⟨rfl, rfl⟩, rfl⟩
  rw [ha]
  refine RL.q (Yld.assign rfl) rfl ?_
  refine RL.nil ?_
  refine N.next ?_
  refine W.keep (.cons (k := 2) rfl (.cons (k := 3) rfl (.cons (k := 4) rfl (.cons (k := 13) rfl .nil)))) (.cons (k := 0) rfl (.cons (k := 1) rfl (.cons (k := 2) rfl (.cons (k := 3) rfl (.cons (k := 4) rfl (.cons (k := 5) rfl (.cons (k := 105) rfl (.cons (k := 106) rfl (.cons (k := 111) rfl .nil))))))))) ?_
  refine W.seq ?_
  refine W.seq ?_
  refine W.region ?_
  refine RL.q (Yld.move rfl) rfl ?_
  refine RL.q (Yld.move rfl) rfl ?_
  refine RL.e (Eff.call ent27 [4, 5] [4, 5] (.cons rfl (.cons rfl .nil)) (lterm_ct lb g hg _ _ _ hO a (by omega) (by omega)) rfl rfl rfl rfl (by rintro _ _ ⟨_, rfl⟩; rfl)) rfl ?_
  rintro _ _ ⟨_, ⟨rfl, rfl⟩, rfl⟩
  rw [ht]
  refine RL.q (Yld.move rfl) rfl ?_
  refine RL.q (Yld.extract rfl rfl) rfl ?_
  refine RL.q (Yld.extract rfl rfl) rfl ?_
  refine RL.q (Yld.assign rfl) rfl ?_
  refine RL.q (Yld.assign rfl) rfl ?_
  refine RL.nil ?_
  refine N.next ?_
  refine W.keep (.cons (k := 3) rfl (.cons (k := 4) rfl (.cons (k := 13) rfl (.cons (k := 14) rfl (.cons (k := 15) rfl .nil))))) (.cons (k := 0) rfl (.cons (k := 1) rfl (.cons (k := 2) rfl (.cons (k := 3) rfl (.cons (k := 4) rfl (.cons (k := 5) rfl (.cons (k := 105) rfl (.cons (k := 106) rfl (.cons (k := 111) rfl .nil))))))))) ?_
  refine W.seq ?_
  refine W.region ?_
  refine RL.q (Yld.move rfl) rfl ?_
  refine RL.q (Yld.move rfl) rfl ?_
  refine RL.q (Yld.bin rfl rfl BinV.gtr) rfl ?_
  refine RL.q (Yld.move rfl) rfl ?_
  refine' RL.and (t := 33) (d := 35) 2 rfl (.cons (k := 3) rfl (.cons (k := 4) rfl (.cons (k := 13) rfl (.cons (k := 14) rfl (.cons (k := 15) rfl (.cons (k := 30) rfl (.cons (k := 31) rfl (.cons (k := 32) rfl .nil)))))))) (.cons (k := 0) rfl (.cons (k := 1) rfl (.cons (k := 2) rfl (.cons (k := 3) rfl (.cons (k := 4) rfl (.cons (k := 5) rfl (.cons (k := 105) rfl (.cons (k := 106) rfl (.cons (k := 111) rfl .nil))))))))) ?_ ?_ ?_
  rotate_left 1
  ·
    intro hg33
    refine RL.gq rfl rfl (Yld.move rfl) rfl ?_
    refine RL.q (by first | exact Yld.pickT rfl rfl | exact Yld.pickF rfl rfl) rfl ?_
    exact RL.nil (N.meet (.cons rfl (.cons rfl (.cons rfl (.cons rfl (.cons rfl (.cons rfl (.cons rfl (.cons rfl (.cons rfl .nil))))))))) (.cons rfl (.cons rfl (.cons rfl (.cons rfl (.cons rfl (.cons rfl (.cons rfl (.cons rfl (.cons rfl .nil))))))))))
  ·
    intro hg33
    refine RL.gskip rfl rfl rfl rfl ?_
    refine RL.q (by first | exact Yld.pickT rfl rfl | exact Yld.pickF rfl rfl) rfl ?_
    exact RL.nil (N.meet (.cons rfl (.cons rfl (.cons rfl (.cons rfl (.cons rfl (.cons rfl (.cons rfl (.cons rfl (.cons rfl .nil))))))))) (.cons rfl (.cons rfl (.cons rfl (.cons rfl (.cons rfl (.cons rfl (.cons rfl (.cons rfl (.cons rfl .nil))))))))))
  refine RL.q (Yld.move rfl) rfl ?_
  refine' RL.and (t := 36) (d := 40) 4 rfl (.cons (k := 3) rfl (.cons (k := 4) rfl (.cons (k := 13) rfl (.cons (k := 14) rfl (.cons (k := 15) rfl (.cons (k := 30) rfl (.cons (k := 31) rfl (.cons (k := 32) rfl (.cons (k := 35) rfl .nil))))))))) (.cons (k := 0) rfl (.cons (k := 1) rfl (.cons (k := 2) rfl (.cons (k := 3) rfl (.cons (k := 4) rfl (.cons (k := 5) rfl (.cons (k := 105) rfl (.cons (k := 106) rfl (.cons (k := 111) rfl .nil))))))))) ?_ ?_ ?_
  rotate_left 1
  ·
    intro hg36
    refine RL.gq rfl rfl (Yld.move rfl) rfl ?_
    refine RL.gq rfl rfl (Yld.move rfl) rfl ?_
    refine RL.gq rfl rfl (Yld.bin rfl rfl BinV.eql) rfl ?_
    refine RL.q (by first | exact Yld.pickT rfl rfl | exact Yld.pickF rfl rfl) rfl ?_
    exact RL.nil (N.meet (.cons rfl (.cons rfl (.cons rfl (.cons rfl (.cons rfl (.cons rfl (.cons rfl (.cons rfl (.cons rfl (.cons rfl .nil)))))))))) (.cons rfl (.cons rfl (.cons rfl (.cons rfl (.cons rfl (.cons rfl (.cons rfl (.cons rfl (.cons rfl .nil))))))))))
  ·
    intro hg36
    refine RL.gskip rfl rfl rfl rfl ?_
    refine RL.gskip rfl rfl rfl rfl ?_
    refine RL.gskip rfl rfl rfl rfl ?_
    refine RL.q (by first | exact Yld.pickT rfl rfl | exact Yld.pickF rfl rfl) rfl ?_
    exact RL.nil (N.meet (.cons rfl (.cons rfl (.cons rfl (.cons rfl (.cons rfl (.cons rfl (.cons rfl (.cons rfl (.cons rfl (.cons rfl .nil)))))))))) (.cons rfl (.cons rfl (.cons rfl (.cons rfl (.cons rfl (.cons rfl (.cons rfl (.cons rfl (.cons rfl .nil))))))))))
  refine RL.nil ?_
  refine N.next ?_
  refine W.keep (.cons (k := 4) rfl (.cons (k := 13) rfl (.cons (k := 40) rfl .nil))) (.cons (k := 0) rfl (.cons (k := 1) rfl (.cons (k := 2) rfl (.cons (k := 3) rfl (.cons (k := 4) rfl (.cons (k := 5) rfl (.cons (k := 105) rfl (.cons (k := 106) rfl (.cons (k := 111) rfl .nil))))))))) ?_
  refine W.cond rfl (fun hc40 => ?_) (fun hc40 => ?_) <;> simp only [Bool.and_eq_true, decide_eq_true_eq] at hc40
  ·
    refine W.seq ?_
    refine W.region ?_
    refine RL.q (Yld.move rfl) rfl ?_
    refine RL.q (Yld.assign rfl) rfl ?_
    refine RL.nil ?_
    refine N.next ?_
    refine W.keep (.cons (k := 10) rfl .nil) (.cons (k := 0) rfl (.cons (k := 1) rfl (.cons (k := 2) rfl (.cons (k := 3) rfl (.cons (k := 4) rfl (.cons (k := 5) rfl (.cons (k := 105) rfl (.cons (k := 106) rfl (.cons (k := 111) rfl .nil))))))))) ?_
    refine W.ret ?_
    refine N.then_ret ?_
    exact N.retBy [1, 2, 3, 4, 5] (.cons (.tmp rfl) .nil) rfl rfl rfl rfl ⟨by rw [hcm, if_pos hc40]; rfl, rfl⟩
  ·
    refine W.skip ?_
    refine N.next ?_
    refine W.seq ?_
    refine W.region ?_
    refine RL.q (Yld.move rfl) rfl ?_
    refine RL.q (Yld.assign rfl) rfl ?_
    refine RL.nil ?_
    refine N.next ?_
    refine W.keep (.cons (k := 10) rfl .nil) (.cons (k := 0) rfl (.cons (k := 1) rfl (.cons (k := 2) rfl (.cons (k := 3) rfl (.cons (k := 4) rfl (.cons (k := 5) rfl (.cons (k := 105) rfl (.cons (k := 106) rfl (.cons (k := 111) rfl .nil))))))))) ?_
    refine W.ret ?_
    exact N.retBy [1, 2, 3, 4, 5] (.cons (.tmp rfl) .nil) rfl rfl rfl rfl ⟨by rw [hcm, if_neg (by rintro ⟨⟨h1, h2⟩, h3⟩; subst h2; subst h3; simp at hc40; omega)]; rfl, rfl⟩

set_option maxRecDepth 100000 in
set_option maxHeartbeats 1600000 in
theorem rcommit_ct (ms : List Mb) (H1 : PH) (p : Option Addr) (c : Nat) (hS : Sl H1 p c 3 (ms.map Mb.c)) (hK : MOK ms) (x : Cf) (H2 : PH) (hx : x.In H2) (hbo : x.o.length ≤ 400000) (hbn : x.n.length ≤ 400000) (g : Lg) (hg : LOK g) (H3 : PH) (q : Option Addr) (d : Nat) (hT : Sl H3 q d 15 (g.es.map En.c)) (tm cm : Int) : Ct Try.prog 24 [.agg [.int .i64 1, .slice p ms.length c].toArray, .agg [.slice x.po x.o.length x.co, .slice x.pn x.n.length x.cn, .slice x.pl x.l.length x.cl].toArray, .agg [.int .i64 g.ix, .int .i64 g.tm, .slice q g.es.length d].toArray, .int .i64 tm, .int .i64 cm] [H1, H2, H3] (fun v Hs => v = .int .i64 (cmt ms x.o x.n g tm cm) ∧ Hs = [H1, H2, H3]) := by
  refine Ct.body Try.func24 rfl Try.ntmps24 rfl ?_
  intro E F
  have hmx := hS.len_le
  have hmy := hT.len_le
  simp only [List.length_map, maxLen] at hmx hmy
  obtain ⟨g0, g1, g2, g3⟩ := hg
  have hg : LOK g := ⟨g0, g1, g2, g3⟩
  have hli := Lg.last_ix hg
  have hqb := qf_bound (ms := ms) hK (last := g.last.1) (by omega) (by omega)
  have hab := agr_bound (o := x.o) (n := x.n) hqb (by omega)
  obtain ⟨a, ha⟩ : ∃ a, agr x.o x.n (qf ms g.last.1) = a := ⟨_, rfl⟩
  rw [ha] at hab
  obtain ⟨tt, tb, ht⟩ : ∃ tt tb, g.term a = (tt, tb) := ⟨_, _, rfl⟩
  have hcm : cmt ms x.o x.n g tm cm = if (cm < a ∧ tb = true) ∧ tt = tm then a else cm := by unfold cmt; rw [ha, ht]
  have hmxo := hx.1.len_le
  refine W.seq ?_
  refine W.region ?_
  refine RL.e (Eff.box 105 _ rfl rfl) rfl ?_
  rintro _ _ ⟨b5, rfl, rfl⟩
  refine RL.e (Eff.box 106 _ rfl rfl) rfl ?_
  rintro _ _ ⟨b6, rfl, rfl⟩
  refine RL.e (Eff.box 107 _ rfl rfl) rfl ?_
  rintro _ _ ⟨b7, rfl, rfl⟩
  refine RL.q (Yld.assign rfl) rfl ?_
  refine RL.nil ?_
  refine N.next ?_
  refine W.keep (.cons (k := 3) rfl (.cons (k := 4) rfl (.cons (k := 5) rfl (.cons (k := 6) rfl (.cons (k := 7) rfl .nil))))) (.cons (k := 0) rfl (.cons (k := 1) rfl (.cons (k := 2) rfl (.cons (k := 3) rfl (.cons (k := 105) rfl (.cons (k := 106) rfl (.cons (k := 107) rfl .nil))))))) ?_
  refine W.seq ?_
  refine W.region ?_
  refine RL.q (Yld.loadW (c := 107) Try.underlying42 rfl sz42 rfl rfl (by first | exact single_self _ _ | exact pset_self _ _ _ | assumption) rfl) rfl ?_
  refine RL.e (Eff.call ent16 [3] [3] (.cons rfl .nil) (rllast_ct g hg _ _ _ hT) rfl rfl rfl rfl (by rintro _ _ ⟨_, rfl⟩; rfl)) rfl ?_
  rintro _ _ ⟨_, ⟨rfl, rfl⟩, rfl⟩
  refine RL.q (Yld.move rfl) rfl ?_
  refine RL.q (Yld.extract rfl rfl) rfl ?_
  refine RL.q (Yld.extract rfl rfl) rfl ?_
  refine RL.q (Yld.assign rfl) rfl ?_
  refine RL.q (Yld.assign rfl) rfl ?_
  refine RL.nil ?_
  refine N.next ?_
  refine W.keep (.cons (k := 3) rfl (.cons (k := 4) rfl (.cons (k := 5) rfl (.cons (k := 6) rfl (.cons (k := 7) rfl (.cons (k := 11) rfl .nil)))))) (.cons (k := 0) rfl (.cons (k := 1) rfl (.cons (k := 2) rfl (.cons (k := 3) rfl (.cons (k := 105) rfl (.cons (k := 106) rfl (.cons (k := 107) rfl .nil))))))) ?_
  refine W.seq ?_
  refine W.region ?_
  refine RL.q (Yld.loadW (c := 106) Try.underlying55 rfl sz55 rfl rfl (by first | exact single_self _ _ | exact pset_self _ _ _ | assumption) rfl) rfl ?_
  refine RL.e (Eff.call ent57 [2] [2, 131] (.cons rfl .nil) (rvoters_ct x H2 hx (by simp; omega)) rfl rfl rfl rfl (by rintro _ _ ⟨_, _, _, _, _, rfl⟩; rfl)) rfl ?_
  rintro _ _ ⟨_, ⟨Hv, pv, cv, rfl, hOv, rfl⟩, rfl⟩
  have hcx := hOv.sl.len_le
  simp only [iz_len, maxLen] at hcx
  have hVl := setL_len (x.o ++ x.n)
  rw [List.length_append] at hVl
  obtain ⟨V, hV⟩ : ∃ V, setL (x.o ++ x.n) = V := ⟨_, rfl⟩
  rw [hV] at hOv hcx hVl ⊢
  refine RL.q (Yld.assign rfl) rfl ?_
  refine RL.nil ?_
  refine N.next ?_
  refine W.seq ?_
  refine W.region ?_
  refine RL.e (Eff.buildSlice 128 Try.underlying22 sz3 zc3 rfl rfl .nil rfl) rfl ?_
  rintro _ _ ⟨b28, rfl, rfl⟩
  refine RL.q (Yld.assign rfl) rfl ?_
  refine RL.nil ?_
  refine N.next ?_
  refine W.seq ?_
  refine W.seq ?_
  refine W.region ?_
  refine RL.q (Yld.assign rfl) rfl ?_
  refine RL.nil ?_
  refine N.next ?_
  refine W.block ?_
  refine W.loopK (ι := SI) (fun y => (y.i ≤ V.length ∧ Own y.H y.p y.c 3 1 (iz y.s) ∧ y.s = (V.take y.i).map (qf ms g.last.1))) (fun y => [(14, .slice y.p y.s.length y.c), (15, .int .i64 (y.i : Nat))]) (fun y => [(128, y.H)]) (fun y => V.length - y.i) (.cons (k := 3) rfl (.cons (k := 4) rfl (.cons (k := 5) rfl (.cons (k := 6) rfl (.cons (k := 7) rfl (.cons (k := 11) rfl (.cons (k := 13) rfl .nil))))))) (.cons (k := 0) rfl (.cons (k := 1) rfl (.cons (k := 2) rfl (.cons (k := 3) rfl (.cons (k := 105) rfl (.cons (k := 106) rfl (.cons (k := 107) rfl (.cons (k := 131) rfl .nil)))))))) ⟨0, single b28 (.cells [].toArray 3 (0, 0)), some ⟨b28, 0, none⟩, 0, []⟩ ?_ ?_ ?_ ?_
  · exact ⟨Nat.zero_le _, iz_none rfl, rfl⟩
  · exact (.as rfl (by first | rfl | (simp; done) | (congr 1; simp; done) | (congr 1; omega)) (.as rfl (by first | rfl | (simp; done) | (congr 1; simp; done) | (congr 1; omega)) .nil))
  · exact (.cons rfl .nil)
  rintro y ⟨hj, hO, hs⟩
  refine W.keep (.cons (k := 14) rfl (.cons (k := 15) rfl (.cons (k := 3) rfl (.cons (k := 4) rfl (.cons (k := 5) rfl (.cons (k := 6) rfl (.cons (k := 7) rfl (.cons (k := 11) rfl (.cons (k := 13) rfl .nil))))))))) (.cons (k := 128) rfl (.cons (k := 0) rfl (.cons (k := 1) rfl (.cons (k := 2) rfl (.cons (k := 3) rfl (.cons (k := 105) rfl (.cons (k := 106) rfl (.cons (k := 107) rfl (.cons (k := 131) rfl .nil))))))))) ?_
  refine W.seq ?_
  refine W.seq ?_
  refine W.region ?_
  refine RL.q (Yld.move rfl) rfl ?_
  refine RL.q (Yld.move rfl) rfl ?_
  refine RL.q (Yld.lenSl Try.underlying22 rfl) rfl ?_
  refine RL.q (Yld.bin rfl rfl BinV.lss) rfl ?_
  refine RL.nil ?_
  refine N.next ?_
  first | refine W.condD rfl (fun hc32 => ?_) (fun hc32 => ?_) | (refine W.cond rfl (fun hc32 => ?_) (fun hc32 => ?_) <;> try simp only [Bool.or_eq_true, Bool.and_eq_true, Bool.not_eq_true', Bool.not_eq_false', decide_eq_true_eq, Bool.or_eq_false_iff, Bool.and_eq_false_iff, decide_eq_false_iff_not, beq_iff_eq, beq_eq_false_iff_ne, ne_eq, Decidable.not_not] at hc32)
  ·
    obtain ⟨z, hz, hlz⟩ : ∃ z, V[y.i]? = some z ∧ (iz V)[y.i]? = some [.int .i64 z] := iz_at (show y.i < V.length by omega)
    obtain ⟨n, hn⟩ : ∃ n, ((fnd ms z).map (·.nx) |>.getD 0) = n := ⟨_, rfl⟩
    obtain ⟨t, ht2⟩ : ∃ t, ((fnd ms z).map (·.mt) |>.getD 0) = t := ⟨_, rfl⟩
    have hsl : y.s.length ≤ y.i := by rw [hs, List.length_map, List.length_take]; omega
    refine W.skip ?_
    refine N.next ?_
    refine W.keep (.cons (k := 3) rfl (.cons (k := 4) rfl (.cons (k := 5) rfl (.cons (k := 6) rfl (.cons (k := 7) rfl (.cons (k := 11) rfl (.cons (k := 13) rfl (.cons (k := 14) rfl (.cons (k := 15) rfl .nil))))))))) (.cons (k := 0) rfl (.cons (k := 1) rfl (.cons (k := 2) rfl (.cons (k := 3) rfl (.cons (k := 105) rfl (.cons (k := 106) rfl (.cons (k := 107) rfl (.cons (k := 128) rfl (.cons (k := 131) rfl .nil))))))))) ?_
    refine W.seq ?_
    refine W.block ?_
    refine W.seq ?_
    refine W.draw (.q 0 (.q 1 (.q 2 (.q 3 (.q 4 (.one 5 (.q 6 (.q 7 (.q 8 (.q 9 (.q 10 .done))))))))))) (.cons (k := 0) rfl (.cons (k := 2) rfl (.cons (k := 3) rfl (.cons (k := 105) rfl (.cons (k := 106) rfl (.cons (k := 107) rfl (.cons (k := 128) rfl (.cons (k := 131) rfl .nil)))))))) mix (by kernel_rfl) (by kernel_rfl) ?_
    refine DL.q rfl (Yld.loadW (c := 105) Try.underlying30 rfl sz30 rfl rfl (by first | exact single_self _ _ | exact pset_self _ _ _ | assumption) rfl) rfl ?_
    refine DL.q rfl (Yld.move rfl) rfl ?_
    refine DL.q rfl (Yld.move rfl) rfl ?_
    refine DL.q rfl (Yld.indexRow Try.underlying22 sz3 rfl rfl (by first | assumption | exact Own.sl (by assumption)) (by first | rfl | omega | (simp; done) | (simp; omega)) (by omega) (by first | omega | (simp; done) | (simp; omega))) rfl ?_
    refine DL.q rfl (by first | exact (by first | exact Yld.loadRow1 (cl := 1) Try.underlying3 rfl rfl rfl (by first | assumption | exact Own.sl (by assumption)) (by assumption) | exact Yld.loadRow1 (cl := 2) Try.underlying3 rfl rfl rfl (by first | assumption | exact Own.sl (by assumption)) (by assumption) | exact Yld.loadRow1 (cl := 3) Try.underlying3 rfl rfl rfl (by first | assumption | exact Own.sl (by assumption)) (by assumption) | exact Yld.loadRow1 (cl := 105) Try.underlying3 rfl rfl rfl (by first | assumption | exact Own.sl (by assumption)) (by assumption) | exact Yld.loadRow1 (cl := 106) Try.underlying3 rfl rfl rfl (by first | assumption | exact Own.sl (by assumption)) (by assumption) | exact Yld.loadRow1 (cl := 107) Try.underlying3 rfl rfl rfl (by first | assumption | exact Own.sl (by assumption)) (by assumption) | exact Yld.loadRow1 (cl := 131) Try.underlying3 rfl rfl rfl (by first | assumption | exact Own.sl (by assumption)) (by assumption) | exact Yld.loadRow1 (cl := 128) Try.underlying3 rfl rfl rfl (by first | assumption | exact Own.sl (by assumption)) (by assumption)) | exact (by first | exact Yld.loadRowF (cl := 1) (j := 0) Try.underlying3 rfl rfl rfl (by first | assumption | exact Own.sl (by assumption)) (by assumption) rfl | exact Yld.loadRowF (cl := 2) (j := 0) Try.underlying3 rfl rfl rfl (by first | assumption | exact Own.sl (by assumption)) (by assumption) rfl | exact Yld.loadRowF (cl := 3) (j := 0) Try.underlying3 rfl rfl rfl (by first | assumption | exact Own.sl (by assumption)) (by assumption) rfl | exact Yld.loadRowF (cl := 105) (j := 0) Try.underlying3 rfl rfl rfl (by first | assumption | exact Own.sl (by assumption)) (by assumption) rfl | exact Yld.loadRowF (cl := 106) (j := 0) Try.underlying3 rfl rfl rfl (by first | assumption | exact Own.sl (by assumption)) (by assumption) rfl | exact Yld.loadRowF (cl := 107) (j := 0) Try.underlying3 rfl rfl rfl (by first | assumption | exact Own.sl (by assumption)) (by assumption) rfl | exact Yld.loadRowF (cl := 131) (j := 0) Try.underlying3 rfl rfl rfl (by first | assumption | exact Own.sl (by assumption)) (by assumption) rfl | exact Yld.loadRowF (cl := 128) (j := 0) Try.underlying3 rfl rfl rfl (by first | assumption | exact Own.sl (by assumption)) (by assumption) rfl)) rfl ?_
    refine DL.one rfl (Eff.call ent44 [1] [1] (.cons rfl (.cons rfl .nil)) (rget2_ct ms _ _ _ hS z n t hn ht2) rfl rfl rfl rfl (by rintro _ _ ⟨_, rfl⟩; rfl)) rfl (by rintro _ _ ⟨_, ⟨rfl, rfl⟩, rfl⟩; repeat (first | exact .nil | refine .cons rfl ?_)) ?_
    rintro _ _ ⟨_, ⟨rfl, rfl⟩, rfl⟩
    refine DL.q rfl (Yld.move rfl) rfl ?_
    refine DL.q rfl (Yld.extract rfl rfl) rfl ?_
    refine DL.q rfl (Yld.extract rfl rfl) rfl ?_
    refine DL.q rfl (Yld.assign rfl) rfl ?_
    refine DL.q rfl (Yld.assign rfl) rfl ?_
    refine DL.done ?_
    refine N.next ?_
    refine W.keep (.cons (k := 3) rfl (.cons (k := 4) rfl (.cons (k := 5) rfl (.cons (k := 6) rfl (.cons (k := 7) rfl (.cons (k := 11) rfl (.cons (k := 13) rfl (.cons (k := 14) rfl (.cons (k := 15) rfl (.cons (k := 17) rfl .nil)))))))))) (.cons (k := 0) rfl (.cons (k := 1) rfl (.cons (k := 2) rfl (.cons (k := 3) rfl (.cons (k := 105) rfl (.cons (k := 106) rfl (.cons (k := 107) rfl (.cons (k := 128) rfl (.cons (k := 131) rfl .nil))))))))) ?_
    refine W.seq ?_
    refine W.seq ?_
    refine W.draw (.q 0 (.q 1 (.q 2 (.q 3 (.q 4 (.q 5 (.q 6 .done))))))) (.cons (k := 0) rfl (.cons (k := 1) rfl (.cons (k := 2) rfl (.cons (k := 3) rfl (.cons (k := 105) rfl (.cons (k := 106) rfl (.cons (k := 107) rfl (.cons (k := 128) rfl (.cons (k := 131) rfl .nil))))))))) mix (by kernel_rfl) (by kernel_rfl) ?_
    refine DL.q rfl (Yld.move rfl) rfl ?_
    refine DL.q rfl (Yld.move rfl) rfl ?_
    refine DL.q rfl (Yld.indexRow Try.underlying22 sz3 rfl rfl (by first | assumption | exact Own.sl (by assumption)) (by first | rfl | omega | (simp; done) | (simp; omega)) (by omega) (by first | omega | (simp; done) | (simp; omega))) rfl ?_
    refine DL.q rfl (by first | exact (by first | exact Yld.loadRow1 (cl := 1) Try.underlying3 rfl rfl rfl (by first | assumption | exact Own.sl (by assumption)) (by assumption) | exact Yld.loadRow1 (cl := 2) Try.underlying3 rfl rfl rfl (by first | assumption | exact Own.sl (by assumption)) (by assumption) | exact Yld.loadRow1 (cl := 3) Try.underlying3 rfl rfl rfl (by first | assumption | exact Own.sl (by assumption)) (by assumption) | exact Yld.loadRow1 (cl := 105) Try.underlying3 rfl rfl rfl (by first | assumption | exact Own.sl (by assumption)) (by assumption) | exact Yld.loadRow1 (cl := 106) Try.underlying3 rfl rfl rfl (by first | assumption | exact Own.sl (by assumption)) (by assumption) | exact Yld.loadRow1 (cl := 107) Try.underlying3 rfl rfl rfl (by first | assumption | exact Own.sl (by assumption)) (by assumption) | exact Yld.loadRow1 (cl := 131) Try.underlying3 rfl rfl rfl (by first | assumption | exact Own.sl (by assumption)) (by assumption) | exact Yld.loadRow1 (cl := 128) Try.underlying3 rfl rfl rfl (by first | assumption | exact Own.sl (by assumption)) (by assumption)) | exact (by first | exact Yld.loadRowF (cl := 1) (j := 0) Try.underlying3 rfl rfl rfl (by first | assumption | exact Own.sl (by assumption)) (by assumption) rfl | exact Yld.loadRowF (cl := 2) (j := 0) Try.underlying3 rfl rfl rfl (by first | assumption | exact Own.sl (by assumption)) (by assumption) rfl | exact Yld.loadRowF (cl := 3) (j := 0) Try.underlying3 rfl rfl rfl (by first | assumption | exact Own.sl (by assumption)) (by assumption) rfl | exact Yld.loadRowF (cl := 105) (j := 0) Try.underlying3 rfl rfl rfl (by first | assumption | exact Own.sl (by assumption)) (by assumption) rfl | exact Yld.loadRowF (cl := 106) (j := 0) Try.underlying3 rfl rfl rfl (by first | assumption | exact Own.sl (by assumption)) (by assumption) rfl | exact Yld.loadRowF (cl := 107) (j := 0) Try.underlying3 rfl rfl rfl (by first | assumption | exact Own.sl (by assumption)) (by assumption) rfl | exact Yld.loadRowF (cl := 131) (j := 0) Try.underlying3 rfl rfl rfl (by first | assumption | exact Own.sl (by assumption)) (by assumption) rfl | exact Yld.loadRowF (cl := 128) (j := 0) Try.underlying3 rfl rfl rfl (by first | assumption | exact Own.sl (by assumption)) (by assumption) rfl)) rfl ?_
    refine DL.q rfl (Yld.fieldAddr fo30_0 rfl) rfl ?_
    refine DL.q rfl (Yld.load1 (c := 105) Try.underlying3 rfl rfl rfl (by first | exact single_self _ _ | exact pset_self _ _ _ | assumption) rfl) rfl ?_
    refine DL.q rfl (Yld.bin rfl rfl BinV.eql) rfl ?_
    refine DL.done ?_
    refine N.next ?_
    refine W.keep (.cons (k := 3) rfl (.cons (k := 4) rfl (.cons (k := 5) rfl (.cons (k := 6) rfl (.cons (k := 7) rfl (.cons (k := 11) rfl (.cons (k := 13) rfl (.cons (k := 14) rfl (.cons (k := 15) rfl (.cons (k := 17) rfl (.cons (k := 50) rfl .nil))))))))))) (.cons (k := 0) rfl (.cons (k := 1) rfl (.cons (k := 2) rfl (.cons (k := 3) rfl (.cons (k := 105) rfl (.cons (k := 106) rfl (.cons (k := 107) rfl (.cons (k := 128) rfl (.cons (k := 131) rfl .nil))))))))) ?_
    first | refine W.condD rfl (fun hc50 => ?_) (fun hc50 => ?_) | (refine W.cond rfl (fun hc50 => ?_) (fun hc50 => ?_) <;> try simp only [Bool.or_eq_true, Bool.and_eq_true, Bool.not_eq_true', Bool.not_eq_false', decide_eq_true_eq, Bool.or_eq_false_iff, Bool.and_eq_false_iff, decide_eq_false_iff_not, beq_iff_eq, beq_eq_false_iff_ne, ne_eq, Decidable.not_not] at hc50)
    ·
      have hqz : g.last.1 = qf ms g.last.1 z := by unfold qf; rw [if_pos hc50]
      refine W.region ?_
      refine RL.q (Yld.move rfl) rfl ?_
      refine RL.q (Yld.assign rfl) rfl ?_
      refine RL.nil ?_
      refine N.next ?_
      refine W.region ?_
      refine RL.q (Yld.move rfl) rfl ?_
      refine RL.q (Yld.move rfl) rfl ?_
      refine RL.e (Eff.buildSlice 154 Try.underlying22 sz3 zc3 rfl rfl (.cons rfl rfl .nil) rfl) rfl ?_
      rintro _ _ ⟨b54, rfl, rfl⟩
      refine RL.e (Eff.appendE (tc := 128) (sc := 154) (fun z : Int => [Value.int .i64 z]) Try.underlying22 el3 rfl rfl rfl rfl hO rfl (iz_single rfl) rfl (iz_one1 _) (by decide) (by first | (simp; done) | (simp; omega)) (by first | (simp [maxLen]; done) | (simp [maxLen]; omega))) rfl ?_
      rintro _ _ ⟨Ha, pa, ca, rfl, hOa, rfl⟩
      refine RL.q (Yld.assign rfl) rfl ?_
      refine RL.nil ?_
      refine N.block_normal ?_
      refine N.next ?_
      refine W.keep (.cons (k := 3) rfl (.cons (k := 4) rfl (.cons (k := 5) rfl (.cons (k := 6) rfl (.cons (k := 7) rfl (.cons (k := 11) rfl (.cons (k := 13) rfl (.cons (k := 14) rfl (.cons (k := 15) rfl .nil))))))))) (.cons (k := 0) rfl (.cons (k := 1) rfl (.cons (k := 2) rfl (.cons (k := 3) rfl (.cons (k := 105) rfl (.cons (k := 106) rfl (.cons (k := 107) rfl (.cons (k := 128) rfl (.cons (k := 131) rfl (.cons (k := 154) rfl .nil)))))))))) ?_
      refine W.region ?_
      refine RL.q (Yld.move rfl) rfl ?_
      refine RL.q (Yld.bin rfl rfl (by first | exact BinV.add (by omega) (by omega) | exact BinV.addW)) rfl ?_
      refine RL.q (Yld.assign rfl) rfl ?_
      refine RL.nil ?_
      exact N.famK ⟨y.i + 1, Ha, pa, ca, y.s ++ [g.last.1]⟩ ⟨⟨by dsimp only; omega, hOa, by dsimp only; rw [List.take_add_one, hz, List.map_append, ← hs]; exact congrArg (y.s ++ [·]) hqz⟩, by dsimp only; omega⟩ (.as rfl (by first | rfl | (simp; done) | (congr 1; simp; done) | (congr 1; omega)) (.as rfl (by first | rfl | (simp; done) | (congr 1; simp; done) | (congr 1; omega)) .nil)) (.cons rfl (.cons rfl (.cons rfl (.cons rfl (.cons rfl (.cons rfl (.cons rfl .nil))))))) (.cons rfl .nil) (.cons rfl (.cons rfl (.cons rfl (.cons rfl (.cons rfl (.cons rfl (.cons rfl (.cons rfl .nil))))))))
    ·
      have hqz : t = qf ms g.last.1 z := by unfold qf; rw [if_neg hc50]; exact ht2.symm
      refine W.skip ?_
      refine N.next ?_
      refine W.region ?_
      refine RL.q (Yld.move rfl) rfl ?_
      refine RL.q (Yld.move rfl) rfl ?_
      refine RL.e (Eff.buildSlice 154 Try.underlying22 sz3 zc3 rfl rfl (.cons rfl rfl .nil) rfl) rfl ?_
      rintro _ _ ⟨b54, rfl, rfl⟩
      refine RL.e (Eff.appendE (tc := 128) (sc := 154) (fun z : Int => [Value.int .i64 z]) Try.underlying22 el3 rfl rfl rfl rfl hO rfl (iz_single rfl) rfl (iz_one1 _) (by decide) (by first | (simp; done) | (simp; omega)) (by first | (simp [maxLen]; done) | (simp [maxLen]; omega))) rfl ?_
      rintro _ _ ⟨Ha, pa, ca, rfl, hOa, rfl⟩
      refine RL.q (Yld.assign rfl) rfl ?_
      refine RL.nil ?_
      refine N.block_normal ?_
      refine N.next ?_
      refine W.keep (.cons (k := 3) rfl (.cons (k := 4) rfl (.cons (k := 5) rfl (.cons (k := 6) rfl (.cons (k := 7) rfl (.cons (k := 11) rfl (.cons (k := 13) rfl (.cons (k := 14) rfl (.cons (k := 15) rfl .nil))))))))) (.cons (k := 0) rfl (.cons (k := 1) rfl (.cons (k := 2) rfl (.cons (k := 3) rfl (.cons (k := 105) rfl (.cons (k := 106) rfl (.cons (k := 107) rfl (.cons (k := 128) rfl (.cons (k := 131) rfl (.cons (k := 154) rfl .nil)))))))))) ?_
      refine W.region ?_
      refine RL.q (Yld.move rfl) rfl ?_
      refine RL.q (Yld.bin rfl rfl (by first | exact BinV.add (by omega) (by omega) | exact BinV.addW)) rfl ?_
      refine RL.q (Yld.assign rfl) rfl ?_
      refine RL.nil ?_
      exact N.famK ⟨y.i + 1, Ha, pa, ca, y.s ++ [t]⟩ ⟨⟨by dsimp only; omega, hOa, by dsimp only; rw [List.take_add_one, hz, List.map_append, ← hs]; exact congrArg (y.s ++ [·]) hqz⟩, by dsimp only; omega⟩ (.as rfl (by first | rfl | (simp; done) | (congr 1; simp; done) | (congr 1; omega)) (.as rfl (by first | rfl | (simp; done) | (congr 1; simp; done) | (congr 1; omega)) .nil)) (.cons rfl (.cons rfl (.cons rfl (.cons rfl (.cons rfl (.cons rfl (.cons rfl .nil))))))) (.cons rfl .nil) (.cons rfl (.cons rfl (.cons rfl (.cons rfl (.cons rfl (.cons rfl (.cons rfl (.cons rfl .nil))))))))
  ·
    have hend : y.i = V.length := by omega
    rw [hend, List.take_length] at hs
    refine W.exit ?_
    refine N.then_exit ?_
    refine N.then_exit ?_
    refine N.block_eq ?_
    refine N.next ?_
    refine W.keep (.cons (k := 3) rfl (.cons (k := 4) rfl (.cons (k := 6) rfl (.cons (k := 7) rfl (.cons (k := 14) rfl .nil))))) (.cons (k := 0) rfl (.cons (k := 1) rfl (.cons (k := 2) rfl (.cons (k := 3) rfl (.cons (k := 105) rfl (.cons (k := 106) rfl (.cons (k := 107) rfl (.cons (k := 128) rfl (.cons (k := 131) rfl .nil))))))))) ?_
    refine W.seq ?_
    refine W.region ?_
    refine RL.q (Yld.loadW (c := 106) Try.underlying55 rfl sz55 rfl rfl (by first | exact single_self _ _ | exact pset_self _ _ _ | assumption) rfl) rfl ?_
    refine RL.q (Yld.move rfl) rfl ?_
    refine RL.e (Eff.call ent58 [2, 128] [2, 128] (.cons rfl (.cons rfl .nil)) (ragreed_ct x H2 hx (qf ms g.last.1) _ _ _ y.s.length (by rw [hV, hs, List.length_map]) (by rw [hV, ← hs]; exact hO.sl) hbo hbn) rfl rfl rfl rfl (by rintro _ _ ⟨_, rfl⟩; rfl)) rfl ?_
    rintro _ _ ⟨_, ⟨rfl, rfl⟩, rfl⟩
    rw [ha]
    refine RL.q (Yld.assign rfl) rfl ?_
    refine RL.nil ?_
    refine N.next ?_
    refine W.keep (.cons (k := 3) rfl (.cons (k := 4) rfl (.cons (k := 7) rfl (.cons (k := 18) rfl .nil)))) (.cons (k := 0) rfl (.cons (k := 1) rfl (.cons (k := 2) rfl (.cons (k := 3) rfl (.cons (k := 105) rfl (.cons (k := 106) rfl (.cons (k := 107) rfl (.cons (k := 128) rfl (.cons (k := 131) rfl .nil))))))))) ?_
    refine W.seq ?_
    refine W.seq ?_
    refine W.region ?_
    refine RL.q (Yld.loadW (c := 107) Try.underlying42 rfl sz42 rfl rfl (by first | exact single_self _ _ | exact pset_self _ _ _ | assumption) rfl) rfl ?_
    refine RL.q (Yld.move rfl) rfl ?_
    refine RL.e (Eff.call ent52 [3] [3] (.cons rfl (.cons rfl .nil)) (rlterm_ct g hg _ _ _ hT a (by omega) (by omega)) rfl rfl rfl rfl (by rintro _ _ ⟨_, rfl⟩; rfl)) rfl ?_
    rintro _ _ ⟨_, ⟨rfl, rfl⟩, rfl⟩
    rw [ht]
    refine RL.q (Yld.move rfl) rfl ?_
    refine RL.q (Yld.extract rfl rfl) rfl ?_
    refine RL.q (Yld.extract rfl rfl) rfl ?_
    refine RL.q (Yld.assign rfl) rfl ?_
    refine RL.q (Yld.assign rfl) rfl ?_
    refine RL.nil ?_
    refine N.next ?_
    refine W.keep (.cons (k := 3) rfl (.cons (k := 4) rfl (.cons (k := 18) rfl (.cons (k := 19) rfl (.cons (k := 20) rfl .nil))))) (.cons (k := 0) rfl (.cons (k := 1) rfl (.cons (k := 2) rfl (.cons (k := 3) rfl (.cons (k := 105) rfl (.cons (k := 106) rfl (.cons (k := 107) rfl (.cons (k := 128) rfl (.cons (k := 131) rfl .nil))))))))) ?_
    refine W.seq ?_
    refine W.region ?_
    refine RL.q (Yld.move rfl) rfl ?_
    refine RL.q (Yld.move rfl) rfl ?_
    refine RL.q (Yld.bin rfl rfl BinV.gtr) rfl ?_
    refine RL.q (Yld.move rfl) rfl ?_
    refine' RL.and (t := 68) (d := 70) 2 rfl (.cons (k := 3) rfl (.cons (k := 4) rfl (.cons (k := 18) rfl (.cons (k := 19) rfl (.cons (k := 20) rfl (.cons (k := 65) rfl (.cons (k := 66) rfl (.cons (k := 67) rfl .nil)))))))) (.cons (k := 0) rfl (.cons (k := 1) rfl (.cons (k := 2) rfl (.cons (k := 3) rfl (.cons (k := 105) rfl (.cons (k := 106) rfl (.cons (k := 107) rfl (.cons (k := 128) rfl (.cons (k := 131) rfl .nil))))))))) ?_ ?_ ?_
    rotate_left 1
    ·
      intro hg68
      refine RL.gq rfl rfl (Yld.move rfl) rfl ?_
      refine RL.q (by first | exact Yld.pickT rfl rfl | exact Yld.pickF rfl rfl) rfl ?_
      exact RL.nil (N.meet (.cons rfl (.cons rfl (.cons rfl (.cons rfl (.cons rfl (.cons rfl (.cons rfl (.cons rfl (.cons rfl .nil))))))))) (.cons rfl (.cons rfl (.cons rfl (.cons rfl (.cons rfl (.cons rfl (.cons rfl (.cons rfl (.cons rfl .nil))))))))))
    ·
      intro hg68
      refine RL.gskip rfl rfl rfl rfl ?_
      refine RL.q (by first | exact Yld.pickT rfl rfl | exact Yld.pickF rfl rfl) rfl ?_
      exact RL.nil (N.meet (.cons rfl (.cons rfl (.cons rfl (.cons rfl (.cons rfl (.cons rfl (.cons rfl (.cons rfl (.cons rfl .nil))))))))) (.cons rfl (.cons rfl (.cons rfl (.cons rfl (.cons rfl (.cons rfl (.cons rfl (.cons rfl (.cons rfl .nil))))))))))
    refine RL.q (Yld.move rfl) rfl ?_
    refine' RL.and (t := 71) (d := 75) 4 rfl (.cons (k := 3) rfl (.cons (k := 4) rfl (.cons (k := 18) rfl (.cons (k := 19) rfl (.cons (k := 20) rfl (.cons (k := 65) rfl (.cons (k := 66) rfl (.cons (k := 67) rfl (.cons (k := 70) rfl .nil))))))))) (.cons (k := 0) rfl (.cons (k := 1) rfl (.cons (k := 2) rfl (.cons (k := 3) rfl (.cons (k := 105) rfl (.cons (k := 106) rfl (.cons (k := 107) rfl (.cons (k := 128) rfl (.cons (k := 131) rfl .nil))))))))) ?_ ?_ ?_
    rotate_left 1
    ·
      intro hg71
      refine RL.gq rfl rfl (Yld.move rfl) rfl ?_
      refine RL.gq rfl rfl (Yld.move rfl) rfl ?_
      refine RL.gq rfl rfl (Yld.bin rfl rfl BinV.eql) rfl ?_
      refine RL.q (by first | exact Yld.pickT rfl rfl | exact Yld.pickF rfl rfl) rfl ?_
      exact RL.nil (N.meet (.cons rfl (.cons rfl (.cons rfl (.cons rfl (.cons rfl (.cons rfl (.cons rfl (.cons rfl (.cons rfl (.cons rfl .nil)))))))))) (.cons rfl (.cons rfl (.cons rfl (.cons rfl (.cons rfl (.cons rfl (.cons rfl (.cons rfl (.cons rfl .nil))))))))))
    ·
      intro hg71
      refine RL.gskip rfl rfl rfl rfl ?_
      refine RL.gskip rfl rfl rfl rfl ?_
      refine RL.gskip rfl rfl rfl rfl ?_
      refine RL.q (by first | exact Yld.pickT rfl rfl | exact Yld.pickF rfl rfl) rfl ?_
      exact RL.nil (N.meet (.cons rfl (.cons rfl (.cons rfl (.cons rfl (.cons rfl (.cons rfl (.cons rfl (.cons rfl (.cons rfl (.cons rfl .nil)))))))))) (.cons rfl (.cons rfl (.cons rfl (.cons rfl (.cons rfl (.cons rfl (.cons rfl (.cons rfl (.cons rfl .nil))))))))))
    refine RL.nil ?_
    refine N.next ?_
    refine W.keep (.cons (k := 4) rfl (.cons (k := 18) rfl (.cons (k := 75) rfl .nil))) (.cons (k := 0) rfl (.cons (k := 1) rfl (.cons (k := 2) rfl (.cons (k := 3) rfl (.cons (k := 105) rfl (.cons (k := 106) rfl (.cons (k := 107) rfl (.cons (k := 128) rfl (.cons (k := 131) rfl .nil))))))))) ?_
    refine W.cond rfl (fun hc75 => ?_) (fun hc75 => ?_) <;> simp only [Bool.and_eq_true, decide_eq_true_eq] at hc75
    ·
      refine W.seq ?_
      refine W.region ?_
      refine RL.q (Yld.move rfl) rfl ?_
      refine RL.q (Yld.assign rfl) rfl ?_
      refine RL.nil ?_
      refine N.next ?_
      refine W.keep (.cons (k := 10) rfl .nil) (.cons (k := 0) rfl (.cons (k := 1) rfl (.cons (k := 2) rfl (.cons (k := 3) rfl (.cons (k := 105) rfl (.cons (k := 106) rfl (.cons (k := 107) rfl (.cons (k := 128) rfl (.cons (k := 131) rfl .nil))))))))) ?_
      refine W.ret ?_
      refine N.then_ret ?_
      exact N.retBy [1, 2, 3] (.cons (.tmp rfl) .nil) rfl rfl rfl rfl ⟨by rw [hcm, if_pos hc75]; rfl, rfl⟩
    ·
      refine W.skip ?_
      refine N.next ?_
      refine W.seq ?_
      refine W.region ?_
      refine RL.q (Yld.move rfl) rfl ?_
      refine RL.q (Yld.assign rfl) rfl ?_
      refine RL.nil ?_
      refine N.next ?_
      refine W.keep (.cons (k := 10) rfl .nil) (.cons (k := 0) rfl (.cons (k := 1) rfl (.cons (k := 2) rfl (.cons (k := 3) rfl (.cons (k := 105) rfl (.cons (k := 106) rfl (.cons (k := 107) rfl (.cons (k := 128) rfl (.cons (k := 131) rfl .nil))))))))) ?_
      refine W.ret ?_
      exact N.retBy [1, 2, 3] (.cons (.tmp rfl) .nil) rfl rfl rfl rfl ⟨by rw [hcm, if_neg (by rintro ⟨⟨h1, h2⟩, h3⟩; subst h2; subst h3; simp at hc75; omega)]; rfl, rfl⟩

end Go.Proofs.Ytdkefpnebmmhlaa
