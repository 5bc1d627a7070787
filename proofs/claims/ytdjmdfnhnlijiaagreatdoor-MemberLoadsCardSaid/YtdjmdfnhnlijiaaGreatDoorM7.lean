/- The functions of the laws. Written by program (walk2.py). -/
import Derived.Test.YtdjmdfnhnlijiaaGreatDoorM6
namespace Go.Proofs.YtdjmdfnhnlijiaaGreatDoor
open SL Cfg Memb
set_option linter.unusedVariables false
set_option linter.unusedSimpArgs false
theorem ent15 : Ent Tryz.prog 15 := ⟨_, _, Tryz.func15, by kernel_rfl, rfl⟩
theorem ent17 : Ent Tryz.prog 17 := ⟨_, _, Tryz.func17, by kernel_rfl, rfl⟩
theorem ent58 : Ent Tryz.prog 58 := ⟨_, _, Tryz.func58, by kernel_rfl, rfl⟩
theorem ent59 : Ent Tryz.prog 59 := ⟨_, _, Tryz.func59, by kernel_rfl, rfl⟩
theorem ent28 : Ent Tryz.prog 28 := ⟨_, _, Tryz.func28, by kernel_rfl, rfl⟩
theorem ent29 : Ent Tryz.prog 29 := ⟨_, _, Tryz.func29, by kernel_rfl, rfl⟩
theorem ent25 : Ent Tryz.prog 25 := ⟨_, _, Tryz.func25, by kernel_rfl, rfl⟩
set_option maxRecDepth 100000 in
set_option maxHeartbeats 1600000 in
theorem few_ct (l : List Ch) (q : Option Addr) (d : Nat) (H : PH) (hS : Sl H q d 4 (l.map Ch.cells)) (n : Int) : Ct Tryz.prog 7 [.slice q l.length d, .int .i64 n] [H] (fun v Hs => v = .bool (decide ((∀ c ∈ l, c.f.length ≤ 8 ∧ c.t.length ≤ 8) ∧ (l.length : Int) ≤ n)) ∧ Hs = [H]) := by
  refine Ct.body Tryz.func7 rfl Tryz.ntmps7 rfl ?_
  intro E F
  have hml := hS.len_le
  simp only [List.length_map, maxLen] at hml
  refine W.seq ?_
  refine W.region ?_
  refine RL.q (Yld.assign rfl) rfl ?_
  refine RL.nil ?_
  refine N.next ?_
  refine W.seq ?_
  refine W.seq ?_
  refine W.region ?_
  refine RL.q (Yld.move rfl) rfl ?_
  refine RL.q (Yld.lenSl Tryz.underlying23 rfl) rfl ?_
  refine RL.q (Yld.move rfl) rfl ?_
  refine RL.nil ?_
  refine N.next ?_
  refine W.block ?_
  refine W.loopK (ι := Nat) (fun j => (j ≤ l.length ∧ ∀ (i : Nat) c, i < j → l[i]? = some c → c.f.length ≤ 8 ∧ c.t.length ≤ 8)) (fun j => [(8, .int .i64 (j : Nat))]) (fun j => []) (fun j => l.length - j) (.cons (k := 0) rfl (.cons (k := 1) rfl (.cons (k := 7) rfl .nil))) (.cons (k := 0) rfl (.cons (k := 1) rfl .nil)) 0 ?_ ?_ ?_ ?_
  · exact ⟨Nat.zero_le _, fun _ _ h => absurd h (Nat.not_lt_zero _)⟩
  · exact (.as rfl (by first | rfl | (simp; done) | (congr 1; simp; done) | (congr 1; omega)) .nil)
  · exact .nil
  rintro j ⟨hj, hI⟩
  refine W.keep (.cons (k := 8) rfl (.cons (k := 0) rfl (.cons (k := 1) rfl (.cons (k := 7) rfl .nil)))) (.cons (k := 0) rfl (.cons (k := 1) rfl .nil)) ?_
  refine W.seq ?_
  refine W.region ?_
  refine RL.q (Yld.bin rfl rfl BinV.lss) rfl ?_
  refine RL.nil ?_
  refine N.next ?_
  refine W.seq ?_
  first | refine W.condD rfl (fun hc9 => ?_) (fun hc9 => ?_) | (refine W.cond rfl (fun hc9 => ?_) (fun hc9 => ?_) <;> try simp only [Bool.or_eq_true, Bool.and_eq_true, Bool.not_eq_true', Bool.not_eq_false', decide_eq_true_eq, Bool.or_eq_false_iff, Bool.and_eq_false_iff, decide_eq_false_iff_not, beq_iff_eq, beq_eq_false_iff_ne, ne_eq, Decidable.not_not] at hc9)
  ·
    obtain ⟨c, hcj⟩ : ∃ c, l[j]? = some c := ⟨_, List.getElem?_eq_getElem (show j < l.length by omega)⟩
    have hlc : (l.map Ch.cells)[j]? = some [.int .i64 c.k, .int .i64 c.m, .slice c.pf c.f.length c.cf, .slice c.pt c.t.length c.ct] := by simp [hcj, Ch.cells]
    refine W.skip ?_
    refine N.next ?_
    refine W.seq ?_
    refine W.block ?_
    refine W.seq ?_
    refine W.region ?_
    refine RL.q (Yld.move rfl) rfl ?_
    refine RL.q (Yld.assign rfl) rfl ?_
    refine RL.nil ?_
    refine N.next ?_
    refine W.seq ?_
    refine W.region ?_
    refine RL.q (Yld.move rfl) rfl ?_
    refine RL.q (Yld.move rfl) rfl ?_
    refine RL.q (Yld.indexRow Tryz.underlying23 sz41 rfl rfl (by first | assumption | exact Own.sl (by assumption)) (by first | rfl | omega | (simp; done) | (simp; omega)) (by omega) (by first | omega | (simp; done) | (simp; omega))) rfl ?_
    refine RL.q (Yld.fieldAddr fo41_2 rfl) rfl ?_
    refine RL.q (Yld.loadRowF (cl := 1) (j := 2) Tryz.underlying22 rfl rfl rfl (by first | assumption | exact Own.sl (by assumption)) (by assumption) rfl) rfl ?_
    refine RL.q (Yld.lenSl Tryz.underlying22 rfl) rfl ?_
    refine RL.q (Yld.bin rfl rfl BinV.gtr) rfl ?_
    refine RL.q (Yld.move rfl) rfl ?_
    refine' RL.or (t := 18) (d := 26) 8 rfl (.cons (k := 0) rfl (.cons (k := 1) rfl (.cons (k := 5) rfl (.cons (k := 7) rfl (.cons (k := 8) rfl (.cons (k := 9) rfl (.cons (k := 10) rfl (.cons (k := 11) rfl (.cons (k := 12) rfl (.cons (k := 13) rfl (.cons (k := 14) rfl (.cons (k := 15) rfl (.cons (k := 16) rfl (.cons (k := 17) rfl .nil)))))))))))))) (.cons (k := 0) rfl (.cons (k := 1) rfl .nil)) ?_ ?_ ?_
    rotate_left 1
    ·
      intro hg18
      refine RL.gq rfl rfl (Yld.move rfl) rfl ?_
      refine RL.gq rfl rfl (Yld.move rfl) rfl ?_
      refine RL.gq rfl rfl (Yld.indexRow Tryz.underlying23 sz41 rfl rfl (by first | assumption | exact Own.sl (by assumption)) (by first | rfl | omega | (simp; done) | (simp; omega)) (by omega) (by first | omega | (simp; done) | (simp; omega))) rfl ?_
      refine RL.gq rfl rfl (Yld.fieldAddr fo41_3 rfl) rfl ?_
      refine RL.gq rfl rfl (Yld.loadRowF (cl := 1) (j := 3) Tryz.underlying22 rfl rfl rfl (by first | assumption | exact Own.sl (by assumption)) (by assumption) rfl) rfl ?_
      refine RL.gq rfl rfl (Yld.lenSl Tryz.underlying22 rfl) rfl ?_
      refine RL.gq rfl rfl (Yld.bin rfl rfl BinV.gtr) rfl ?_
      refine RL.q (by first | exact Yld.pickT rfl rfl | exact Yld.pickF rfl rfl) rfl ?_
      exact RL.nil (N.meet (.cons rfl (.cons rfl (.cons rfl (.cons rfl (.cons rfl (.cons rfl (.cons rfl (.cons rfl (.cons rfl (.cons rfl (.cons rfl (.cons rfl (.cons rfl (.cons rfl (.cons rfl .nil))))))))))))))) (.cons rfl (.cons rfl .nil)))
    ·
      intro hg18
      refine RL.gskip rfl rfl rfl rfl ?_
      refine RL.gskip rfl rfl rfl rfl ?_
      refine RL.gskip rfl rfl rfl rfl ?_
      refine RL.gskip rfl rfl rfl rfl ?_
      refine RL.gskip rfl rfl rfl rfl ?_
      refine RL.gskip rfl rfl rfl rfl ?_
      refine RL.gskip rfl rfl rfl rfl ?_
      refine RL.q (by first | exact Yld.pickT rfl rfl | exact Yld.pickF rfl rfl) rfl ?_
      exact RL.nil (N.meet (.cons rfl (.cons rfl (.cons rfl (.cons rfl (.cons rfl (.cons rfl (.cons rfl (.cons rfl (.cons rfl (.cons rfl (.cons rfl (.cons rfl (.cons rfl (.cons rfl (.cons rfl .nil))))))))))))))) (.cons rfl (.cons rfl .nil)))
    refine RL.nil ?_
    refine N.next ?_
    refine W.keep (.cons (k := 0) rfl (.cons (k := 1) rfl (.cons (k := 7) rfl (.cons (k := 8) rfl (.cons (k := 26) rfl .nil))))) (.cons (k := 0) rfl (.cons (k := 1) rfl .nil)) ?_
    refine W.cond rfl (fun hc26 => ?_) (fun hc26 => ?_)
    ·
      have hok : ¬ (c.f.length ≤ 8 ∧ c.t.length ≤ 8) := by simp only [Bool.or_eq_true, decide_eq_true_eq] at hc26; omega
      refine W.seq ?_
      refine W.region ?_
      refine RL.q (Yld.assign rfl) rfl ?_
      refine RL.nil ?_
      refine N.next ?_
      refine W.keep (.cons (k := 4) rfl .nil) (.cons (k := 0) rfl (.cons (k := 1) rfl .nil)) ?_
      refine W.ret ?_
      refine N.block_ret ?_
      refine N.then_ret ?_
      refine N.then_ret ?_
      refine N.block_ret ?_
      refine N.then_ret ?_
      exact N.retBy [1] (.cons (.tmp rfl) .nil) rfl rfl rfl rfl ⟨by show Value.bool false = _; rw [Value.bool.injEq, eq_comm, decide_eq_false_iff_not]; exact fun h => hok (h.1 c (List.mem_of_getElem? hcj)), rfl⟩
    ·
      have hok : c.f.length ≤ 8 ∧ c.t.length ≤ 8 := by simp only [Bool.or_eq_false_iff, decide_eq_false_iff_not] at hc26; omega
      refine W.skip ?_
      refine N.block_normal ?_
      refine N.next ?_
      refine W.region ?_
      refine RL.q (Yld.bin rfl rfl (by first | exact BinV.add (by omega) (by omega) | exact BinV.addW)) rfl ?_
      refine RL.q (Yld.move rfl) rfl ?_
      refine RL.nil ?_
      exact N.famK (j + 1) ⟨⟨by omega, fun i y hi hy => (Nat.lt_succ_iff_lt_or_eq.1 hi).elim (fun h => hI i y h hy) (fun e => by subst e; rw [hcj] at hy; cases hy; exact hok)⟩, by omega⟩ (.as rfl (by first | rfl | (simp; done) | (congr 1; simp; done) | (congr 1; omega)) .nil) (.cons rfl (.cons rfl (.cons rfl .nil))) .nil (.cons rfl (.cons rfl .nil))
  ·
    have hall : ∀ c ∈ l, c.f.length ≤ 8 ∧ c.t.length ≤ 8 := fun c h => by obtain ⟨i, hi⟩ := List.getElem?_of_mem h; exact hI i c (by have := (List.getElem?_eq_some_iff.1 hi).1; omega) hi
    refine W.exit ?_
    refine N.then_exit ?_
    refine N.then_exit ?_
    refine N.block_eq ?_
    refine N.next ?_
    refine W.seq ?_
    refine W.region ?_
    refine RL.q (Yld.move rfl) rfl ?_
    refine RL.q (Yld.lenSl Tryz.underlying23 rfl) rfl ?_
    refine RL.q (Yld.move rfl) rfl ?_
    refine RL.q (Yld.bin rfl rfl BinV.leq) rfl ?_
    refine RL.q (Yld.assign rfl) rfl ?_
    refine RL.nil ?_
    refine N.next ?_
    refine W.keep (.cons (k := 4) rfl .nil) (.cons (k := 0) rfl (.cons (k := 1) rfl .nil)) ?_
    refine W.ret ?_
    exact N.retBy [1] (.cons (.tmp rfl) .nil) rfl rfl rfl rfl ⟨by show Value.bool _ = _; rw [Value.bool.injEq, decide_eq_decide]; exact ⟨fun h => ⟨hall, h⟩, fun h => h.2⟩, rfl⟩

set_option maxRecDepth 100000 in
set_option maxHeartbeats 1600000 in
theorem same_ct (b : Nat) (x : Cf) (G : PH) (hx : x.In G) (w : Cf) (H2 : PH) (hw : w.In H2) (hsx : SmS [(x.po, x.co, x.o), (x.pn, x.cn, x.n), (x.pl, x.cl, x.l)]) (he : gl w = gl x) : Ct Tryz.prog 25 [.pointer (some ⟨b, 0, none⟩), .agg [.slice w.po w.o.length w.co, .slice w.pn w.n.length w.cn, .slice w.pl w.l.length w.cl].toArray] [single b (.cells [.slice x.po x.o.length x.co, .slice x.pn x.n.length x.cn, .slice x.pl x.l.length x.cl].toArray 60 (0, 0)), G, H2] (fun v Hs => v = .bool true ∧ Hs = [single b (.cells [.slice x.po x.o.length x.co, .slice x.pn x.n.length x.cn, .slice x.pl x.l.length x.cl].toArray 60 (0, 0)), G, H2]) := by
  refine Ct.body Tryz.func25 rfl Tryz.ntmps25 rfl ?_
  intro E F
  have h3 : w.o = x.o ∧ w.n = x.n ∧ w.l = x.l := by simpa [gl] using he
  obtain ⟨e1, e2, e3⟩ := h3
  have hq1 := hsx _ (by simp : (x.po, x.co, x.o) ∈ _)
  have hq2 := hsx _ (by simp : (x.pn, x.cn, x.n) ∈ _)
  have hq3 := hsx _ (by simp : (x.pl, x.cl, x.l) ∈ _)
  dsimp only at hq1 hq2 hq3
  have hbo := hq1.2
  have hbn := hq2.2
  have hbl := hq3.2
  have hsw : SmS [(w.po, w.co, w.o), (w.pn, w.cn, w.n), (w.pl, w.cl, w.l)] := by
    intro s hs
    simp only [List.mem_cons, List.not_mem_nil, or_false] at hs
    rcases hs with rfl | rfl | rfl
    · rw [e1]; exact hq1
    · rw [e2]; exact hq2
    · rw [e3]; exact hq3
  obtain ⟨hwo, hwn, hwl⟩ := hw
  have hw : w.In H2 := ⟨hwo, hwn, hwl⟩
  refine W.seq ?_
  refine W.region ?_
  refine RL.e (Eff.box 103 _ rfl rfl) rfl ?_
  rintro _ _ ⟨b3, rfl, rfl⟩
  refine RL.q (Yld.assign rfl) rfl ?_
  refine RL.nil ?_
  refine N.next ?_
  refine W.seq ?_
  refine W.draw (.q 0 (.q 2 (.q 3 (.one 1 (.one 4 (.q 5 (.q 6 (.q 8 (.q 9 (.one 7 (.one 10 (.q 11 (.q 12 (.q 13 (.q 15 (.q 16 (.one 14 (.one 17 (.q 18 (.q 19 (.q 20 (.q 22 (.one 21 (.one 23 (.q 24 (.q 25 (.q 26 .done))))))))))))))))))))))))))) (.cons (k := 0) rfl (.cons (k := 1) rfl (.cons (k := 2) rfl (.cons (k := 3) rfl (.cons (k := 103) rfl .nil))))) mix (by kernel_rfl) (by kernel_rfl) ?_
  refine DL.q rfl (Yld.move rfl) rfl ?_
  refine DL.q rfl (Yld.fieldAddr fo31_0 rfl) rfl ?_
  refine DL.q rfl (Yld.load1 (c := 103) Tryz.underlying22 rfl rfl rfl (by first | exact single_self _ _ | exact pset_self _ _ _ | assumption) rfl) rfl ?_
  refine DL.one rfl (Eff.call ent15 [1, 2] [1, 2, 50] (.cons rfl .nil) (mvot_ct b x G hx (by omega)) rfl rfl rfl rfl (by rintro _ _ ⟨_, _, _, _, _, rfl⟩; rfl)) rfl (by rintro _ _ ⟨_, ⟨Ha, pa, ca, rfl, hOa, rfl⟩, rfl⟩; repeat (first | exact .nil | refine .cons rfl ?_)) ?_
  rintro _ _ ⟨_, ⟨Ha, pa, ca, rfl, hOa, rfl⟩, rfl⟩
  refine DL.one rfl (Eff.call ent16 [50, 3] [50, 3] (.cons rfl (.cons rfl .nil)) (ints_ct x.o _ _ _ hOa.sl w.o _ _ _ hwo) rfl rfl rfl rfl (by rintro _ _ ⟨_, rfl⟩; rfl)) rfl (by rintro _ _ ⟨_, ⟨rfl, rfl⟩, rfl⟩; repeat (first | exact .nil | refine .cons rfl ?_)) ?_
  rintro _ _ ⟨_, ⟨rfl, rfl⟩, rfl⟩
  rw [decide_eq_true e1.symm]
  refine DL.q rfl (Yld.move rfl) rfl ?_
  first | refine DL.as (t := 10) rfl (boolT (by first | assumption | omega | (simp; done))) ?_ | refine DL.as (t := 10) (v := .bool true) rfl rfl ?_
  refine DL.gq rfl rfl rfl (Yld.move rfl) rfl ?_
  refine DL.gq rfl rfl rfl (Yld.fieldAddr fo31_1 rfl) rfl ?_
  refine DL.gq rfl rfl rfl (Yld.load1 (c := 103) Tryz.underlying22 rfl rfl rfl (by first | exact single_self _ _ | exact pset_self _ _ _ | assumption) rfl) rfl ?_
  refine DL.gone rfl rfl rfl (Eff.call ent17 [1, 2] [1, 2, 51] (.cons rfl .nil) (mlea_ct b x G hx (by omega)) rfl rfl rfl rfl (by rintro _ _ ⟨_, _, _, _, _, rfl⟩; rfl)) rfl (by rintro _ _ ⟨_, ⟨Hb, pb, cb, rfl, hOb, rfl⟩, rfl⟩; repeat (first | exact .nil | refine .cons rfl ?_)) ?_
  rintro _ _ ⟨_, ⟨Hb, pb, cb, rfl, hOb, rfl⟩, rfl⟩
  refine DL.gone rfl rfl rfl (Eff.call ent16 [51, 3] [51, 3] (.cons rfl (.cons rfl .nil)) (ints_ct x.n _ _ _ hOb.sl w.n _ _ _ hwn) rfl rfl rfl rfl (by rintro _ _ ⟨_, rfl⟩; rfl)) rfl (by rintro _ _ ⟨_, ⟨rfl, rfl⟩, rfl⟩; repeat (first | exact .nil | refine .cons rfl ?_)) ?_
  rintro _ _ ⟨_, ⟨rfl, rfl⟩, rfl⟩
  rw [decide_eq_true e2.symm]
  refine DL.q rfl (by first | exact Yld.pickT rfl rfl | exact Yld.pickF rfl rfl) rfl ?_
  refine DL.q rfl (Yld.move rfl) rfl ?_
  first | refine DL.as (t := 17) rfl (boolT (by first | assumption | omega | (simp; done))) ?_ | refine DL.as (t := 17) (v := .bool true) rfl rfl ?_
  refine DL.gq rfl rfl rfl (Yld.move rfl) rfl ?_
  refine DL.gq rfl rfl rfl (Yld.fieldAddr fo31_2 rfl) rfl ?_
  refine DL.gq rfl rfl rfl (Yld.load1 (c := 103) Tryz.underlying22 rfl rfl rfl (by first | exact single_self _ _ | exact pset_self _ _ _ | assumption) rfl) rfl ?_
  refine DL.gone rfl rfl rfl (Eff.call ent58 [1, 2] [1, 2, 52] (.cons rfl .nil) (mkno_ct b x G hx (by omega)) rfl rfl rfl rfl (by rintro _ _ ⟨_, _, _, _, _, rfl⟩; rfl)) rfl (by rintro _ _ ⟨_, ⟨Hc, pc, cc, rfl, hOc, rfl⟩, rfl⟩; repeat (first | exact .nil | refine .cons rfl ?_)) ?_
  rintro _ _ ⟨_, ⟨Hc, pc, cc, rfl, hOc, rfl⟩, rfl⟩
  refine DL.gone rfl rfl rfl (Eff.call ent16 [52, 3] [52, 3] (.cons rfl (.cons rfl .nil)) (ints_ct x.l _ _ _ hOc.sl w.l _ _ _ hwl) rfl rfl rfl rfl (by rintro _ _ ⟨_, rfl⟩; rfl)) rfl (by rintro _ _ ⟨_, ⟨rfl, rfl⟩, rfl⟩; repeat (first | exact .nil | refine .cons rfl ?_)) ?_
  rintro _ _ ⟨_, ⟨rfl, rfl⟩, rfl⟩
  rw [decide_eq_true e3.symm]
  refine DL.q rfl (by first | exact Yld.pickT rfl rfl | exact Yld.pickF rfl rfl) rfl ?_
  refine DL.q rfl (Yld.move rfl) rfl ?_
  first | refine DL.as (t := 24) rfl (boolT (by first | assumption | omega | (simp; done))) ?_ | refine DL.as (t := 24) (v := .bool true) rfl rfl ?_
  refine DL.gq rfl rfl rfl (Yld.move rfl) rfl ?_
  refine DL.gq rfl rfl rfl (Yld.loadW (c := 103) Tryz.underlying31 rfl sz31 rfl rfl (by first | exact single_self _ _ | exact pset_self _ _ _ | assumption) rfl) rfl ?_
  refine DL.gone rfl rfl rfl (Eff.call ent22 [1, 2] [1, 2] (.cons rfl .nil) (msave_ct b x G hx hsx) rfl rfl rfl rfl (by rintro _ _ ⟨_, rfl⟩; rfl)) rfl (by rintro _ _ ⟨_, ⟨rfl, rfl⟩, rfl⟩; repeat (first | exact .nil | refine .cons rfl ?_)) ?_
  rintro _ _ ⟨_, ⟨rfl, rfl⟩, rfl⟩
  refine DL.gone rfl rfl rfl (Eff.call ent59 [3] [3] (.cons rfl .nil) (rmsave_ct w H2 hw hsw) rfl rfl rfl rfl (by rintro _ _ ⟨_, rfl⟩; rfl)) rfl (by rintro _ _ ⟨_, ⟨rfl, rfl⟩, rfl⟩; repeat (first | exact .nil | refine .cons rfl ?_)) ?_
  rintro _ _ ⟨_, ⟨rfl, rfl⟩, rfl⟩
  refine DL.gq rfl rfl rfl (Yld.eq (v' := .bool true) (Yld.bin rfl rfl BinV.eqlS) (by rw [e1, e2, e3]; simp)) rfl ?_
  refine DL.q rfl (by first | exact Yld.pickT rfl rfl | exact Yld.pickF rfl rfl) rfl ?_
  refine DL.q rfl (Yld.assign rfl) rfl ?_
  refine DL.done ?_
  refine N.next ?_
  refine W.keep (.cons (k := 4) rfl .nil) (.cons (k := 0) rfl (.cons (k := 1) rfl (.cons (k := 2) rfl (.cons (k := 3) rfl (.cons (k := 50) rfl (.cons (k := 51) rfl (.cons (k := 52) rfl (.cons (k := 103) rfl .nil)))))))) ?_
  refine W.ret ?_
  exact N.retBy [1, 2, 3] (.cons (.tmp rfl) .nil) rfl rfl rfl rfl ⟨rfl, rfl⟩

structure Memb.RI where
  j : Nat
  x : Cf
  G : PH
  w : Cf
  H : PH
structure Memb.QI2 where
  j : Nat
  x : Cf
  G : PH
  K : PH
  p : Option Addr
  c : Nat

set_option maxRecDepth 100000 in
set_option maxHeartbeats 3200000 in
theorem run_ct (vs : List Int) (H : PH) (p : Option Addr) (e : Nat) (hv : Sl H p e 1 (iz vs)) (hvi : ∀ z ∈ vs, -9223372036854775808 ≤ z ∧ z ≤ 9223372036854775807) (l : List Ch) (q : Option Addr) (d : Nat) (hS : Sl H q d 4 (l.map Ch.cells)) (hC : ∀ c ∈ l, c.In H) (hI : ∀ c ∈ l, c.Sm) (hv8 : vs.length ≤ 8) (hl : l.length ≤ 100) : Ct Tryz.prog 9 [.slice p vs.length e, .slice q l.length d] [H] (fun v Hs => ∃ (b : Nat) (x : Cf) (G : PH) (w : Cf) (H2 : PH), v = .tuple [.pointer (some ⟨b, 0, none⟩), .agg [.slice w.po w.o.length w.co, .slice w.pn w.n.length w.cn, .slice w.pl w.l.length w.cl].toArray, .bool true].toArray ∧ x.In G ∧ w.In H2 ∧ gl x = runG vs l ∧ gl w = gl x ∧ Hs = [H, single b (.cells [.slice x.po x.o.length x.co, .slice x.pn x.n.length x.cn, .slice x.pl x.l.length x.cl].toArray 60 (0, 0)), G, H2]) := by
  refine Ct.body Tryz.func9 rfl Tryz.ntmps9 rfl ?_
  intro E F
  have hml := hS.len_le
  simp only [List.length_map, maxLen] at hml
  refine W.seq ?_
  refine W.region ?_
  refine RL.q (Yld.assign rfl) rfl ?_
  refine RL.e (Eff.alloc 105 zc31) rfl ?_
  rintro _ _ ⟨b5, rfl, rfl⟩
  refine RL.q (Yld.assign rfl) rfl ?_
  refine RL.nil ?_
  refine N.next ?_
  refine W.seq ?_
  refine W.region ?_
  refine RL.q (Yld.move rfl) rfl ?_
  refine RL.e (Eff.call ent20 [1] [1, 150, 151] (.cons rfl .nil) (mnew_ct vs _ _ _ hv (by omega)) rfl rfl rfl rfl (by rintro _ _ ⟨_, _, _, _, _, _, _, _, rfl⟩; rfl)) rfl ?_
  rintro _ _ ⟨_, ⟨b, x, G, rfl, hx, x1, x2, x3, rfl⟩, rfl⟩
  refine RL.q (Yld.move rfl) rfl ?_
  refine RL.e (Eff.call ent28 [1] [1, 152] (.cons rfl .nil) (rmnew_ct vs _ _ _ hv (by omega)) rfl rfl rfl rfl (by rintro _ _ ⟨_, _, _, _, _, _, _, rfl⟩; rfl)) rfl ?_
  rintro _ _ ⟨_, ⟨w, Hw, rfl, hw, w1, w2, w3, rfl⟩, rfl⟩
  refine RL.e (Eff.alloc 108 zc31) rfl ?_
  rintro _ _ ⟨b8, rfl, rfl⟩
  refine RL.q (Yld.assign rfl) rfl ?_
  refine RL.e0 (Eff.storeS (c := 108) _ sz31 rfl rfl rfl rfl rfl rfl rfl (by (try simp only [putAt, List.take, List.drop, List.nil_append, List.cons_append, List.append_nil, List.length_cons, List.length_nil, Nat.add_zero, Nat.zero_add, Nat.reduceAdd]); rfl)) ?_
  rintro _ _ rfl
  refine RL.nil ?_
  refine N.next ?_
  refine W.keep (.cons (k := 1) rfl (.cons (k := 5) rfl (.cons (k := 7) rfl (.cons (k := 8) rfl .nil)))) (.cons (k := 0) rfl (.cons (k := 1) rfl (.cons (k := 105) rfl (.cons (k := 108) rfl (.cons (k := 150) rfl (.cons (k := 151) rfl (.cons (k := 152) rfl .nil))))))) ?_
  refine W.seq ?_
  refine W.seq ?_
  refine W.region ?_
  refine RL.q (Yld.move rfl) rfl ?_
  refine RL.q (Yld.bin rfl rfl (BinV.eqlPN Tryz.underlying29)) rfl ?_
  refine RL.nil ?_
  refine N.next ?_
  first | (refine W.as (t := 17) rfl (boolF (by first | assumption | omega | (simp; done))) ?_; refine W.condF rfl ?_) | refine W.condF rfl ?_
  refine W.skip ?_
  refine N.next ?_
  refine W.seq ?_
  refine W.seq ?_
  refine W.region ?_
  refine RL.q (Yld.move rfl) rfl ?_
  refine RL.q (Yld.lenSl Tryz.underlying23 rfl) rfl ?_
  refine RL.q (Yld.move rfl) rfl ?_
  refine RL.nil ?_
  refine N.next ?_
  refine W.block ?_
  refine W.loopK (ι := RI) (fun y => (y.j ≤ l.length ∧ y.x.In y.G ∧ y.w.In y.H ∧ gl y.x = runG vs (l.take y.j) ∧ gl y.w = gl y.x)) (fun y => [(22, .int .i64 (y.j : Nat))]) (fun y => [(108, single b8 (.cells [.slice y.w.po y.w.o.length y.w.co, .slice y.w.pn y.w.n.length y.w.cn, .slice y.w.pl y.w.l.length y.w.cl].toArray 31 (0, 0))), (150, single b (.cells [.slice y.x.po y.x.o.length y.x.co, .slice y.x.pn y.x.n.length y.x.cn, .slice y.x.pl y.x.l.length y.x.cl].toArray 60 (0, 0))), (151, y.G), (152, y.H)]) (fun y => l.length - y.j) (.cons (k := 1) rfl (.cons (k := 5) rfl (.cons (k := 7) rfl (.cons (k := 8) rfl (.cons (k := 21) rfl .nil))))) (.cons (k := 0) rfl (.cons (k := 1) rfl (.cons (k := 105) rfl .nil))) ⟨0, x, G, w, Hw⟩ ?_ ?_ ?_ ?_
  · exact ⟨Nat.zero_le _, hx, hw, by show gl x = runG vs (l.take 0); rw [List.take_zero]; unfold gl runG; rw [x1, x2, x3]; rfl, by show gl w = gl x; unfold gl; rw [x1, x2, x3, w1, w2, w3]⟩
  · exact (.as rfl (by first | rfl | (simp; done) | (congr 1; simp; done) | (congr 1; omega)) .nil)
  · exact (.cons rfl (.cons rfl (.cons rfl (.cons rfl .nil))))
  rintro y ⟨hj, hyx, hyw, hgx, hgw⟩
  refine W.keep (.cons (k := 22) rfl (.cons (k := 1) rfl (.cons (k := 5) rfl (.cons (k := 7) rfl (.cons (k := 8) rfl (.cons (k := 21) rfl .nil)))))) (.cons (k := 108) rfl (.cons (k := 150) rfl (.cons (k := 151) rfl (.cons (k := 152) rfl (.cons (k := 0) rfl (.cons (k := 1) rfl (.cons (k := 105) rfl .nil))))))) ?_
  refine W.seq ?_
  refine W.region ?_
  refine RL.q (Yld.bin rfl rfl BinV.lss) rfl ?_
  refine RL.nil ?_
  refine N.next ?_
  refine W.seq ?_
  first | refine W.condD rfl (fun hc23 => ?_) (fun hc23 => ?_) | (refine W.cond rfl (fun hc23 => ?_) (fun hc23 => ?_) <;> try simp only [Bool.or_eq_true, Bool.and_eq_true, Bool.not_eq_true', Bool.not_eq_false', decide_eq_true_eq, Bool.or_eq_false_iff, Bool.and_eq_false_iff, decide_eq_false_iff_not, beq_iff_eq, beq_eq_false_iff_ne, ne_eq, Decidable.not_not] at hc23)
  ·
    obtain ⟨c, hcj⟩ : ∃ c, l[y.j]? = some c := ⟨_, List.getElem?_eq_getElem (show y.j < l.length by omega)⟩
    have hlc : (l.map Ch.cells)[y.j]? = some [.int .i64 c.k, .int .i64 c.m, .slice c.pf c.f.length c.cf, .slice c.pt c.t.length c.ct] := by simp [hcj, Ch.cells]
    have hcc := hC c (List.mem_of_getElem? hcj)
    have hcs := hI c (List.mem_of_getElem? hcj)
    have hgk : GOK y.j (gl y.x) := hgx ▸ runG_ok hv8 hvi hI y.j hj
    refine W.skip ?_
    refine N.next ?_
    refine W.seq ?_
    refine W.block ?_
    refine W.seq ?_
    refine W.region ?_
    refine RL.q (Yld.move rfl) rfl ?_
    refine RL.q (Yld.assign rfl) rfl ?_
    refine RL.nil ?_
    refine N.next ?_
    refine W.seq ?_
    refine W.draw (.q 0 (.q 1 (.q 2 (.q 3 (.q 4 (.two 5 (.q 6 (.q 7 (.q 8 (.one 9 (.one 10 (.q 11 .done)))))) 9 (.one 5 (.q 6 (.q 7 (.q 8 (.one 10 (.q 11 .done)))))))))))) (.cons (k := 0) rfl (.cons (k := 1) rfl (.cons (k := 105) rfl (.cons (k := 108) rfl (.cons (k := 150) rfl (.cons (k := 151) rfl .nil)))))) mix (by kernel_rfl) (by kernel_rfl) ?_
    refine DL.q rfl (Yld.loadW (c := 108) Tryz.underlying31 rfl sz31 rfl rfl (by first | exact single_self _ _ | exact pset_self _ _ _ | assumption) rfl) rfl ?_
    refine DL.q rfl (Yld.move rfl) rfl ?_
    refine DL.q rfl (Yld.move rfl) rfl ?_
    refine DL.q rfl (Yld.indexRow Tryz.underlying23 sz41 rfl rfl (by first | assumption | exact Own.sl (by assumption)) (by first | rfl | omega | (simp; done) | (simp; omega)) (by omega) (by first | omega | (simp; done) | (simp; omega))) rfl ?_
    refine DL.q rfl (by first | exact Yld.loadRow (cl := 1) Tryz.underlying41 rfl sz41 rfl rfl (by first | assumption | exact Own.sl (by assumption)) (by assumption) | exact Yld.loadRow (cl := 105) Tryz.underlying41 rfl sz41 rfl rfl (by first | assumption | exact Own.sl (by assumption)) (by assumption) | exact Yld.loadRow (cl := 108) Tryz.underlying41 rfl sz41 rfl rfl (by first | assumption | exact Own.sl (by assumption)) (by assumption) | exact Yld.loadRow (cl := 150) Tryz.underlying41 rfl sz41 rfl rfl (by first | assumption | exact Own.sl (by assumption)) (by assumption) | exact Yld.loadRow (cl := 151) Tryz.underlying41 rfl sz41 rfl rfl (by first | assumption | exact Own.sl (by assumption)) (by assumption) | exact Yld.loadRow (cl := 152) Tryz.underlying41 rfl sz41 rfl rfl (by first | assumption | exact Own.sl (by assumption)) (by assumption)) rfl ?_
    refine DL.two ?_ ?_
    ·
      refine DL.one rfl (Eff.call ent29 [152, 1] [152, 1] (.cons rfl (.cons rfl .nil)) (radmit_ct y.w y.H hyw c H hcc y.j (by omega) (hgw ▸ hgk) hcs) rfl rfl rfl rfl (by rintro _ _ ⟨_, _, _, _, _, rfl⟩; rfl)) rfl (by rintro _ _ ⟨_, ⟨w2, H2, rfl, hw2, hgw2, rfl⟩, rfl⟩; repeat (first | exact .nil | refine .cons rfl ?_)) ?_
      rintro _ _ ⟨_, ⟨w2, H2, rfl, hw2, hgw2, rfl⟩, rfl⟩
      refine DL.q rfl (Yld.move rfl) rfl ?_
      refine DL.q rfl (Yld.extract rfl rfl) rfl ?_
      refine DL.q rfl (Yld.extract rfl rfl) rfl ?_
      refine DL.one rfl (Eff.alloc 110 zc31) rfl (by rintro _ _ ⟨b10, rfl, rfl⟩; repeat (first | exact .nil | refine .cons rfl ?_)) ?_
      rintro _ _ ⟨b10, rfl, rfl⟩
      refine DL.one0 rfl (Eff.storeS (c := 110) _ sz31 rfl rfl rfl rfl rfl rfl rfl (by (try simp only [putAt, List.take, List.drop, List.nil_append, List.cons_append, List.append_nil, List.length_cons, List.length_nil, Nat.add_zero, Nat.zero_add, Nat.reduceAdd]); rfl)) (by rintro _ _ rfl; repeat (first | exact .nil | refine .cons rfl ?_)) ?_
      rintro _ _ rfl
      refine DL.q rfl (Yld.assign rfl) rfl ?_
      refine DL.done ?_
      refine N.next ?_
      refine W.keep (.cons (k := 1) rfl (.cons (k := 5) rfl (.cons (k := 7) rfl (.cons (k := 8) rfl (.cons (k := 9) rfl (.cons (k := 10) rfl (.cons (k := 11) rfl (.cons (k := 21) rfl (.cons (k := 22) rfl .nil))))))))) (.cons (k := 0) rfl (.cons (k := 1) rfl (.cons (k := 105) rfl (.cons (k := 108) rfl (.cons (k := 110) rfl (.cons (k := 150) rfl (.cons (k := 151) rfl (.cons (k := 152) rfl .nil)))))))) ?_
      refine W.seq ?_
      refine W.region ?_
      refine RL.q (Yld.loadW (c := 110) Tryz.underlying31 rfl sz31 rfl rfl (by first | exact single_self _ _ | exact pset_self _ _ _ | assumption) rfl) rfl ?_
      refine RL.e0 (Eff.storeS (c := 108) _ sz31 rfl rfl rfl rfl rfl rfl rfl (by (try simp only [putAt, List.take, List.drop, List.nil_append, List.cons_append, List.append_nil, List.length_cons, List.length_nil, Nat.add_zero, Nat.zero_add, Nat.reduceAdd]); rfl)) ?_
      rintro _ _ rfl
      refine RL.nil ?_
      refine N.next ?_
      refine W.seq ?_
      refine W.region ?_
      refine RL.q (Yld.move rfl) rfl ?_
      refine RL.q (Yld.move rfl) rfl ?_
      refine RL.q (Yld.move rfl) rfl ?_
      refine RL.q (Yld.indexRow Tryz.underlying23 sz41 rfl rfl (by first | assumption | exact Own.sl (by assumption)) (by first | rfl | omega | (simp; done) | (simp; omega)) (by omega) (by first | omega | (simp; done) | (simp; omega))) rfl ?_
      refine RL.q (by first | exact Yld.loadRow (cl := 110) Tryz.underlying41 rfl sz41 rfl rfl (by first | assumption | exact Own.sl (by assumption)) (by assumption) | exact Yld.loadRow (cl := 152) Tryz.underlying41 rfl sz41 rfl rfl (by first | assumption | exact Own.sl (by assumption)) (by assumption) | exact Yld.loadRow (cl := 1) Tryz.underlying41 rfl sz41 rfl rfl (by first | assumption | exact Own.sl (by assumption)) (by assumption) | exact Yld.loadRow (cl := 105) Tryz.underlying41 rfl sz41 rfl rfl (by first | assumption | exact Own.sl (by assumption)) (by assumption) | exact Yld.loadRow (cl := 108) Tryz.underlying41 rfl sz41 rfl rfl (by first | assumption | exact Own.sl (by assumption)) (by assumption) | exact Yld.loadRow (cl := 150) Tryz.underlying41 rfl sz41 rfl rfl (by first | assumption | exact Own.sl (by assumption)) (by assumption) | exact Yld.loadRow (cl := 151) Tryz.underlying41 rfl sz41 rfl rfl (by first | assumption | exact Own.sl (by assumption)) (by assumption)) rfl ?_
      refine RL.e (Eff.call ent23 [150, 151, 1] [150, 151, 1] (.cons rfl (.cons rfl .nil)) (admit_ct b y.x y.G hyx c H hcc y.j (by omega) hgk hcs) rfl rfl rfl rfl (by rintro _ _ ⟨_, _, _, _, _, rfl⟩; rfl)) rfl ?_
      rintro _ _ ⟨_, ⟨x2, G2, rfl, hx2, hgx2, rfl⟩, rfl⟩
      refine RL.q (Yld.move rfl) rfl ?_
      refine RL.q (Yld.eq (v' := .bool false) (Yld.bin rfl rfl BinV.neq) (by rw [hgw]; simp)) rfl ?_
      refine RL.nil ?_
      refine N.next ?_
      refine W.keep (.cons (k := 1) rfl (.cons (k := 5) rfl (.cons (k := 7) rfl (.cons (k := 8) rfl (.cons (k := 21) rfl (.cons (k := 22) rfl (.cons (k := 42) rfl .nil))))))) (.cons (k := 0) rfl (.cons (k := 1) rfl (.cons (k := 105) rfl (.cons (k := 108) rfl (.cons (k := 110) rfl (.cons (k := 150) rfl (.cons (k := 151) rfl (.cons (k := 152) rfl .nil)))))))) ?_
      first | (refine W.as (t := 42) rfl (boolF (by first | assumption | omega | (simp; done))) ?_; refine W.condF rfl ?_) | refine W.condF rfl ?_
      refine W.skip ?_
      refine N.block_normal ?_
      refine N.next ?_
      refine W.region ?_
      refine RL.q (Yld.bin rfl rfl (by first | exact BinV.add (by omega) (by omega) | exact BinV.addW)) rfl ?_
      refine RL.q (Yld.move rfl) rfl ?_
      refine RL.nil ?_
      exact N.famK ⟨y.j + 1, x2, G2, w2, H2⟩ ⟨⟨by dsimp only; omega, hx2, hw2, by dsimp only; rw [hgx2, hgx, runG_take hcj], by dsimp only; rw [hgx2, hgw2, hgw]⟩, by dsimp only; omega⟩ (.as rfl (by first | rfl | (simp; done) | (congr 1; simp; done) | (congr 1; omega)) .nil) (.cons rfl (.cons rfl (.cons rfl (.cons rfl (.cons rfl .nil))))) (.cons rfl (.cons rfl (.cons rfl (.cons rfl .nil)))) (.cons rfl (.cons rfl (.cons rfl .nil)))
    ·
      refine DL.one rfl (Eff.alloc 110 zc31) rfl (by rintro _ _ ⟨b10, rfl, rfl⟩; repeat (first | exact .nil | refine .cons rfl ?_)) ?_
      rintro _ _ ⟨b10, rfl, rfl⟩
      refine DL.one rfl (Eff.call ent29 [152, 1] [152, 1] (.cons rfl (.cons rfl .nil)) (radmit_ct y.w y.H hyw c H hcc y.j (by omega) (hgw ▸ hgk) hcs) rfl rfl rfl rfl (by rintro _ _ ⟨_, _, _, _, _, rfl⟩; rfl)) rfl (by rintro _ _ ⟨_, ⟨w2, H2, rfl, hw2, hgw2, rfl⟩, rfl⟩; repeat (first | exact .nil | refine .cons rfl ?_)) ?_
      rintro _ _ ⟨_, ⟨w2, H2, rfl, hw2, hgw2, rfl⟩, rfl⟩
      refine DL.q rfl (Yld.move rfl) rfl ?_
      refine DL.q rfl (Yld.extract rfl rfl) rfl ?_
      refine DL.q rfl (Yld.extract rfl rfl) rfl ?_
      refine DL.one0 rfl (Eff.storeS (c := 110) _ sz31 rfl rfl rfl rfl rfl rfl rfl (by (try simp only [putAt, List.take, List.drop, List.nil_append, List.cons_append, List.append_nil, List.length_cons, List.length_nil, Nat.add_zero, Nat.zero_add, Nat.reduceAdd]); rfl)) (by rintro _ _ rfl; repeat (first | exact .nil | refine .cons rfl ?_)) ?_
      rintro _ _ rfl
      refine DL.q rfl (Yld.assign rfl) rfl ?_
      refine DL.done ?_
      refine N.next ?_
      refine W.keep (.cons (k := 1) rfl (.cons (k := 5) rfl (.cons (k := 7) rfl (.cons (k := 8) rfl (.cons (k := 9) rfl (.cons (k := 10) rfl (.cons (k := 11) rfl (.cons (k := 21) rfl (.cons (k := 22) rfl .nil))))))))) (.cons (k := 0) rfl (.cons (k := 1) rfl (.cons (k := 105) rfl (.cons (k := 108) rfl (.cons (k := 110) rfl (.cons (k := 150) rfl (.cons (k := 151) rfl (.cons (k := 152) rfl .nil)))))))) ?_
      refine W.seq ?_
      refine W.region ?_
      refine RL.q (Yld.loadW (c := 110) Tryz.underlying31 rfl sz31 rfl rfl (by first | exact single_self _ _ | exact pset_self _ _ _ | assumption) rfl) rfl ?_
      refine RL.e0 (Eff.storeS (c := 108) _ sz31 rfl rfl rfl rfl rfl rfl rfl (by (try simp only [putAt, List.take, List.drop, List.nil_append, List.cons_append, List.append_nil, List.length_cons, List.length_nil, Nat.add_zero, Nat.zero_add, Nat.reduceAdd]); rfl)) ?_
      rintro _ _ rfl
      refine RL.nil ?_
      refine N.next ?_
      refine W.seq ?_
      refine W.region ?_
      refine RL.q (Yld.move rfl) rfl ?_
      refine RL.q (Yld.move rfl) rfl ?_
      refine RL.q (Yld.move rfl) rfl ?_
      refine RL.q (Yld.indexRow Tryz.underlying23 sz41 rfl rfl (by first | assumption | exact Own.sl (by assumption)) (by first | rfl | omega | (simp; done) | (simp; omega)) (by omega) (by first | omega | (simp; done) | (simp; omega))) rfl ?_
      refine RL.q (by first | exact Yld.loadRow (cl := 152) Tryz.underlying41 rfl sz41 rfl rfl (by first | assumption | exact Own.sl (by assumption)) (by assumption) | exact Yld.loadRow (cl := 1) Tryz.underlying41 rfl sz41 rfl rfl (by first | assumption | exact Own.sl (by assumption)) (by assumption) | exact Yld.loadRow (cl := 110) Tryz.underlying41 rfl sz41 rfl rfl (by first | assumption | exact Own.sl (by assumption)) (by assumption) | exact Yld.loadRow (cl := 105) Tryz.underlying41 rfl sz41 rfl rfl (by first | assumption | exact Own.sl (by assumption)) (by assumption) | exact Yld.loadRow (cl := 108) Tryz.underlying41 rfl sz41 rfl rfl (by first | assumption | exact Own.sl (by assumption)) (by assumption) | exact Yld.loadRow (cl := 150) Tryz.underlying41 rfl sz41 rfl rfl (by first | assumption | exact Own.sl (by assumption)) (by assumption) | exact Yld.loadRow (cl := 151) Tryz.underlying41 rfl sz41 rfl rfl (by first | assumption | exact Own.sl (by assumption)) (by assumption)) rfl ?_
      refine RL.e (Eff.call ent23 [150, 151, 1] [150, 151, 1] (.cons rfl (.cons rfl .nil)) (admit_ct b y.x y.G hyx c H hcc y.j (by omega) hgk hcs) rfl rfl rfl rfl (by rintro _ _ ⟨_, _, _, _, _, rfl⟩; rfl)) rfl ?_
      rintro _ _ ⟨_, ⟨x2, G2, rfl, hx2, hgx2, rfl⟩, rfl⟩
      refine RL.q (Yld.move rfl) rfl ?_
      refine RL.q (Yld.eq (v' := .bool false) (Yld.bin rfl rfl BinV.neq) (by rw [hgw]; simp)) rfl ?_
      refine RL.nil ?_
      refine N.next ?_
      refine W.keep (.cons (k := 1) rfl (.cons (k := 5) rfl (.cons (k := 7) rfl (.cons (k := 8) rfl (.cons (k := 21) rfl (.cons (k := 22) rfl (.cons (k := 42) rfl .nil))))))) (.cons (k := 0) rfl (.cons (k := 1) rfl (.cons (k := 105) rfl (.cons (k := 108) rfl (.cons (k := 110) rfl (.cons (k := 150) rfl (.cons (k := 151) rfl (.cons (k := 152) rfl .nil)))))))) ?_
      first | (refine W.as (t := 42) rfl (boolF (by first | assumption | omega | (simp; done))) ?_; refine W.condF rfl ?_) | refine W.condF rfl ?_
      refine W.skip ?_
      refine N.block_normal ?_
      refine N.next ?_
      refine W.region ?_
      refine RL.q (Yld.bin rfl rfl (by first | exact BinV.add (by omega) (by omega) | exact BinV.addW)) rfl ?_
      refine RL.q (Yld.move rfl) rfl ?_
      refine RL.nil ?_
      exact N.famK ⟨y.j + 1, x2, G2, w2, H2⟩ ⟨⟨by dsimp only; omega, hx2, hw2, by dsimp only; rw [hgx2, hgx, runG_take hcj], by dsimp only; rw [hgx2, hgw2, hgw]⟩, by dsimp only; omega⟩ (.as rfl (by first | rfl | (simp; done) | (congr 1; simp; done) | (congr 1; omega)) .nil) (.cons rfl (.cons rfl (.cons rfl (.cons rfl (.cons rfl .nil))))) (.cons rfl (.cons rfl (.cons rfl (.cons rfl .nil)))) (.cons rfl (.cons rfl (.cons rfl .nil)))
  ·
    have hend : y.j = l.length := by omega
    have hgl : gl y.x = runG vs l := by rw [hgx, hend, List.take_length]
    have hgk : GOK l.length (gl y.x) := hgl ▸ runG_OK hv8 hvi hI
    refine W.exit ?_
    refine N.then_exit ?_
    refine N.then_exit ?_
    refine N.block_eq ?_
    refine N.next ?_
    refine W.keep (.cons (k := 5) rfl (.cons (k := 7) rfl (.cons (k := 8) rfl .nil))) (.cons (k := 0) rfl (.cons (k := 1) rfl (.cons (k := 105) rfl (.cons (k := 108) rfl (.cons (k := 150) rfl (.cons (k := 151) rfl (.cons (k := 152) rfl .nil))))))) ?_
    refine W.seq ?_
    refine W.draw (.q 0 (.q 1 (.q 2 (.q 3 (.one 4 (.q 5 (.one 6 (.q 7 .done)))))))) (.cons (k := 0) rfl (.cons (k := 1) rfl (.cons (k := 108) rfl (.cons (k := 150) rfl (.cons (k := 151) rfl (.cons (k := 152) rfl .nil)))))) mix (by kernel_rfl) (by kernel_rfl) ?_
    refine DL.q rfl (Yld.move rfl) rfl ?_
    refine DL.q rfl (Yld.loadW (c := 108) Tryz.underlying31 rfl sz31 rfl rfl (by first | exact single_self _ _ | exact pset_self _ _ _ | assumption) rfl) rfl ?_
    refine DL.q rfl (Yld.move rfl) rfl ?_
    refine DL.q rfl (Yld.loadW (c := 108) Tryz.underlying31 rfl sz31 rfl rfl (by first | exact single_self _ _ | exact pset_self _ _ _ | assumption) rfl) rfl ?_
    refine DL.one rfl (Eff.call ent25 [150, 151, 152] [150, 151, 152] (.cons rfl (.cons rfl .nil)) (same_ct b y.x y.G hyx y.w y.H hyw (sms (k := l.length) (by omega) hgk) hgw) rfl rfl rfl rfl (by rintro _ _ ⟨_, rfl⟩; rfl)) rfl (by rintro _ _ ⟨_, ⟨rfl, rfl⟩, rfl⟩; repeat (first | exact .nil | refine .cons rfl ?_)) ?_
    rintro _ _ ⟨_, ⟨rfl, rfl⟩, rfl⟩
    refine DL.q rfl (Yld.assign rfl) rfl ?_
    refine DL.one0 rfl (Eff.storeS (c := 105) _ sz31 rfl rfl rfl rfl rfl rfl rfl (by (try simp only [putAt, List.take, List.drop, List.nil_append, List.cons_append, List.append_nil, List.length_cons, List.length_nil, Nat.add_zero, Nat.zero_add, Nat.reduceAdd]); rfl)) (by rintro _ _ rfl; repeat (first | exact .nil | refine .cons rfl ?_)) ?_
    rintro _ _ rfl
    refine DL.q rfl (Yld.assign rfl) rfl ?_
    refine DL.done ?_
    refine N.next ?_
    refine W.keep (.cons (k := 4) rfl (.cons (k := 5) rfl (.cons (k := 6) rfl .nil))) (.cons (k := 0) rfl (.cons (k := 1) rfl (.cons (k := 105) rfl (.cons (k := 108) rfl (.cons (k := 150) rfl (.cons (k := 151) rfl (.cons (k := 152) rfl .nil))))))) ?_
    refine W.ret ?_
    exact N.retBy [1, 150, 151, 152] (.cons (.tmp rfl) (.cons (by first | exact .cell (c := 105) rfl rfl (fun w hs => run_loadVarA Tryz.underlying31 rfl sz31 rfl (fun j u hj => by rw [Nat.zero_add, PH.sub.cell hs (by first | exact single_self _ _ | exact pset_self _ _ _ | assumption)]; exact hj))) (.cons (.tmp rfl) .nil))) rfl rfl rfl rfl ⟨b, y.x, y.G, y.w, y.H, rfl, hyx, hyw, hgl, hgw, rfl⟩

end Go.Proofs.YtdjmdfnhnlijiaaGreatDoor
