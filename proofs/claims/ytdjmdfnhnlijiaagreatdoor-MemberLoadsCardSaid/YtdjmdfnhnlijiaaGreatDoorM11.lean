/- Goals out of texts. Written by program (walk2.py). -/
import Derived.Test.YtdjmdfnhnlijiaaGreatDoorM10
import Derived.Test.YtdjmdfnhnlijiaaGreatDoorMPureL
namespace Go.Proofs.YtdjmdfnhnlijiaaGreatDoor
open SL Cfg Memb
set_option linter.unusedVariables false
set_option linter.unusedSimpArgs false
theorem ent45 : Ent Tryz.prog 45 := ⟨_, _, Tryz.func45, by kernel_rfl, rfl⟩
theorem ent48 : Ent Tryz.prog 48 := ⟨_, _, Tryz.func48, by kernel_rfl, rfl⟩
theorem ent47 : Ent Tryz.prog 47 := ⟨_, _, Tryz.func47, by kernel_rfl, rfl⟩
theorem ent49 : Ent Tryz.prog 49 := ⟨_, _, Tryz.func49, by kernel_rfl, rfl⟩
theorem ent50 : Ent Tryz.prog 50 := ⟨_, _, Tryz.func50, by kernel_rfl, rfl⟩
theorem ent51 : Ent Tryz.prog 51 := ⟨_, _, Tryz.func51, by kernel_rfl, rfl⟩
theorem sz60 : sz Tryz.prog 60 3 := (by kernel_rfl : (Tryz.prog.info? 60).map (·.size) = some 3)
set_option maxRecDepth 100000 in
set_option maxHeartbeats 400000 in
theorem mwoS_ct (l : List Int) (H1 : PH) (p : Option Addr) (c : Nat) (hl : Sl H1 p c 1 (iz l)) (m : List Int) (q : Option Addr) (d : Nat) (hm : Sl H1 q d 1 (iz m)) (hb : l.length ≤ 1000000) : Ct Tryz.prog 80 [.slice p l.length c, .slice q m.length d] [H1] (fun v Hs => ∃ H' p' c', v = .slice p' (minusL l m).length c' ∧ Own H' p' c' 3 1 (iz (minusL l m)) ∧ Hs = [H1, H']) := by
  refine Ct.body Tryz.func80 rfl Tryz.ntmps80 rfl ?_
  intro E F
  have hmxl := hl.len_le
  simp only [iz_len, maxLen] at hmxl
  have hmxm := hm.len_le
  simp only [iz_len, maxLen] at hmxm
  refine W.seq ?_
  refine W.region ?_
  refine RL.e (Eff.box 103 _ rfl rfl) rfl ?_
  rintro _ _ ⟨b3, rfl, rfl⟩
  refine RL.q (Yld.assign rfl) rfl ?_
  refine RL.nil ?_
  refine N.next ?_
  refine W.seq ?_
  refine W.region ?_
  refine RL.q (Yld.move rfl) rfl ?_
  refine RL.e (Eff.call ent41 [1] [1, 30] (.cons rfl .nil) (cloneI_ct l _ _ _ hl hb) rfl rfl rfl rfl (by rintro _ _ ⟨_, _, _, _, _, rfl⟩; rfl)) rfl ?_
  rintro _ _ ⟨_, ⟨Ha, pa, ca, rfl, hOa, rfl⟩, rfl⟩
  refine RL.q (Yld.makeFunc eval0 (eval1 rfl)) rfl ?_
  refine RL.e (Eff.call ent67 [30, 103, 1] [30, 103, 1] (.cons rfl (.cons rfl .nil)) (deleteFunc2_ct l _ _ _ hOa 100 [.pointer (some ⟨b3, 0, none⟩)] _ _ (fun z => decide (z ∈ m)) ent100 (fun z => mwoC_ct b3 m _ _ _ hm z)) rfl rfl rfl rfl (by rintro _ _ ⟨_, _, _, rfl⟩; rfl)) rfl ?_
  rintro _ _ ⟨_, ⟨Hd, rfl, hOd, rfl⟩, rfl⟩
  refine RL.q (Yld.assign rfl) rfl ?_
  refine RL.nil ?_
  refine N.next ?_
  refine W.keep (.cons (k := 4) rfl .nil) (.cons (k := 0) rfl (.cons (k := 1) rfl (.cons (k := 30) rfl (.cons (k := 103) rfl .nil)))) ?_
  refine W.ret ?_
  exact N.retBy [1, 30] (.cons (.tmp rfl) .nil) rfl rfl rfl rfl ⟨_, _, _, rfl, hOd, rfl⟩

set_option maxRecDepth 100000 in
set_option maxHeartbeats 3200000 in
theorem mvalid_ct (b : Nat) (x : Cf) (G : PH) (hx : x.In G) (hbo : x.o.length ≤ 400000) (hbn : x.n.length ≤ 400000) (hbl : x.l.length ≤ 400000) : Ct Tryz.prog 51 [.pointer (some ⟨b, 0, none⟩)] [single b (.cells [.slice x.po x.o.length x.co, .slice x.pn x.n.length x.cn, .slice x.pl x.l.length x.cl].toArray 60 (0, 0)), G] (fun v Hs => v = .bool (decide (GV (gl x))) ∧ Hs = [single b (.cells [.slice x.po x.o.length x.co, .slice x.pn x.n.length x.cn, .slice x.pl x.l.length x.cl].toArray 60 (0, 0)), G]) := by
  refine Ct.body Tryz.func51 rfl Tryz.ntmps51 rfl ?_
  intro E F
  have hxx := hx
  obtain ⟨hxo, hxn, hxl⟩ := hxx
  have hmo := hxo.len_le
  have hmn := hxn.len_le
  have hml := hxl.len_le
  simp only [iz_len, maxLen] at hmo hmn hml
  refine W.seq ?_
  refine W.region ?_
  refine RL.q (Yld.assign rfl) rfl ?_
  refine RL.nil ?_
  refine N.next ?_
  refine W.seq ?_
  refine W.seq ?_
  refine W.region ?_
  refine RL.q (Yld.move rfl) rfl ?_
  refine RL.e (Eff.call ent46 [1] [1, 50] (.cons rfl .nil) (mparts_ct b x) rfl rfl rfl rfl (by rintro _ _ ⟨_, _, rfl⟩; rfl)) rfl ?_
  rintro _ _ ⟨_, ⟨bp, rfl, rfl⟩, rfl⟩
  have hG := pts_sl bp b 76
  refine RL.q (Yld.lenSl Tryz.underlying74 rfl) rfl ?_
  refine RL.q (Yld.move rfl) rfl ?_
  refine RL.nil ?_
  refine N.next ?_
  refine W.block ?_
  refine W.loopK (ι := Nat) (fun j => (j ≤ 3 ∧ ∀ (i : Nat) s, i < j → ([(x.po, x.co, x.o), (x.pn, x.cn, x.n), (x.pl, x.cl, x.l)] : List (Option Addr × Nat × List Int))[i]? = some s → setL s.2.2 = s.2.2)) (fun j => [(8, .int .i64 (j : Nat))]) (fun j => []) (fun j => 3 - j) (.cons (k := 0) rfl (.cons (k := 6) rfl (.cons (k := 7) rfl .nil))) (.cons (k := 0) rfl (.cons (k := 1) rfl (.cons (k := 2) rfl (.cons (k := 50) rfl .nil)))) 0 ?_ ?_ ?_ ?_
  · exact ⟨Nat.zero_le _, fun _ _ h => absurd h (Nat.not_lt_zero _)⟩
  · exact (.as rfl (by first | rfl | (simp; done) | (congr 1; simp; done) | (congr 1; omega)) .nil)
  · exact .nil
  rintro j ⟨hj, hI⟩
  refine W.keep (.cons (k := 8) rfl (.cons (k := 0) rfl (.cons (k := 6) rfl (.cons (k := 7) rfl .nil)))) (.cons (k := 0) rfl (.cons (k := 1) rfl (.cons (k := 2) rfl (.cons (k := 50) rfl .nil)))) ?_
  refine W.seq ?_
  refine W.region ?_
  refine RL.q (Yld.bin rfl rfl BinV.lss) rfl ?_
  refine RL.nil ?_
  refine N.next ?_
  refine W.seq ?_
  first | refine W.condD rfl (fun hc9 => ?_) (fun hc9 => ?_) | (refine W.cond rfl (fun hc9 => ?_) (fun hc9 => ?_) <;> try simp only [Bool.or_eq_true, Bool.and_eq_true, Bool.not_eq_true', Bool.not_eq_false', decide_eq_true_eq, Bool.or_eq_false_iff, Bool.and_eq_false_iff, decide_eq_false_iff_not, beq_iff_eq, beq_eq_false_iff_ne, ne_eq, Decidable.not_not] at hc9)
  ·
    obtain ⟨s, hs⟩ : ∃ s, ([(x.po, x.co, x.o), (x.pn, x.cn, x.n), (x.pl, x.cl, x.l)] : List (Option Addr × Nat × List Int))[j]? = some s := ⟨_, List.getElem?_eq_getElem (show j < 3 by omega)⟩
    have hssl := ss_in hx hs
    have hcl := hssl.len_le
    simp only [iz_len, maxLen] at hcl
    have hsb : s.2.2.length ≤ 400000 := ss_one (P := fun l => l.length ≤ 400000) hs ⟨hbo, hbn, hbl⟩
    have hssle := setL_len s.2.2
    have hls := pts_get (b := b) (show j < 3 by omega)
    have hcell := gb_get hs
    refine W.skip ?_
    refine N.next ?_
    refine W.seq ?_
    refine W.block ?_
    refine W.seq ?_
    refine W.region ?_
    refine RL.q (Yld.indexRow Tryz.underlying74 sz76 rfl rfl hG rfl (by omega) (by show (j : Int) < 3; omega)) rfl ?_
    refine RL.q (Yld.loadRow1 (cl := 50) Tryz.underlying76 rfl rfl rfl hG hls) rfl ?_
    refine RL.q (Yld.assign rfl) rfl ?_
    refine RL.nil ?_
    refine N.next ?_
    refine W.seq ?_
    refine W.draw (.q 0 (.q 1 (.q 2 (.q 3 (.q 4 (.q 5 (.one 6 (.q 7 (.one 8 (.q 9 .done)))))))))) (.cons (k := 0) rfl (.cons (k := 1) rfl (.cons (k := 2) rfl (.cons (k := 50) rfl .nil)))) mix (by kernel_rfl) (by kernel_rfl) ?_
    refine DL.q rfl (Yld.move rfl) rfl ?_
    refine DL.q rfl (Yld.nilP rfl) rfl ?_
    refine DL.q rfl (Yld.load1 (c := 1) Tryz.underlying22 rfl rfl rfl (single_self _ _) hcell) rfl ?_
    refine DL.q rfl (Yld.move rfl) rfl ?_
    refine DL.q rfl (Yld.nilP rfl) rfl ?_
    refine DL.q rfl (Yld.load1 (c := 1) Tryz.underlying22 rfl rfl rfl (single_self _ _) hcell) rfl ?_
    refine DL.one rfl (Eff.call ent26 [2] [2, 150] (.cons rfl .nil) (simple_ct s.2.2 _ _ _ hssl (by omega)) rfl rfl rfl rfl (by rintro _ _ ⟨_, _, _, _, _, rfl⟩; rfl)) rfl (by rintro _ _ ⟨_, ⟨Ha, pa, ca, rfl, hOa, rfl⟩, rfl⟩; repeat (first | exact .nil | refine .cons rfl ?_)) ?_
    rintro _ _ ⟨_, ⟨Ha, pa, ca, rfl, hOa, rfl⟩, rfl⟩
    refine DL.q rfl (Yld.field Tryz.underlying25 rfl rfl (PartV.one Tryz.underlying22 rfl rfl)) rfl ?_
    refine DL.one rfl (Eff.call ent31 [2, 150] [2, 150] (.cons rfl (.cons rfl .nil)) (equal_ct s.2.2 _ _ _ hssl (setL s.2.2) _ _ _ hOa.sl) rfl rfl rfl rfl (by rintro _ _ ⟨_, rfl⟩; rfl)) rfl (by rintro _ _ ⟨_, ⟨rfl, rfl⟩, rfl⟩; repeat (first | exact .nil | refine .cons rfl ?_)) ?_
    rintro _ _ ⟨_, ⟨rfl, rfl⟩, rfl⟩
    refine DL.q rfl (by first | exact Yld.notD rfl | exact Yld.not rfl) rfl ?_
    refine DL.done ?_
    refine N.next ?_
    refine W.keep (.cons (k := 0) rfl (.cons (k := 6) rfl (.cons (k := 7) rfl (.cons (k := 8) rfl (.cons (k := 21) rfl .nil))))) (.cons (k := 0) rfl (.cons (k := 1) rfl (.cons (k := 2) rfl (.cons (k := 50) rfl (.cons (k := 150) rfl .nil))))) ?_
    refine W.condD rfl (fun hc21 => ?_) (fun hc21 => ?_)
    ·
      have hne : ¬ setL s.2.2 = s.2.2 := fun e => hc21 e.symm
      refine W.seq ?_
      refine W.region ?_
      refine RL.q (Yld.assign rfl) rfl ?_
      refine RL.nil ?_
      refine N.next ?_
      refine W.keep (.cons (k := 2) rfl .nil) (.cons (k := 0) rfl (.cons (k := 1) rfl (.cons (k := 2) rfl (.cons (k := 50) rfl (.cons (k := 150) rfl .nil))))) ?_
      refine W.ret ?_
      refine N.block_ret ?_
      refine N.then_ret ?_
      refine N.then_ret ?_
      refine N.block_ret ?_
      refine N.then_ret ?_
      exact N.retBy [1, 2] (.cons (.tmp rfl) .nil) rfl rfl rfl rfl ⟨by rw [decide_eq_false (fun h => hne (ss_one (P := fun l => setL l = l) hs ⟨h.1, h.2.1, h.2.2.1⟩))]; rfl, rfl⟩
    ·
      have heq : setL s.2.2 = s.2.2 := (Decidable.not_not.1 hc21).symm
      refine W.skip ?_
      refine N.block_normal ?_
      refine N.next ?_
      refine W.region ?_
      refine RL.q (Yld.bin rfl rfl (by first | exact BinV.add (by omega) (by omega) | exact BinV.addW)) rfl ?_
      refine RL.q (Yld.move rfl) rfl ?_
      refine RL.nil ?_
      exact N.famK (j + 1) ⟨⟨by omega, fun i s2 hi h2 => (Nat.lt_succ_iff_lt_or_eq.1 hi).elim (fun h => hI i s2 h h2) (fun e => by subst e; rw [hs] at h2; cases h2; exact heq)⟩, by omega⟩ (.as rfl (by first | rfl | (simp; done) | (congr 1; simp; done) | (congr 1; omega)) .nil) (.cons rfl (.cons rfl (.cons rfl .nil))) .nil (.cons rfl (.cons rfl (.cons rfl (.cons rfl .nil))))
  ·
    have hal := ss_all (P := fun l => setL l = l) (fun i s h => hI i s (by omega))
    refine W.exit ?_
    refine N.then_exit ?_
    refine N.then_exit ?_
    refine N.block_eq ?_
    refine N.next ?_
    refine W.keep (.cons (k := 0) rfl .nil) (.cons (k := 0) rfl (.cons (k := 1) rfl (.cons (k := 2) rfl (.cons (k := 50) rfl .nil)))) ?_
    refine W.seq ?_
    refine W.draw (.q 0 (.q 1 (.q 2 (.q 3 (.q 4 (.q 5 (.q 6 (.q 7 (.q 10 (.q 11 (.q 12 (.q 13 (.q 14 (.one 8 (.q 9 (.q 15 (.q 16 (.q 17 (.q 18 (.q 19 (.q 20 (.q 21 (.q 22 (.q 23 (.q 24 (.q 27 (.q 28 (.q 29 (.q 30 (.one 25 (.one 26 (.one 31 (.q 32 (.q 33 (.q 34 (.q 35 .done)))))))))))))))))))))))))))))))))))) (.cons (k := 0) rfl (.cons (k := 1) rfl (.cons (k := 2) rfl (.cons (k := 50) rfl .nil)))) mix (by kernel_rfl) (by kernel_rfl) ?_
    refine DL.q rfl (Yld.move rfl) rfl ?_
    refine DL.q rfl (Yld.nilP rfl) rfl ?_
    refine DL.q rfl (Yld.fieldAddr fo60_1 rfl) rfl ?_
    refine DL.q rfl (Yld.load1 (c := 1) Tryz.underlying22 rfl rfl rfl (by first | exact single_self _ _ | exact pset_self _ _ _ | assumption) rfl) rfl ?_
    refine DL.q rfl (Yld.move rfl) rfl ?_
    refine DL.q rfl (Yld.nilP rfl) rfl ?_
    refine DL.q rfl (Yld.fieldAddr fo60_0 rfl) rfl ?_
    refine DL.q rfl (Yld.load1 (c := 1) Tryz.underlying22 rfl rfl rfl (by first | exact single_self _ _ | exact pset_self _ _ _ | assumption) rfl) rfl ?_
    refine DL.q rfl (Yld.move rfl) rfl ?_
    refine DL.q rfl (Yld.nilP rfl) rfl ?_
    refine DL.q rfl (Yld.fieldAddr fo60_1 rfl) rfl ?_
    refine DL.q rfl (Yld.load1 (c := 1) Tryz.underlying22 rfl rfl rfl (by first | exact single_self _ _ | exact pset_self _ _ _ | assumption) rfl) rfl ?_
    refine DL.q rfl (Yld.lenSl Tryz.underlying22 rfl) rfl ?_
    refine DL.one rfl (Eff.call ent80 [2] [2, 160] (.cons rfl (.cons rfl .nil)) (mwoS_ct x.n _ _ _ hxn x.o _ _ hxo (by omega)) rfl rfl rfl rfl (by rintro _ _ ⟨_, _, _, _, _, rfl⟩; rfl)) rfl (by rintro _ _ ⟨_, ⟨Hb, pb, cb, rfl, hOb, rfl⟩, rfl⟩; repeat (first | exact .nil | refine .cons rfl ?_)) ?_
    rintro _ _ ⟨_, ⟨Hb, pb, cb, rfl, hOb, rfl⟩, rfl⟩
    refine DL.q rfl (Yld.lenSl Tryz.underlying22 rfl) rfl ?_
    refine DL.q rfl (Yld.bin rfl rfl BinV.eql) rfl ?_
    refine DL.q rfl (Yld.move rfl) rfl ?_
    refine' DL.and (t := 39) (d := 57) 18 rfl (.cons (k := 0) rfl (.cons (k := 23) rfl (.cons (k := 24) rfl (.cons (k := 25) rfl (.cons (k := 26) rfl (.cons (k := 27) rfl (.cons (k := 28) rfl (.cons (k := 29) rfl (.cons (k := 30) rfl (.cons (k := 31) rfl (.cons (k := 32) rfl (.cons (k := 33) rfl (.cons (k := 34) rfl (.cons (k := 35) rfl (.cons (k := 36) rfl (.cons (k := 37) rfl (.cons (k := 38) rfl .nil))))))))))))))))) (.cons (k := 0) rfl (.cons (k := 1) rfl (.cons (k := 2) rfl (.cons (k := 50) rfl (.cons (k := 160) rfl .nil))))) ?_ ?_ ?_
    rotate_left 1
    ·
      intro hg39
      refine DL.gq rfl rfl rfl (Yld.move rfl) rfl ?_
      refine DL.gq rfl rfl rfl (Yld.nilP rfl) rfl ?_
      refine DL.gq rfl rfl rfl (Yld.fieldAddr fo60_0 rfl) rfl ?_
      refine DL.gq rfl rfl rfl (Yld.load1 (c := 1) Tryz.underlying22 rfl rfl rfl (by first | exact single_self _ _ | exact pset_self _ _ _ | assumption) rfl) rfl ?_
      refine DL.gq rfl rfl rfl (Yld.move rfl) rfl ?_
      refine DL.gq rfl rfl rfl (Yld.nilP rfl) rfl ?_
      refine DL.gq rfl rfl rfl (Yld.fieldAddr fo60_1 rfl) rfl ?_
      refine DL.gq rfl rfl rfl (Yld.load1 (c := 1) Tryz.underlying22 rfl rfl rfl (by first | exact single_self _ _ | exact pset_self _ _ _ | assumption) rfl) rfl ?_
      refine DL.gq rfl rfl rfl (Yld.move rfl) rfl ?_
      refine DL.gq rfl rfl rfl (Yld.nilP rfl) rfl ?_
      refine DL.gq rfl rfl rfl (Yld.fieldAddr fo60_2 rfl) rfl ?_
      refine DL.gq rfl rfl rfl (Yld.load1 (c := 1) Tryz.underlying22 rfl rfl rfl (by first | exact single_self _ _ | exact pset_self _ _ _ | assumption) rfl) rfl ?_
      refine DL.gone rfl rfl rfl (Eff.buildSlice 148 Tryz.underlying63 sz22 zc22 rfl rfl (.cons rfl rfl (.cons rfl rfl .nil)) rfl) rfl (by rintro _ _ ⟨b48, rfl, rfl⟩; repeat (first | exact .nil | refine .cons rfl ?_)) ?_
      rintro _ _ ⟨b48, rfl, rfl⟩
      refine DL.gone rfl rfl rfl (Eff.call ent65 [148, 2] [148, 2, 161] (.cons rfl .nil) (concat_ct [(x.po, x.co, x.o), (x.pn, x.cn, x.n)] _ G _ _ (Own.mk (e := 22) (n := 1) (c := 2) [] (by intro r hr; simp only [List.map_cons, List.map_nil, List.mem_cons, List.not_mem_nil, or_false] at hr; rcases hr with rfl | rfl <;> exact ⟨rfl, by simp [SV, Value.oneCell']⟩) (by simp) (by simp [maxLen]) (by rfl) (by rfl)).sl (by intro s hs; simp only [List.mem_cons, List.not_mem_nil, or_false] at hs; rcases hs with rfl | rfl; exact hxo; exact hxn) (by rw [cat2]; simp; omega)) rfl rfl rfl rfl (by rintro _ _ ⟨_, _, _, _, _, rfl⟩; rfl)) rfl (by rintro _ _ ⟨_, ⟨Hc, pc, cc, rfl, hOc, rfl⟩, rfl⟩; repeat (first | exact .nil | refine .cons rfl ?_)) ?_
      rintro _ _ ⟨_, ⟨Hc, pc, cc, rfl, hOc, rfl⟩, rfl⟩
      rw [cat2] at hOc ⊢
      refine DL.gone rfl rfl rfl (Eff.call ent80 [161, 2] [161, 2, 162] (.cons rfl (.cons rfl .nil)) (mwo_ct (x.o ++ x.n) _ _ _ hOc.sl x.l _ _ _ hxl (by simp; omega)) rfl rfl rfl rfl (by rintro _ _ ⟨_, _, _, _, _, rfl⟩; rfl)) rfl (by rintro _ _ ⟨_, ⟨Hd, pd, cd, rfl, hOd, rfl⟩, rfl⟩; repeat (first | exact .nil | refine .cons rfl ?_)) ?_
      rintro _ _ ⟨_, ⟨Hd, pd, cd, rfl, hOd, rfl⟩, rfl⟩
      refine DL.gq rfl rfl rfl (Yld.lenSl Tryz.underlying22 rfl) rfl ?_
      refine DL.gq rfl rfl rfl (Yld.bin rfl rfl BinV.eql) rfl ?_
      refine DL.q rfl (by first | exact Yld.pickT rfl rfl | exact Yld.pickF rfl rfl) rfl ?_
      exact DL.meet (.cons rfl (.cons rfl (.cons rfl (.cons rfl (.cons rfl (.cons rfl (.cons rfl (.cons rfl (.cons rfl (.cons rfl (.cons rfl (.cons rfl (.cons rfl (.cons rfl (.cons rfl (.cons rfl (.cons rfl (.cons rfl .nil)))))))))))))))))) (.cons rfl (.cons rfl (.cons rfl (.cons rfl (.cons rfl .nil)))))
    ·
      intro hg39
      refine DL.gskip rfl rfl rfl rfl rfl ?_
      refine DL.gskip rfl rfl rfl rfl rfl ?_
      refine DL.gskip rfl rfl rfl rfl rfl ?_
      refine DL.gskip rfl rfl rfl rfl rfl ?_
      refine DL.gskip rfl rfl rfl rfl rfl ?_
      refine DL.gskip rfl rfl rfl rfl rfl ?_
      refine DL.gskip rfl rfl rfl rfl rfl ?_
      refine DL.gskip rfl rfl rfl rfl rfl ?_
      refine DL.gskip rfl rfl rfl rfl rfl ?_
      refine DL.gskip rfl rfl rfl rfl rfl ?_
      refine DL.gskip rfl rfl rfl rfl rfl ?_
      refine DL.gskip rfl rfl rfl rfl rfl ?_
      refine DL.gskip1 rfl rfl rfl rfl rfl ?_
      refine DL.gskip1 rfl rfl rfl rfl rfl ?_
      refine DL.gskip1 rfl rfl rfl rfl rfl ?_
      refine DL.gskip rfl rfl rfl rfl rfl ?_
      refine DL.gskip rfl rfl rfl rfl rfl ?_
      refine DL.q rfl (by first | exact Yld.pickT rfl rfl | exact Yld.pickF rfl rfl) rfl ?_
      exact DL.meet (.cons rfl (.cons rfl (.cons rfl (.cons rfl (.cons rfl (.cons rfl (.cons rfl (.cons rfl (.cons rfl (.cons rfl (.cons rfl (.cons rfl (.cons rfl (.cons rfl (.cons rfl (.cons rfl (.cons rfl (.cons rfl .nil)))))))))))))))))) (.cons rfl (.cons rfl (.cons rfl (.cons rfl (.cons rfl .nil)))))
    refine DL.q rfl (Yld.assign rfl) rfl ?_
    refine DL.done ?_
    refine N.next ?_
    refine W.keep (.cons (k := 2) rfl .nil) (.cons (k := 0) rfl (.cons (k := 1) rfl (.cons (k := 2) rfl (.cons (k := 50) rfl (.cons (k := 160) rfl .nil))))) ?_
    refine W.ret ?_
    exact N.retBy [1, 2] (.cons (.tmp rfl) .nil) rfl rfl rfl rfl ⟨by show Value.bool _ = _; rw [Value.bool.injEq, Bool.eq_iff_iff, decide_eq_true_eq, gv_two]; simp only [Bool.and_eq_true, decide_eq_true_eq]; exact ⟨fun ⟨h1, h2⟩ => ⟨hal, by show (minusL x.n x.o).length = x.n.length; omega, by show (minusL (x.o ++ x.n) x.l).length = 0; omega⟩, fun ⟨_, h1, h2⟩ => ⟨by have h1 : (minusL x.n x.o).length = x.n.length := h1; omega, by have h2 : (minusL (x.o ++ x.n) x.l).length = 0 := h2; omega⟩⟩, rfl⟩

set_option maxRecDepth 100000 in
set_option maxHeartbeats 6400000 in
theorem mload_ct (b : Nat) (x : Cf) (G : PH) (hx : x.In G) (s : ByteArray) (hs : s.size ≤ 400000) : Ct Tryz.prog 21 [.pointer (some ⟨b, 0, none⟩), .string s] [single b (.cells [.slice x.po x.o.length x.co, .slice x.pn x.n.length x.cn, .slice x.pl x.l.length x.cl].toArray 60 (0, 0)), G] (fun v Hs => ∃ (y : Cf) (G' : PH), v = .int .i64 (if good (nums s) then 0 else 11) ∧ y.In G' ∧ gl y = (if good (nums s) then decG (nums s) else gl x) ∧ Hs = [single b (.cells [.slice y.po y.o.length y.co, .slice y.pn y.n.length y.cn, .slice y.pl y.l.length y.cl].toArray 60 (0, 0)), G']) := by
  refine Ct.body Tryz.func21 rfl Tryz.ntmps21 rfl ?_
  intro E F
  have hbt := nums_byt s
  have hln := nums_len s
  refine W.seq ?_
  refine W.region ?_
  refine RL.q (Yld.assign rfl) rfl ?_
  refine RL.nil ?_
  refine N.next ?_
  refine W.seq ?_
  refine W.region ?_
  refine RL.q (Yld.move rfl) rfl ?_
  refine RL.e (Eff.strBytes 110 Tryz.underlying9 Tryz.underlying73 Tryz.underlying5 rfl (by first | omega | (simp only [maxLen]; omega))) rfl ?_
  rintro _ _ ⟨H10, p10, c10, rfl, hS10, rfl⟩
  refine RL.e (Eff.call ent45 [110] [110, 150, 151] (.cons rfl .nil) (newReader_ct (nums s) _ _ _ hS10 (by omega) hbt) rfl rfl rfl rfl (by rintro _ _ ⟨_, _, _, _, _, _, rfl⟩; rfl)) rfl ?_
  rintro _ _ ⟨_, ⟨r, x0, B, rfl, hx0, hx0s, rfl⟩, rfl⟩
  refine RL.q (Yld.assign rfl) rfl ?_
  refine RL.nil ?_
  refine N.next ?_
  refine W.keep (.cons (k := 0) rfl (.cons (k := 5) rfl .nil)) (.cons (k := 0) rfl (.cons (k := 1) rfl (.cons (k := 2) rfl (.cons (k := 110) rfl (.cons (k := 150) rfl (.cons (k := 151) rfl .nil)))))) ?_
  refine W.seq ?_
  refine W.region ?_
  refine RL.q (Yld.buildP lay60 .nil rfl) rfl ?_
  refine RL.e (Eff.box 113 _ rfl rfl) rfl ?_
  rintro _ _ ⟨b13, rfl, rfl⟩
  refine RL.q (Yld.assign rfl) rfl ?_
  refine RL.nil ?_
  refine N.next ?_
  refine W.seq ?_
  refine W.seq ?_
  refine W.imp (Imp.empty _ 130) ?_
  refine W.imp (Imp.empty _ 131) ?_
  refine W.region ?_
  refine RL.q (Yld.move rfl) rfl ?_
  refine RL.e (Eff.call ent46 [113] [113, 50] (.cons rfl .nil) (mparts_ct b13 (⟨[], [], [], none, 0, none, 0, none, 0⟩ : Cf)) rfl rfl rfl rfl (by rintro _ _ ⟨_, _, rfl⟩; rfl)) rfl ?_
  rintro _ _ ⟨_, ⟨bp, rfl, rfl⟩, rfl⟩
  have hG := pts_sl bp b13 76
  refine RL.q (Yld.lenSl Tryz.underlying74 rfl) rfl ?_
  refine RL.q (Yld.move rfl) rfl ?_
  refine RL.nil ?_
  refine N.next ?_
  refine W.block ?_
  refine W.loopK (ι := DS) (fun y => (y.ss.length ≤ 3 ∧ y.x.In B ∧ (∀ t ∈ y.ss, Sl y.H t.1 t.2.1 1 (iz t.2.2) ∧ t.2.2.length ≤ 400000) ∧ (y.ss.map (·.2.2), y.x.s) = (rdLs y.ss.length (nums s, 0)) ∧ y.x.l.length ≤ 400000)) (fun y => [(17, .int .i64 (y.ss.length : Nat))]) (fun y => [(113, single b13 (.cells ((y.ss ++ List.replicate (3 - y.ss.length) (none, 0, [])).map sv).toArray 60 (0, 0))), (130, emp), (131, y.H), (150, single r (.cells [.slice y.x.p y.x.l.length y.x.c, .int .i64 y.x.e].toArray 108 (0, 0)))]) (fun y => 3 - y.ss.length) (.cons (k := 0) rfl (.cons (k := 5) rfl (.cons (k := 6) rfl (.cons (k := 15) rfl (.cons (k := 16) rfl .nil))))) (.cons (k := 0) rfl (.cons (k := 1) rfl (.cons (k := 2) rfl (.cons (k := 50) rfl (.cons (k := 110) rfl (.cons (k := 151) rfl .nil)))))) ⟨x0, [], emp⟩ ?_ ?_ ?_ ?_
  · exact ⟨Nat.zero_le _, hx0, fun t ht => (by cases ht), (by rw [hx0s]; rfl), by have e : x0.l = nums s := congrArg Prod.fst hx0s; dsimp only; rw [e, hln]; exact hs⟩
  · exact (.as rfl (by first | rfl | (simp; done) | (congr 1; simp; done) | (congr 1; omega)) .nil)
  · exact (.cons rfl (.cons rfl (.cons rfl (.cons rfl .nil))))
  rintro y ⟨hy3, hyx, hyS, hyR, hyl⟩
  refine W.keep (.cons (k := 17) rfl (.cons (k := 0) rfl (.cons (k := 5) rfl (.cons (k := 6) rfl (.cons (k := 15) rfl (.cons (k := 16) rfl .nil)))))) (.cons (k := 113) rfl (.cons (k := 130) rfl (.cons (k := 131) rfl (.cons (k := 150) rfl (.cons (k := 0) rfl (.cons (k := 1) rfl (.cons (k := 2) rfl (.cons (k := 50) rfl (.cons (k := 110) rfl (.cons (k := 151) rfl .nil)))))))))) ?_
  refine W.seq ?_
  refine W.region ?_
  refine RL.q (Yld.bin rfl rfl BinV.lss) rfl ?_
  refine RL.nil ?_
  refine N.next ?_
  refine W.seq ?_
  first | refine W.condD rfl (fun hc18 => ?_) (fun hc18 => ?_) | (refine W.cond rfl (fun hc18 => ?_) (fun hc18 => ?_) <;> try simp only [Bool.or_eq_true, Bool.and_eq_true, Bool.not_eq_true', Bool.not_eq_false', decide_eq_true_eq, Bool.or_eq_false_iff, Bool.and_eq_false_iff, decide_eq_false_iff_not, beq_iff_eq, beq_eq_false_iff_ne, ne_eq, Decidable.not_not] at hc18)
  ·
    have hlp := pts_get (b := b13) (show y.ss.length < 3 by omega)
    refine W.skip ?_
    refine N.next ?_
    refine W.seq ?_
    refine W.block ?_
    refine W.seq ?_
    refine W.region ?_
    refine RL.q (Yld.indexRow Tryz.underlying74 sz76 rfl rfl hG rfl (by omega) (by show ((y.ss.length : Nat) : Int) < 3; omega)) rfl ?_
    refine RL.q (Yld.loadRow1 (cl := 50) Tryz.underlying76 rfl rfl rfl hG hlp) rfl ?_
    refine RL.q (Yld.assign rfl) rfl ?_
    refine RL.nil ?_
    refine N.next ?_
    refine W.seq ?_
    refine W.region ?_
    refine RL.q (Yld.move rfl) rfl ?_
    refine RL.q (Yld.move rfl) rfl ?_
    refine RL.e (Eff.call ent48 [150, 151] [150, 151] (.cons rfl .nil) (Left_ct r y.x B hyx) rfl rfl rfl rfl (by rintro _ _ ⟨_, rfl⟩; rfl)) rfl ?_
    rintro _ _ ⟨_, ⟨rfl, rfl⟩, rfl⟩
    refine RL.e (Eff.call ent47 [150, 151] [150, 151] (.cons rfl (.cons rfl .nil)) (Count_ct r y.x B hyx (y.x.l.length : Nat) (by omega)) rfl rfl rfl rfl (by rintro _ _ ⟨_, _, _, _, rfl⟩; rfl)) rfl ?_
    rintro _ _ ⟨_, ⟨z, hz, hzs, rfl, rfl⟩, rfl⟩
    obtain ⟨cv, hcv⟩ : ∃ cv, (rdC y.x.s (y.x.l.length : Nat)).1 = cv := ⟨_, rfl⟩
    have hcr := rdC_range (s := y.x.s) (most := (y.x.l.length : Nat)) hyx.byt (by omega)
    have hcl := rdC_le (s := y.x.s) (most := (y.x.l.length : Nat)) (by omega)
    rw [hcv] at hcr hcl ⊢
    refine RL.q (Yld.move rfl) rfl ?_
    refine RL.nil ?_
    refine N.next ?_
    refine W.keep (.cons (k := 0) rfl (.cons (k := 5) rfl (.cons (k := 6) rfl (.cons (k := 8) rfl (.cons (k := 15) rfl (.cons (k := 16) rfl (.cons (k := 17) rfl (.cons (k := 24) rfl (.cons (k := 25) rfl .nil))))))))) (.cons (k := 0) rfl (.cons (k := 1) rfl (.cons (k := 2) rfl (.cons (k := 50) rfl (.cons (k := 110) rfl (.cons (k := 113) rfl (.cons (k := 130) rfl (.cons (k := 131) rfl (.cons (k := 150) rfl (.cons (k := 151) rfl .nil)))))))))) ?_
    refine W.block ?_
    refine W.loopK (ι := DZ) (fun w => (w.k ≤ cv.toNat ∧ w.x.In B ∧ Own w.H w.p w.c 3 1 (iz w.l) ∧ (w.l, w.x.s) = rdZs w.k z.s)) (fun w => [(25, .int .i64 (w.k : Nat))]) (fun w => [(113, single b13 (.cells ((y.ss ++ (w.p, w.c, w.l) :: List.replicate (2 - y.ss.length) (none, 0, [])).map sv).toArray 60 (0, 0))), (130, w.H), (150, single r (.cells [.slice w.x.p w.x.l.length w.x.c, .int .i64 w.x.e].toArray 108 (0, 0)))]) (fun w => cv.toNat - w.k) (.cons (k := 0) rfl (.cons (k := 5) rfl (.cons (k := 6) rfl (.cons (k := 8) rfl (.cons (k := 15) rfl (.cons (k := 16) rfl (.cons (k := 17) rfl (.cons (k := 24) rfl .nil)))))))) (.cons (k := 0) rfl (.cons (k := 1) rfl (.cons (k := 2) rfl (.cons (k := 50) rfl (.cons (k := 110) rfl (.cons (k := 131) rfl (.cons (k := 151) rfl .nil))))))) ⟨0, z, none, 0, [], emp⟩ ?_ ?_ ?_ ?_
    · exact ⟨Nat.zero_le _, hz, Own.nil _ _, rfl⟩
    · exact (.as rfl (by first | rfl | (simp; done) | (congr 1; simp; done) | (congr 1; omega)) .nil)
    · exact (.as rfl (by rw [show 3 - y.ss.length = 2 - y.ss.length + 1 by omega, List.replicate_succ]) (.cons rfl (.cons rfl .nil)))
    rintro w ⟨hwk, hw, hwO, hwR⟩
    refine W.keep (.cons (k := 25) rfl (.cons (k := 0) rfl (.cons (k := 5) rfl (.cons (k := 6) rfl (.cons (k := 8) rfl (.cons (k := 15) rfl (.cons (k := 16) rfl (.cons (k := 17) rfl (.cons (k := 24) rfl .nil))))))))) (.cons (k := 113) rfl (.cons (k := 130) rfl (.cons (k := 150) rfl (.cons (k := 0) rfl (.cons (k := 1) rfl (.cons (k := 2) rfl (.cons (k := 50) rfl (.cons (k := 110) rfl (.cons (k := 131) rfl (.cons (k := 151) rfl .nil)))))))))) ?_
    have hwl := rdZs_len w.k z.s
    have hwl2 : w.l.length = w.k := by have e : w.l = (rdZs w.k z.s).1 := congrArg Prod.fst hwR; rw [e, hwl]
    refine W.seq ?_
    refine W.region ?_
    refine RL.q (Yld.bin rfl rfl BinV.lss) rfl ?_
    refine RL.nil ?_
    refine N.next ?_
    refine W.seq ?_
    first | refine W.condD rfl (fun hc26 => ?_) (fun hc26 => ?_) | (refine W.cond rfl (fun hc26 => ?_) (fun hc26 => ?_) <;> try simp only [Bool.or_eq_true, Bool.and_eq_true, Bool.not_eq_true', Bool.not_eq_false', decide_eq_true_eq, Bool.or_eq_false_iff, Bool.and_eq_false_iff, decide_eq_false_iff_not, beq_iff_eq, beq_eq_false_iff_ne, ne_eq, Decidable.not_not] at hc26)
    ·
      refine W.skip ?_
      refine N.next ?_
      refine W.seq ?_
      refine W.block ?_
      refine W.draw (.q 0 (.q 1 (.q 2 (.q 4 (.two 3 (.one 5 (.one 6 (.one 7 (.q 8 (.one 9 .done))))) 5 (.two 3 (.one 6 (.one 7 (.q 8 (.one 9 .done)))) 6 (.one 3 (.one 7 (.q 8 (.one 9 .done)))))))))) (.cons (k := 0) rfl .nil) mix (by kernel_rfl) (by kernel_rfl) ?_
      refine DL.q rfl (Yld.move rfl) rfl ?_
      refine DL.q rfl (Yld.move rfl) rfl ?_
      refine DL.q rfl (Yld.nilP rfl) rfl ?_
      refine DL.q rfl (Yld.move rfl) rfl ?_
      refine DL.two ?_ ?_
      ·
        refine DL.one rfl (Yld.eff (Yld.load1 (c := 113) Tryz.underlying22 rfl rfl rfl (single_self _ _) get_mid)) rfl (by rintro _ _ ⟨rfl, rfl⟩; repeat (first | exact .nil | refine .cons rfl ?_)) ?_
        rintro _ _ ⟨rfl, rfl⟩
        refine DL.one rfl (Eff.call ent49 [150, 151] [150, 151] (.cons rfl .nil) (Int_ct r w.x B hw) rfl rfl rfl rfl (by rintro _ _ ⟨_, _, _, _, rfl⟩; rfl)) rfl (by rintro _ _ ⟨_, ⟨x2, hx2, hx2s, rfl, rfl⟩, rfl⟩; repeat (first | exact .nil | refine .cons rfl ?_)) ?_
        rintro _ _ ⟨_, ⟨x2, hx2, hx2s, rfl, rfl⟩, rfl⟩
        refine DL.one rfl (Eff.buildSlice 133 Tryz.underlying22 sz3 zc3 rfl rfl (.cons rfl rfl .nil) rfl) rfl (by rintro _ _ ⟨b33, rfl, rfl⟩; repeat (first | exact .nil | refine .cons rfl ?_)) ?_
        rintro _ _ ⟨b33, rfl, rfl⟩
        refine DL.one rfl (Eff.appendE (tc := 130) (sc := 133) (fun z : Int => [Value.int .i64 z]) Tryz.underlying22 el3 rfl rfl rfl rfl hwO rfl (iz_single rfl) rfl (iz_one1 _) (by decide) (by simp; omega) (by simp [maxLen]; omega)) rfl (by rintro _ _ ⟨Ha, pa, ca, rfl, hOa, rfl⟩; repeat (first | exact .nil | refine .cons rfl ?_)) ?_
        rintro _ _ ⟨Ha, pa, ca, rfl, hOa, rfl⟩
        refine DL.q rfl (Yld.nilP rfl) rfl ?_
        refine DL.one0 rfl (Eff.storeS (c := 113) [sv (pa, ca, w.l ++ [(rdZ w.x.s).1])] sz22 rfl rfl rfl rfl rfl (by rw [Nat.ble_eq]; simp) rfl put_mid) (by rintro _ _ rfl; repeat (first | exact .nil | refine .cons rfl ?_)) ?_
        rintro _ _ rfl
        refine DL.done ?_
        refine N.block_normal ?_
        refine N.next ?_
        refine W.keep (.cons (k := 0) rfl (.cons (k := 5) rfl (.cons (k := 6) rfl (.cons (k := 8) rfl (.cons (k := 15) rfl (.cons (k := 16) rfl (.cons (k := 17) rfl (.cons (k := 24) rfl (.cons (k := 25) rfl .nil))))))))) (.cons (k := 0) rfl (.cons (k := 1) rfl (.cons (k := 2) rfl (.cons (k := 50) rfl (.cons (k := 110) rfl (.cons (k := 113) rfl (.cons (k := 130) rfl (.cons (k := 131) rfl (.cons (k := 133) rfl (.cons (k := 150) rfl (.cons (k := 151) rfl .nil))))))))))) ?_
        refine W.region ?_
        refine RL.q (Yld.bin rfl rfl (by first | exact BinV.add (by omega) (by omega) | exact BinV.addW)) rfl ?_
        refine RL.q (Yld.move rfl) rfl ?_
        refine RL.nil ?_
        exact N.famK ⟨w.k + 1, x2, pa, ca, w.l ++ [(rdZ w.x.s).1], Ha⟩ ⟨⟨by dsimp only; omega, hx2, hOa, by
            dsimp only
            have e1 : w.l = (rdZs w.k z.s).1 := congrArg Prod.fst hwR
            have e2 : w.x.s = (rdZs w.k z.s).2 := congrArg Prod.snd hwR
            simp only [rdZs]; rw [← e1, ← e2, hx2s]⟩, by dsimp only; omega⟩ (.as rfl (by first | rfl | (simp; done) | (congr 1; simp; done) | (congr 1; omega)) .nil) (.cons rfl (.cons rfl (.cons rfl (.cons rfl (.cons rfl (.cons rfl (.cons rfl (.cons rfl .nil)))))))) (.cons rfl (.cons rfl (.cons rfl .nil))) (.cons rfl (.cons rfl (.cons rfl (.cons rfl (.cons rfl (.cons rfl (.cons rfl .nil)))))))
      ·
        refine DL.one rfl (Eff.call ent49 [150, 151] [150, 151] (.cons rfl .nil) (Int_ct r w.x B hw) rfl rfl rfl rfl (by rintro _ _ ⟨_, _, _, _, rfl⟩; rfl)) rfl (by rintro _ _ ⟨_, ⟨x2, hx2, hx2s, rfl, rfl⟩, rfl⟩; repeat (first | exact .nil | refine .cons rfl ?_)) ?_
        rintro _ _ ⟨_, ⟨x2, hx2, hx2s, rfl, rfl⟩, rfl⟩
        refine DL.two ?_ ?_
        ·
          refine DL.one rfl (Yld.eff (Yld.load1 (c := 113) Tryz.underlying22 rfl rfl rfl (single_self _ _) get_mid)) rfl (by rintro _ _ ⟨rfl, rfl⟩; repeat (first | exact .nil | refine .cons rfl ?_)) ?_
          rintro _ _ ⟨rfl, rfl⟩
          refine DL.one rfl (Eff.buildSlice 133 Tryz.underlying22 sz3 zc3 rfl rfl (.cons rfl rfl .nil) rfl) rfl (by rintro _ _ ⟨b33, rfl, rfl⟩; repeat (first | exact .nil | refine .cons rfl ?_)) ?_
          rintro _ _ ⟨b33, rfl, rfl⟩
          refine DL.one rfl (Eff.appendE (tc := 130) (sc := 133) (fun z : Int => [Value.int .i64 z]) Tryz.underlying22 el3 rfl rfl rfl rfl hwO rfl (iz_single rfl) rfl (iz_one1 _) (by decide) (by simp; omega) (by simp [maxLen]; omega)) rfl (by rintro _ _ ⟨Ha, pa, ca, rfl, hOa, rfl⟩; repeat (first | exact .nil | refine .cons rfl ?_)) ?_
          rintro _ _ ⟨Ha, pa, ca, rfl, hOa, rfl⟩
          refine DL.q rfl (Yld.nilP rfl) rfl ?_
          refine DL.one0 rfl (Eff.storeS (c := 113) [sv (pa, ca, w.l ++ [(rdZ w.x.s).1])] sz22 rfl rfl rfl rfl rfl (by rw [Nat.ble_eq]; simp) rfl put_mid) (by rintro _ _ rfl; repeat (first | exact .nil | refine .cons rfl ?_)) ?_
          rintro _ _ rfl
          refine DL.done ?_
          refine N.block_normal ?_
          refine N.next ?_
          refine W.keep (.cons (k := 0) rfl (.cons (k := 5) rfl (.cons (k := 6) rfl (.cons (k := 8) rfl (.cons (k := 15) rfl (.cons (k := 16) rfl (.cons (k := 17) rfl (.cons (k := 24) rfl (.cons (k := 25) rfl .nil))))))))) (.cons (k := 0) rfl (.cons (k := 1) rfl (.cons (k := 2) rfl (.cons (k := 50) rfl (.cons (k := 110) rfl (.cons (k := 113) rfl (.cons (k := 130) rfl (.cons (k := 131) rfl (.cons (k := 133) rfl (.cons (k := 150) rfl (.cons (k := 151) rfl .nil))))))))))) ?_
          refine W.region ?_
          refine RL.q (Yld.bin rfl rfl (by first | exact BinV.add (by omega) (by omega) | exact BinV.addW)) rfl ?_
          refine RL.q (Yld.move rfl) rfl ?_
          refine RL.nil ?_
          exact N.famK ⟨w.k + 1, x2, pa, ca, w.l ++ [(rdZ w.x.s).1], Ha⟩ ⟨⟨by dsimp only; omega, hx2, hOa, by
              dsimp only
              have e1 : w.l = (rdZs w.k z.s).1 := congrArg Prod.fst hwR
              have e2 : w.x.s = (rdZs w.k z.s).2 := congrArg Prod.snd hwR
              simp only [rdZs]; rw [← e1, ← e2, hx2s]⟩, by dsimp only; omega⟩ (.as rfl (by first | rfl | (simp; done) | (congr 1; simp; done) | (congr 1; omega)) .nil) (.cons rfl (.cons rfl (.cons rfl (.cons rfl (.cons rfl (.cons rfl (.cons rfl (.cons rfl .nil)))))))) (.cons rfl (.cons rfl (.cons rfl .nil))) (.cons rfl (.cons rfl (.cons rfl (.cons rfl (.cons rfl (.cons rfl (.cons rfl .nil)))))))
        ·
          refine DL.one rfl (Eff.buildSlice 133 Tryz.underlying22 sz3 zc3 rfl rfl (.cons rfl rfl .nil) rfl) rfl (by rintro _ _ ⟨b33, rfl, rfl⟩; repeat (first | exact .nil | refine .cons rfl ?_)) ?_
          rintro _ _ ⟨b33, rfl, rfl⟩
          refine DL.one rfl (Yld.eff (Yld.load1 (c := 113) Tryz.underlying22 rfl rfl rfl (single_self _ _) get_mid)) rfl (by rintro _ _ ⟨rfl, rfl⟩; repeat (first | exact .nil | refine .cons rfl ?_)) ?_
          rintro _ _ ⟨rfl, rfl⟩
          refine DL.one rfl (Eff.appendE (tc := 130) (sc := 133) (fun z : Int => [Value.int .i64 z]) Tryz.underlying22 el3 rfl rfl rfl rfl hwO rfl (iz_single rfl) rfl (iz_one1 _) (by decide) (by simp; omega) (by simp [maxLen]; omega)) rfl (by rintro _ _ ⟨Ha, pa, ca, rfl, hOa, rfl⟩; repeat (first | exact .nil | refine .cons rfl ?_)) ?_
          rintro _ _ ⟨Ha, pa, ca, rfl, hOa, rfl⟩
          refine DL.q rfl (Yld.nilP rfl) rfl ?_
          refine DL.one0 rfl (Eff.storeS (c := 113) [sv (pa, ca, w.l ++ [(rdZ w.x.s).1])] sz22 rfl rfl rfl rfl rfl (by rw [Nat.ble_eq]; simp) rfl put_mid) (by rintro _ _ rfl; repeat (first | exact .nil | refine .cons rfl ?_)) ?_
          rintro _ _ rfl
          refine DL.done ?_
          refine N.block_normal ?_
          refine N.next ?_
          refine W.keep (.cons (k := 0) rfl (.cons (k := 5) rfl (.cons (k := 6) rfl (.cons (k := 8) rfl (.cons (k := 15) rfl (.cons (k := 16) rfl (.cons (k := 17) rfl (.cons (k := 24) rfl (.cons (k := 25) rfl .nil))))))))) (.cons (k := 0) rfl (.cons (k := 1) rfl (.cons (k := 2) rfl (.cons (k := 50) rfl (.cons (k := 110) rfl (.cons (k := 113) rfl (.cons (k := 130) rfl (.cons (k := 131) rfl (.cons (k := 133) rfl (.cons (k := 150) rfl (.cons (k := 151) rfl .nil))))))))))) ?_
          refine W.region ?_
          refine RL.q (Yld.bin rfl rfl (by first | exact BinV.add (by omega) (by omega) | exact BinV.addW)) rfl ?_
          refine RL.q (Yld.move rfl) rfl ?_
          refine RL.nil ?_
          exact N.famK ⟨w.k + 1, x2, pa, ca, w.l ++ [(rdZ w.x.s).1], Ha⟩ ⟨⟨by dsimp only; omega, hx2, hOa, by
              dsimp only
              have e1 : w.l = (rdZs w.k z.s).1 := congrArg Prod.fst hwR
              have e2 : w.x.s = (rdZs w.k z.s).2 := congrArg Prod.snd hwR
              simp only [rdZs]; rw [← e1, ← e2, hx2s]⟩, by dsimp only; omega⟩ (.as rfl (by first | rfl | (simp; done) | (congr 1; simp; done) | (congr 1; omega)) .nil) (.cons rfl (.cons rfl (.cons rfl (.cons rfl (.cons rfl (.cons rfl (.cons rfl (.cons rfl .nil)))))))) (.cons rfl (.cons rfl (.cons rfl .nil))) (.cons rfl (.cons rfl (.cons rfl (.cons rfl (.cons rfl (.cons rfl (.cons rfl .nil)))))))
    ·
      have hwend : w.k = cv.toNat := by omega
      refine W.exit ?_
      refine N.then_exit ?_
      refine N.then_exit ?_
      refine N.block_eq ?_
      refine N.block_normal ?_
      refine N.next ?_
      refine W.keep (.cons (k := 0) rfl (.cons (k := 5) rfl (.cons (k := 6) rfl (.cons (k := 15) rfl (.cons (k := 16) rfl (.cons (k := 17) rfl .nil)))))) (.cons (k := 0) rfl (.cons (k := 1) rfl (.cons (k := 2) rfl (.cons (k := 50) rfl (.cons (k := 110) rfl (.cons (k := 113) rfl (.cons (k := 130) rfl (.cons (k := 131) rfl (.cons (k := 150) rfl (.cons (k := 151) rfl .nil)))))))))) ?_
      refine W.region ?_
      refine RL.q (Yld.bin rfl rfl (by first | exact BinV.add (by omega) (by omega) | exact BinV.addW)) rfl ?_
      refine RL.q (Yld.move rfl) rfl ?_
      refine RL.nil ?_
      refine N.merge 131 130 rfl rfl rfl fun ha => ?_
      exact N.famK ⟨w.x, y.ss ++ [(w.p, w.c, w.l)], hjoin y.H w.H⟩ ⟨⟨by simp; omega, hw, fun t ht => by
          rcases List.mem_append.1 ht with h | h
          · exact ⟨(hyS t h).1.mono hjoin_l, (hyS t h).2⟩
          · simp only [List.mem_singleton] at h; subst h; exact ⟨hwO.sl.mono ha, by have := rdZs_len w.k z.s; have e : w.l = (rdZs w.k z.s).1 := congrArg Prod.fst hwR; dsimp only; rw [e, this]; omega⟩, by
          dsimp only; rw [List.length_append, List.length_singleton, List.map_append]
          have e1 : y.ss.map (·.2.2) = (rdLs y.ss.length (nums s, 0)).1 := congrArg Prod.fst hyR
          have e2 : y.x.s = (rdLs y.ss.length (nums s, 0)).2 := congrArg Prod.snd hyR
          simp only [rdLs]; rw [← e1, ← e2]
          have e3 : (w.l, w.x.s) = rdL y.x.s := by rw [hwR]; unfold rdL; rw [show y.x.s.1.length = y.x.l.length from rfl, hcv, ← hwend, hzs]
          rw [← e3]; rfl, by
          have e4 : w.x.s = (rdZs w.k z.s).2 := congrArg Prod.snd hwR
          have e5 := rdZs_short w.k z.s
          rw [← e4, hzs] at e5
          exact Nat.le_trans e5 (Nat.le_trans (rdC_short _ _) hyl)⟩, by simp; omega⟩ (.as rfl (by show Value.int .i64 _ = Value.int .i64 _; congr 1; simp) .nil) (.cons rfl (.cons rfl (.cons rfl (.cons rfl (.cons rfl .nil))))) (.as rfl (by dsimp only; rw [List.append_assoc, List.length_append, List.length_singleton, List.singleton_append, show 3 - (y.ss.length + 1) = 2 - y.ss.length by omega]) (.cons rfl (.cons rfl (.cons rfl .nil)))) (.cons rfl (.cons rfl (.cons rfl (.cons rfl (.cons rfl (.cons rfl .nil))))))
  ·
    have h3 : y.ss.length = 3 := by omega
    obtain ⟨s0, s1, s2, hyss⟩ : ∃ a b c, y.ss = [a, b, c] := by
      match y.ss, h3 with
      | [a, b, c], _ => exact ⟨a, b, c, rfl⟩
    rw [hyss] at hyS hyR ⊢
    obtain ⟨⟨q0, l0⟩, ⟨q1, l1⟩, ⟨q2, l2⟩⟩ : _ ∧ _ ∧ _ := ⟨hyS s0 (by simp), hyS s1 (by simp), hyS s2 (by simp)⟩
    obtain ⟨C, hCd⟩ : ∃ C : Cf, C = ⟨s0.2.2, s1.2.2, s2.2.2, s0.1, s0.2.1, s1.1, s1.2.1, s2.1, s2.2.1⟩ := ⟨_, rfl⟩
    have hC : C.In y.H := by rw [hCd]; exact ⟨q0, q1, q2⟩
    have hR : (decRaw (nums s)).1 = (C.o, C.n, C.l) ∧ (decRaw (nums s)).2 = y.x.s := by
      have := (rdLs_three (nums s, 0)).symm.trans hyR.symm
      simp only [Prod.mk.injEq, List.map_cons, List.map_nil, List.cons.injEq, and_true] at this
      rw [hCd]; exact ⟨by unfold decRaw; rw [this.1.1, this.1.2.1, this.1.2.2], this.2⟩
    obtain ⟨hR1, hR2⟩ := hR
    have hgd : decG (nums s) = gl C := by unfold decG gl; rw [hR1]
    have hgood : good (nums s) ↔ rdE y.x.s = 0 ∧ GV (gl C) := by unfold good; rw [hgd, hR2]
    have hlo : C.o.length ≤ 400000 := by rw [hCd]; exact l0
    have hln2 : C.n.length ≤ 400000 := by rw [hCd]; exact l1
    have hll : C.l.length ≤ 400000 := by rw [hCd]; exact l2
    rw [show (([s0, s1, s2] ++ List.replicate (3 - [s0, s1, s2].length) ((none, 0, []) : Option Addr × Nat × List Int)).map sv) = [.slice C.po C.o.length C.co, .slice C.pn C.n.length C.cn, .slice C.pl C.l.length C.cl] by rw [hCd]; rfl]
    refine W.exit ?_
    refine N.then_exit ?_
    refine N.then_exit ?_
    refine N.block_eq ?_
    refine N.next ?_
    refine W.keep (.cons (k := 0) rfl (.cons (k := 5) rfl (.cons (k := 6) rfl .nil))) (.cons (k := 0) rfl (.cons (k := 1) rfl (.cons (k := 2) rfl (.cons (k := 50) rfl (.cons (k := 110) rfl (.cons (k := 113) rfl (.cons (k := 130) rfl (.cons (k := 131) rfl (.cons (k := 150) rfl (.cons (k := 151) rfl .nil)))))))))) ?_
    refine W.seq ?_
    refine W.seq ?_
    refine W.region ?_
    refine RL.q (Yld.move rfl) rfl ?_
    refine RL.e (Eff.call ent50 [150, 151] [150, 151] (.cons rfl .nil) (End_ct r y.x B hyx) rfl rfl rfl rfl (by rintro _ _ ⟨_, rfl⟩; rfl)) rfl ?_
    rintro _ _ ⟨_, ⟨rfl, rfl⟩, rfl⟩
    refine RL.q (Yld.bin rfl rfl BinV.neq) rfl ?_
    refine RL.q (Yld.move rfl) rfl ?_
    refine' RL.or (t := 41) (d := 45) 4 rfl (.cons (k := 0) rfl (.cons (k := 5) rfl (.cons (k := 6) rfl (.cons (k := 38) rfl (.cons (k := 39) rfl (.cons (k := 40) rfl .nil)))))) (.cons (k := 0) rfl (.cons (k := 1) rfl (.cons (k := 2) rfl (.cons (k := 50) rfl (.cons (k := 110) rfl (.cons (k := 113) rfl (.cons (k := 130) rfl (.cons (k := 131) rfl (.cons (k := 150) rfl (.cons (k := 151) rfl .nil)))))))))) ?_ ?_ ?_
    rotate_left 1
    ·
      intro hg41
      refine RL.gq rfl rfl (Yld.move rfl) rfl ?_
      refine RL.ge rfl rfl (Eff.call ent51 [113, 131] [113, 131] (.cons rfl .nil) (mvalid_ct b13 C y.H hC (by omega) (by omega) (by omega)) rfl rfl rfl rfl (by rintro _ _ ⟨_, rfl⟩; rfl)) rfl ?_
      rintro _ _ ⟨_, ⟨rfl, rfl⟩, rfl⟩
      refine RL.gq rfl rfl (by first | exact Yld.notD rfl | exact Yld.not rfl) rfl ?_
      refine RL.q (by first | exact Yld.pickT rfl rfl | exact Yld.pickF rfl rfl) rfl ?_
      exact RL.nil (N.meet (.cons rfl (.cons rfl (.cons rfl (.cons rfl (.cons rfl (.cons rfl (.cons rfl .nil))))))) (.cons rfl (.cons rfl (.cons rfl (.cons rfl (.cons rfl (.cons rfl (.cons rfl (.cons rfl (.cons rfl (.cons rfl .nil)))))))))))
    ·
      intro hg41
      refine RL.gskip rfl rfl rfl rfl ?_
      refine RL.gskip rfl rfl rfl rfl ?_
      refine RL.gskip rfl rfl rfl rfl ?_
      refine RL.q (by first | exact Yld.pickT rfl rfl | exact Yld.pickF rfl rfl) rfl ?_
      exact RL.nil (N.meet (.cons rfl (.cons rfl (.cons rfl (.cons rfl (.cons rfl (.cons rfl (.cons rfl .nil))))))) (.cons rfl (.cons rfl (.cons rfl (.cons rfl (.cons rfl (.cons rfl (.cons rfl (.cons rfl (.cons rfl (.cons rfl .nil)))))))))))
    refine RL.nil ?_
    refine N.next ?_
    refine W.keep (.cons (k := 0) rfl (.cons (k := 6) rfl (.cons (k := 45) rfl .nil))) (.cons (k := 0) rfl (.cons (k := 1) rfl (.cons (k := 2) rfl (.cons (k := 50) rfl (.cons (k := 110) rfl (.cons (k := 113) rfl (.cons (k := 130) rfl (.cons (k := 131) rfl (.cons (k := 150) rfl (.cons (k := 151) rfl .nil)))))))))) ?_
    refine W.cond rfl (fun hc45 => ?_) (fun hc45 => ?_)
    ·
      have hbad : ¬ good (nums s) := by
        rw [hgood]
        rintro ⟨h1, h2⟩
        simp [h1, h2] at hc45
      refine W.seq ?_
      refine W.region ?_
      refine RL.q (Yld.assign rfl) rfl ?_
      refine RL.nil ?_
      refine N.next ?_
      refine W.ret ?_
      refine N.then_ret ?_
      exact N.retBy [1, 2] (.cons (.tmp rfl) .nil) rfl rfl rfl rfl ⟨x, G, by rw [if_neg hbad]; rfl, hx, by rw [if_neg hbad], rfl⟩
    ·
      have hok : good (nums s) := by
        rw [hgood]
        by_cases e : rdE y.x.s = 0
        · by_cases e2 : GV (gl C)
          · exact ⟨e, e2⟩
          · simp [e2] at hc45
        · simp [e] at hc45
      refine W.skip ?_
      refine N.next ?_
      refine W.seq ?_
      refine W.region ?_
      refine RL.q (Yld.move rfl) rfl ?_
      refine RL.q (Yld.move rfl) rfl ?_
      refine RL.q (Yld.nilP rfl) rfl ?_
      refine RL.q (Yld.loadW (c := 113) Tryz.underlying60 rfl sz60 rfl rfl (by first | exact single_self _ _ | exact pset_self _ _ _ | assumption) rfl) rfl ?_
      refine RL.q (Yld.nilP rfl) rfl ?_
      refine RL.e0 (Eff.storeS (c := 1) _ sz60 rfl rfl rfl rfl rfl rfl rfl (by (try simp only [putAt, List.take, List.drop, List.nil_append, List.cons_append, List.append_nil, List.length_cons, List.length_nil, Nat.add_zero, Nat.zero_add, Nat.reduceAdd]); rfl)) ?_
      rintro _ _ rfl
      refine RL.nil ?_
      refine N.next ?_
      refine W.keep .nil (.cons (k := 0) rfl (.cons (k := 1) rfl (.cons (k := 2) rfl (.cons (k := 50) rfl (.cons (k := 110) rfl (.cons (k := 113) rfl (.cons (k := 130) rfl (.cons (k := 131) rfl (.cons (k := 150) rfl (.cons (k := 151) rfl .nil)))))))))) ?_
      refine W.seq ?_
      refine W.region ?_
      refine RL.q (Yld.assign rfl) rfl ?_
      refine RL.nil ?_
      refine N.next ?_
      refine W.ret ?_
      exact N.retBy [1, 131] (.cons (.tmp rfl) .nil) rfl rfl rfl rfl ⟨C, y.H, by rw [if_pos hok]; rfl, hC, by rw [if_pos hok, hgd], rfl⟩

end Go.Proofs.YtdjmdfnhnlijiaaGreatDoor
