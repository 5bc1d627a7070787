/- Several texts in one, in their build order: what the proofs of this seat share. -/
import Derived.Test.YtboapdcmaeojgaaGreatDoorPR4
set_option linter.unusedVariables false
set_option linter.unusedSimpArgs false
set_option linter.unusedSectionVars false
namespace Go.Proofs.YtboapdcmaeojgaaGreatDoor
open SL Cat Fen
set_option linter.unusedVariables false
set_option linter.unusedSimpArgs false
theorem ent189 : Ent Tryz.prog 189 := ⟨_, _, Tryz.func189, by kernel_rfl, rfl⟩
set_option maxRecDepth 100000 in
set_option maxHeartbeats 1600000 in
theorem rfind_ct (x : Rt) (mach : Int) (hx : x.In) (it : Int) : Ct Tryz.prog 52 [.agg [.int .i64 mach, .slice x.pu x.us.length x.cu, .int .i64 x.gen, .slice x.ps x.st.length x.cs, .slice x.pv x.va.length x.cv, .slice x.pc x.cl.length x.cc].toArray, .int .i64 it] [x.HU] (fun v Hs => v = .tuple [.agg (fvU x.us it).1.c.toArray, .bool (fvU x.us it).2].toArray ∧ Hs = [x.HU]) := by
  refine Ct.body Tryz.func52 rfl Tryz.ntmps52 rfl ?_
  intro E F
  obtain ⟨hSu, hSs, hSv, hSc⟩ := id hx
  have hmu := hSu.len_le
  have hms := hSs.len_le
  have hmv := hSv.len_le
  have hmc := hSc.len_le
  simp only [List.length_map, iz_len, maxLen] at hmu hms hmv hmc
  refine W.seq (W.region ?_)
  refine RL.e (Eff.box 102 _ rfl rfl) rfl ?_
  rintro _ _ ⟨b2, rfl, rfl⟩
  refine RL.e (Eff.alloc 104 zc48) rfl ?_
  rintro _ _ ⟨b4, rfl, rfl⟩
  refine RL.q (Yld.assign rfl) rfl (RL.nil (N.next ?_))
  refine W.seq ?_
  refine W.seq (W.region ?_)
  refine RL.q (Yld.assign rfl) rfl (RL.nil (N.next ?_))
  refine W.block ?_
  refine W.loopK (ι := Nat) (fun j => (j ≤ x.us.length ∧ ∀ (i : Nat) a, i < j → x.us[i]? = some a → opn it a = false)) (fun j => [(6, .int .i64 (j : Nat))]) (fun j => []) (fun j => x.us.length - j) (.of [1, 2, 4] rfl) (.of [0, 1, 102, 104] rfl) 0 ?_ ?_ ?_ ?_
  · exact ⟨Nat.zero_le _, fun _ _ h => absurd h (Nat.not_lt_zero _)⟩
  · exact (.as rfl (by first | rfl | (simp; done) | (congr 1; simp; done) | (congr 1; omega)) .nil)
  · exact .nil
  rintro j ⟨hj, hI⟩
  refine W.keep (.of [6, 1, 2, 4] rfl) (.of [0, 1, 102, 104] rfl) ?_
  refine W.seq ?_
  refine W.seq (W.region ?_)
  refine RL.q (Yld.move rfl) rfl ?_
  refine RL.q (Yld.fieldAddr fo59_1 rfl) rfl ?_
  refine RL.q (Yld.ld 102 Tryz.underlying41 rfl rfl rfl rfl) rfl ?_
  refine RL.q (Yld.lenSl Tryz.underlying41 rfl) rfl ?_
  refine RL.q (Yld.bin rfl rfl BinV.lss) rfl ?_
  refine RL.nil (N.next ?_)
  refine W.keep (.of [1, 2, 4, 6, 11] rfl) (.of [0, 1, 102, 104] rfl) ?_
  first | refine W.condD rfl (fun hc11 => ?_) (fun hc11 => ?_) | (refine W.cond rfl (fun hc11 => ?_) (fun hc11 => ?_) <;> try simp only [Bool.or_eq_true, Bool.and_eq_true, Bool.not_eq_true', Bool.not_eq_false', decide_eq_true_eq, Bool.or_eq_false_iff, Bool.and_eq_false_iff, decide_eq_false_iff_not, beq_iff_eq, beq_eq_false_iff_ne, ne_eq, Decidable.not_not] at hc11)
  ·
   obtain ⟨u, hu⟩ : ∃ u, x.us[j]? = some u := ⟨_, List.getElem?_eq_getElem (show j < x.us.length by first | omega | (simp only [List.length_map] at *; omega))⟩
   have hlu : (x.us.map U.c)[j]? = some u.c := by simp [hu]
   refine W.skip ?_
   refine N.next ?_
   refine W.seq ?_
   refine W.block ?_
   refine W.seq (W.region ?_)
   refine RL.q (Yld.fieldAddr fo59_1 rfl) rfl ?_
   refine RL.q (Yld.ld 102 Tryz.underlying41 rfl rfl rfl rfl) rfl ?_
   refine RL.q (Yld.move rfl) rfl ?_
   refine RL.q (Yld.ixr Tryz.underlying41 sz48 rfl rfl) rfl ?_
   refine RL.q (Yld.fieldAddr fo48_0 rfl) rfl ?_
   refine RL.q (by first | exact (by first | exact Yld.loadRow1 (cl := 1) Tryz.underlying3 rfl rfl rfl (by first | assumption | exact Own.sl (by assumption)) (by assumption) | exact Yld.loadRow1 (cl := 102) Tryz.underlying3 rfl rfl rfl (by first | assumption | exact Own.sl (by assumption)) (by assumption) | exact Yld.loadRow1 (cl := 104) Tryz.underlying3 rfl rfl rfl (by first | assumption | exact Own.sl (by assumption)) (by assumption)) | exact (by first | exact Yld.lrF 1 0 Tryz.underlying3 rfl rfl rfl rfl | exact Yld.lrF 102 0 Tryz.underlying3 rfl rfl rfl rfl | exact Yld.lrF 104 0 Tryz.underlying3 rfl rfl rfl rfl)) rfl ?_
   refine RL.q (Yld.move rfl) rfl ?_
   refine RL.q (Yld.bin rfl rfl BinV.eql) rfl ?_
   refine RL.q (Yld.move rfl) rfl ?_
   refine' RL.and (t := 22) (d := 30) 8 rfl (.of [1, 2, 4, 6, 11, 14, 15, 16, 17, 18, 19, 20, 21] rfl) (.of [0, 1, 102, 104] rfl) ?_ ?_ ?_
   rotate_left 1
   ·
    intro hg22
    refine RL.gq rfl rfl (Yld.fieldAddr fo59_1 rfl) rfl ?_
    refine RL.gq rfl rfl (Yld.ld 102 Tryz.underlying41 rfl rfl rfl rfl) rfl ?_
    refine RL.gq rfl rfl (Yld.move rfl) rfl ?_
    refine RL.gq rfl rfl (Yld.ixr Tryz.underlying41 sz48 rfl rfl) rfl ?_
    refine RL.gq rfl rfl (Yld.fieldAddr fo48_2 rfl) rfl ?_
    refine RL.gq rfl rfl (by first | exact Yld.lrF 1 2 Tryz.underlying3 rfl rfl rfl rfl | exact Yld.lrF 102 2 Tryz.underlying3 rfl rfl rfl rfl | exact Yld.lrF 104 2 Tryz.underlying3 rfl rfl rfl rfl) rfl ?_
    refine RL.gq rfl rfl (Yld.bin rfl rfl BinV.neq) rfl ?_
    refine RL.q Yld.pk rfl ?_
    exact RL.nil (N.meet (.to rfl) (.to rfl))
   ·
    intro hg22
    refine RL.gskip rfl rfl rfl rfl ?_
    refine RL.gskip rfl rfl rfl rfl ?_
    refine RL.gskip rfl rfl rfl rfl ?_
    refine RL.gskip rfl rfl rfl rfl ?_
    refine RL.gskip rfl rfl rfl rfl ?_
    refine RL.gskip rfl rfl rfl rfl ?_
    refine RL.gskip rfl rfl rfl rfl ?_
    refine RL.q Yld.pk rfl ?_
    exact RL.nil (N.meet (.to rfl) (.to rfl))
   refine RL.nil (N.next ?_)
   refine W.keep (.of [1, 2, 4, 6, 30] rfl) (.of [0, 1, 102, 104] rfl) ?_
   refine W.cond rfl (fun hc30 => ?_) (fun hc30 => ?_)
   ·
    have hfv := fvU_some (fndU_at hu hc30 hI)
    refine W.seq (W.region ?_)
    refine RL.q (Yld.fieldAddr fo59_1 rfl) rfl ?_
    refine RL.q (Yld.ld 102 Tryz.underlying41 rfl rfl rfl rfl) rfl ?_
    refine RL.q (Yld.move rfl) rfl ?_
    refine RL.q (Yld.ixr Tryz.underlying41 sz48 rfl rfl) rfl ?_
    refine RL.q (by first | exact Yld.lrA 1 Tryz.underlying48 sz48 rfl rfl rfl | exact Yld.lrA 102 Tryz.underlying48 sz48 rfl rfl rfl | exact Yld.lrA 104 Tryz.underlying48 sz48 rfl rfl rfl) rfl ?_
    refine RL.e0 (Eff.storeS (c := 104) _ sz48 rfl rfl rfl rfl rfl rfl rfl (by (try simp only [putAt, List.take, List.drop, List.nil_append, List.cons_append, List.append_nil, List.length_cons, List.length_nil, Nat.add_zero, Nat.zero_add, Nat.reduceAdd]); rfl)) ?_
    rintro _ _ rfl
    refine RL.q (Yld.assign rfl) rfl (RL.nil (N.next ?_))
    refine W.keep (.of [4, 5] rfl) (.of [0, 1, 102, 104] rfl) ?_
    refine W.ret ?_
    refine N.block_ret ?_
    refine N.then_ret ?_
    refine N.then_ret ?_
    refine N.block_ret ?_
    refine N.then_ret ?_
    exact N.retBy [1] (.cons (by first | exact .cell (c := 104) rfl rfl (fun w hs => run_loadVarA Tryz.underlying48 rfl sz48 rfl (fun j u hj => by rw [Nat.zero_add, PH.sub.cell hs (by first | exact single_self _ _ | exact pset_self _ _ _ | assumption)]; exact hj))) (.cons (.tmp rfl) .nil)) rfl rfl rfl rfl ⟨by rw [hfv]; rfl, rfl⟩
   ·
    refine W.skip ?_
    refine N.block_normal ?_
    refine N.next ?_
    refine W.region ?_
    refine RL.q (Yld.move rfl) rfl ?_
    refine RL.q (Yld.bin rfl rfl (by first | exact BinV.add (by omega) (by omega) | exact BinV.addW)) rfl ?_
    refine RL.q (Yld.assign rfl) rfl (RL.nil ?_)
    exact N.famK (j + 1) ⟨⟨by omega, fun q y hq hy => (Nat.lt_succ_iff_lt_or_eq.1 hq).elim (fun h => hI q y h hy) (fun e => by subst e; rw [hu] at hy; cases hy; exact hc30)⟩, by omega⟩ (.as rfl (by first | rfl | (simp; done) | (congr 1; simp; done) | (congr 1; omega)) .nil) (.to rfl) .nil (.to rfl)
  ·
   have hfv := fvU_none (fndU_no fun i a hi ha => hI i a (by omega) ha)
   refine W.exit ?_
   refine N.then_exit ?_
   refine N.then_exit ?_
   refine N.block_eq ?_
   refine N.next ?_
   refine W.keep (.of [4] rfl) (.of [0, 1, 102, 104] rfl) ?_
   refine W.seq (W.region ?_)
   refine RL.q (Yld.buildP lay48 .nil rfl) rfl ?_
   refine RL.e0 (Eff.storeS (c := 104) _ sz48 rfl rfl rfl rfl rfl rfl rfl (by (try simp only [putAt, List.take, List.drop, List.nil_append, List.cons_append, List.append_nil, List.length_cons, List.length_nil, Nat.add_zero, Nat.zero_add, Nat.reduceAdd]); rfl)) ?_
   rintro _ _ rfl
   refine RL.q (Yld.assign rfl) rfl (RL.nil (N.next ?_))
   refine W.ret ?_
   exact N.retBy [1] (.cons (by first | exact .cell (c := 104) rfl rfl (fun w hs => run_loadVarA Tryz.underlying48 rfl sz48 rfl (fun j u hj => by rw [Nat.zero_add, PH.sub.cell hs (by first | exact single_self _ _ | exact pset_self _ _ _ | assumption)]; exact hj))) (.cons (.tmp rfl) .nil)) rfl rfl rfl rfl ⟨by rw [hfv]; rfl, rfl⟩
set_option maxRecDepth 100000 in
set_option maxHeartbeats 3200000 in
theorem rput_ct (l : List U) (H : PH) (p : Option Addr) (c n : Nat) (hn : n = l.length) (hS : Sl H p c 5 (l.map U.c)) (u : U) (hb : l.length ≤ 1000000) : Ct Tryz.prog 189 [.slice p n c, .agg [.int .i64 u.it, .int .i64 u.rp, .int .i64 u.st, .int .i64 u.va, .int .i64 u.ca].toArray] [H] (fun v Hs => ∃ H' p' c', v = .slice p' (putR l u).length c' ∧ Own H' p' c' 48 5 ((putR l u).map U.c) ∧ Hs = [H']) := by
  refine Ct.body Tryz.func189 rfl Tryz.ntmps189 rfl ?_
  intro E F
  subst hn
  have hmx := hS.len_le
  simp only [List.length_map, maxLen] at hmx
  refine W.seq (W.region ?_)
  refine RL.e (Eff.box 103 _ rfl rfl) rfl ?_
  rintro _ _ ⟨b3, rfl, rfl⟩
  refine RL.q (Yld.assign rfl) rfl (RL.nil (N.next ?_))
  refine W.seq (W.region ?_)
  refine RL.q (Yld.assign rfl) rfl (RL.nil (N.next ?_))
  refine W.seq ?_
  refine W.block ?_
  refine W.loopK (ι := Nat) (fun j => (j ≤ l.length ∧ ∀ (i : Nat) a, i < j → l[i]? = some a → lt u a = true)) (fun j => [(5, .int .i64 (j : Nat))]) (fun j => []) (fun j => l.length - j) (.of [0, 3] rfl) (.of [0, 1, 103] rfl) 0 ?_ ?_ ?_ ?_
  · exact ⟨Nat.zero_le _, fun _ _ h => absurd h (Nat.not_lt_zero _)⟩
  · exact (.as rfl (by first | rfl | (simp; done) | (congr 1; simp; done) | (congr 1; omega)) .nil)
  · exact .nil
  rintro j ⟨hj, hI⟩
  refine W.keep (.of [5, 0, 3] rfl) (.of [0, 1, 103] rfl) ?_
  refine W.seq ?_
  refine W.seq ?_
  refine W.draw (.q 0 (.q 1 (.q 2 (.q 3 (.q 4 (.q 5 (.q 6 (.q 7 (.q 8 (.q 9 (.q 10 (.q 11 (.q 12 (.q 13 (.q 14 (.q 15 (.q 16 (.q 17 (.q 18 (.q 19 (.q 20 (.q 21 (.q 22 (.q 23 (.q 24 (.q 25 (.q 26 (.q 27 (.q 28 (.q 29 (.q 30 (.q 31 (.q 32 (.q 33 .done)))))))))))))))))))))))))))))))))) (.of [0, 1, 103] rfl) mix (by kernel_rfl) (by kernel_rfl) ?_
  refine DL.q rfl (Yld.move rfl) rfl ?_
  refine DL.q rfl (Yld.move rfl) rfl ?_
  refine DL.q rfl (Yld.lenSl Tryz.underlying41 rfl) rfl ?_
  refine DL.q rfl (Yld.bin rfl rfl BinV.lss) rfl ?_
  refine DL.q rfl (Yld.move rfl) rfl ?_
  refine' DL.and (t := 11) (d := 40) 29 rfl (.of [0, 3, 5, 7, 8, 9, 10] rfl) (.of [0, 1, 103] rfl) ?_ ?_ ?_
  rotate_left 1
  ·
   intro hg11
   have hj2 : j < l.length := by have := of_decide_eq_true hg11; omega
   have hlw : (l.map U.c)[j]? = some (U.c (l[j]?.getD (⟨0, 0, 0, 0, 0⟩ : U))) := by rw [List.getElem?_map, List.getElem?_eq_getElem hj2]; rfl
   refine DL.gq rfl rfl rfl (Yld.move rfl) rfl ?_
   refine DL.gq rfl rfl rfl (Yld.move rfl) rfl ?_
   refine DL.gq rfl rfl rfl (Yld.ixr Tryz.underlying41 sz48 rfl rfl) rfl ?_
   refine DL.gq rfl rfl rfl (Yld.fieldAddr fo48_0 rfl) rfl ?_
   refine DL.gq rfl rfl rfl (by first | exact (by first | exact Yld.loadRow1 (cl := 1) Tryz.underlying3 rfl rfl rfl (by first | assumption | exact Own.sl (by assumption)) (by assumption) | exact Yld.loadRow1 (cl := 103) Tryz.underlying3 rfl rfl rfl (by first | assumption | exact Own.sl (by assumption)) (by assumption)) | exact (by first | exact Yld.lrF 1 0 Tryz.underlying3 rfl rfl rfl rfl | exact Yld.lrF 103 0 Tryz.underlying3 rfl rfl rfl rfl)) rfl ?_
   refine DL.gq rfl rfl rfl (Yld.fieldAddr fo48_0 rfl) rfl ?_
   refine DL.gq rfl rfl rfl (Yld.ld 103 Tryz.underlying3 rfl rfl rfl rfl) rfl ?_
   refine DL.gq rfl rfl rfl (Yld.bin rfl rfl BinV.lss) rfl ?_
   refine DL.gq rfl rfl rfl (Yld.move rfl) rfl ?_
   refine' DL.or (t := 20) (d := 39) 19 rfl (.of [0, 3, 5, 7, 8, 9, 10, 11, 12, 13, 14, 15, 16, 17, 18, 19] rfl) (.of [0, 1, 103] rfl) ?_ ?_ ?_
   rotate_left 1
   ·
    intro hg20
    refine DL.gq rfl rfl rfl (Yld.move rfl) rfl ?_
    refine DL.gq rfl rfl rfl (Yld.move rfl) rfl ?_
    refine DL.gq rfl rfl rfl (Yld.ixr Tryz.underlying41 sz48 rfl rfl) rfl ?_
    refine DL.gq rfl rfl rfl (Yld.fieldAddr fo48_0 rfl) rfl ?_
    refine DL.gq rfl rfl rfl (by first | exact (by first | exact Yld.loadRow1 (cl := 1) Tryz.underlying3 rfl rfl rfl (by first | assumption | exact Own.sl (by assumption)) (by assumption) | exact Yld.loadRow1 (cl := 103) Tryz.underlying3 rfl rfl rfl (by first | assumption | exact Own.sl (by assumption)) (by assumption)) | exact (by first | exact Yld.lrF 1 0 Tryz.underlying3 rfl rfl rfl rfl | exact Yld.lrF 103 0 Tryz.underlying3 rfl rfl rfl rfl)) rfl ?_
    refine DL.gq rfl rfl rfl (Yld.fieldAddr fo48_0 rfl) rfl ?_
    refine DL.gq rfl rfl rfl (Yld.ld 103 Tryz.underlying3 rfl rfl rfl rfl) rfl ?_
    refine DL.gq rfl rfl rfl (Yld.bin rfl rfl BinV.eql) rfl ?_
    refine DL.gq rfl rfl rfl (Yld.move rfl) rfl ?_
    refine' DL.and (t := 29) (d := 38) 9 rfl (.of [0, 3, 5, 7, 8, 9, 10, 11, 12, 13, 14, 15, 16, 17, 18, 19, 20, 21, 22, 23, 24, 25, 26, 27, 28] rfl) (.of [0, 1, 103] rfl) ?_ ?_ ?_
    rotate_left 1
    ·
     intro hg29
     refine DL.gq rfl rfl rfl (Yld.move rfl) rfl ?_
     refine DL.gq rfl rfl rfl (Yld.move rfl) rfl ?_
     refine DL.gq rfl rfl rfl (Yld.ixr Tryz.underlying41 sz48 rfl rfl) rfl ?_
     refine DL.gq rfl rfl rfl (Yld.fieldAddr fo48_1 rfl) rfl ?_
     refine DL.gq rfl rfl rfl (by first | exact Yld.lrF 1 1 Tryz.underlying3 rfl rfl rfl rfl | exact Yld.lrF 103 1 Tryz.underlying3 rfl rfl rfl rfl) rfl ?_
     refine DL.gq rfl rfl rfl (Yld.fieldAddr fo48_1 rfl) rfl ?_
     refine DL.gq rfl rfl rfl (Yld.ld 103 Tryz.underlying3 rfl rfl rfl rfl) rfl ?_
     refine DL.gq rfl rfl rfl (Yld.bin rfl rfl BinV.lss) rfl ?_
     refine DL.gq rfl rfl rfl Yld.pk rfl ?_
     exact DL.meet (.to rfl) (.to rfl)
    ·
     intro hg29
     refine DL.gskip rfl rfl rfl rfl rfl ?_
     refine DL.gskip rfl rfl rfl rfl rfl ?_
     refine DL.gskip rfl rfl rfl rfl rfl ?_
     refine DL.gskip rfl rfl rfl rfl rfl ?_
     refine DL.gskip rfl rfl rfl rfl rfl ?_
     refine DL.gskip rfl rfl rfl rfl rfl ?_
     refine DL.gskip rfl rfl rfl rfl rfl ?_
     refine DL.gskip rfl rfl rfl rfl rfl ?_
     refine DL.gq rfl rfl rfl Yld.pk rfl ?_
     exact DL.meet (.to rfl) (.to rfl)
    refine DL.gq rfl rfl rfl Yld.pk rfl ?_
    exact DL.meet (.to rfl) (.to rfl)
   ·
    intro hg20
    refine DL.gskip rfl rfl rfl rfl rfl ?_
    refine DL.gskip rfl rfl rfl rfl rfl ?_
    refine DL.gskip rfl rfl rfl rfl rfl ?_
    refine DL.gskip rfl rfl rfl rfl rfl ?_
    refine DL.gskip rfl rfl rfl rfl rfl ?_
    refine DL.gskip rfl rfl rfl rfl rfl ?_
    refine DL.gskip rfl rfl rfl rfl rfl ?_
    refine DL.gskip rfl rfl rfl rfl rfl ?_
    refine DL.gskip rfl rfl rfl rfl rfl ?_
    refine DL.gskipU rfl rfl rfl rfl ?_
    refine DL.gskipU rfl rfl rfl rfl ?_
    refine DL.gskipU rfl rfl rfl rfl ?_
    refine DL.gskipU rfl rfl rfl rfl ?_
    refine DL.gskipU rfl rfl rfl rfl ?_
    refine DL.gskipU rfl rfl rfl rfl ?_
    refine DL.gskipU rfl rfl rfl rfl ?_
    refine DL.gskipU rfl rfl rfl rfl ?_
    refine DL.gskip rfl rfl rfl rfl rfl ?_
    refine DL.gq rfl rfl rfl Yld.pk rfl ?_
    exact DL.meet (.to rfl) (.to rfl)
   refine DL.q rfl Yld.pk rfl ?_
   exact DL.meet (.to rfl) (.to rfl)
  ·
   intro hg11
   refine DL.gskip rfl rfl rfl rfl rfl ?_
   refine DL.gskip rfl rfl rfl rfl rfl ?_
   refine DL.gskip rfl rfl rfl rfl rfl ?_
   refine DL.gskip rfl rfl rfl rfl rfl ?_
   refine DL.gskip rfl rfl rfl rfl rfl ?_
   refine DL.gskip rfl rfl rfl rfl rfl ?_
   refine DL.gskip rfl rfl rfl rfl rfl ?_
   refine DL.gskip rfl rfl rfl rfl rfl ?_
   refine DL.gskip rfl rfl rfl rfl rfl ?_
   refine DL.gskipU rfl rfl rfl rfl ?_
   refine DL.gskipU rfl rfl rfl rfl ?_
   refine DL.gskipU rfl rfl rfl rfl ?_
   refine DL.gskipU rfl rfl rfl rfl ?_
   refine DL.gskipU rfl rfl rfl rfl ?_
   refine DL.gskipU rfl rfl rfl rfl ?_
   refine DL.gskipU rfl rfl rfl rfl ?_
   refine DL.gskipU rfl rfl rfl rfl ?_
   refine DL.gskipU rfl rfl rfl rfl ?_
   refine DL.gskipU rfl rfl rfl rfl ?_
   refine DL.gskipU rfl rfl rfl rfl ?_
   refine DL.gskipU rfl rfl rfl rfl ?_
   refine DL.gskipU rfl rfl rfl rfl ?_
   refine DL.gskipU rfl rfl rfl rfl ?_
   refine DL.gskipU rfl rfl rfl rfl ?_
   refine DL.gskipU rfl rfl rfl rfl ?_
   refine DL.gskipU rfl rfl rfl rfl ?_
   refine DL.gskipU rfl rfl rfl rfl ?_
   refine DL.gskip rfl rfl rfl rfl rfl ?_
   refine DL.q rfl Yld.pk rfl ?_
   exact DL.meet (.to rfl) (.to rfl)
  refine DL.done ?_
  refine N.next ?_
  refine W.keep (.of [0, 3, 5, 40] rfl) (.of [0, 1, 103] rfl) ?_
  refine W.cond rfl (fun hc40 => ?_) (fun hc40 => ?_)
  ·
   rw [Bool.and_eq_true, decide_eq_true_eq] at hc40
   have hj3 : j < l.length := by have := hc40.1; omega
   obtain ⟨a, ha⟩ : ∃ a, l[j]? = some a := ⟨_, List.getElem?_eq_getElem hj3⟩
   have hla : lt u a = true := by have h := hc40.2; rw [ha] at h; exact h
   refine W.skip ?_
   refine N.next ?_
   refine W.block ?_
   refine W.region ?_
   refine RL.q (Yld.move rfl) rfl ?_
   refine RL.q (Yld.bin rfl rfl (by first | exact BinV.add (by omega) (by omega) | exact BinV.addW)) rfl ?_
   refine RL.q (Yld.assign rfl) rfl (RL.nil ?_)
   refine N.block_normal ?_
   exact N.famK (j + 1) ⟨⟨by omega, fun q b hq hb2 => (Nat.lt_succ_iff_lt_or_eq.1 hq).elim (fun h => hI q b h hb2) (fun e => by subst e; rw [ha] at hb2; cases hb2; exact hla)⟩, by omega⟩ (.as rfl (by first | rfl | (simp; done) | (congr 1; simp; done) | (congr 1; omega)) .nil) (.to rfl) .nil (.to rfl)
  ·
   have hno : ∀ a, l[j]? = some a → lt u a = false := fun a ha => by
     have hj3 := (List.getElem?_eq_some_iff.1 ha).1
     rw [decide_eq_true (show (j : Int) < l.length by omega), Bool.true_and, ha] at hc40
     exact hc40
   have hpa := put_at hj hI hno
   refine W.exit ?_
   refine N.then_exit ?_
   refine N.then_exit ?_
   refine N.block_eq ?_
   refine N.next ?_
   refine W.seq ?_
   refine W.draw (.q 1 (.q 2 (.q 3 (.q 5 (.two 0 (.two 4 (.one 6 (.one 7 (.q 8 .done))) 6 (.one 4 (.one 7 (.q 8 .done)))) 6 (.one 0 (.one 4 (.one 7 (.q 8 .done))))))))) (.of [0, 1, 103] rfl) mix (by kernel_rfl) (by kernel_rfl) ?_
   refine DL.q rfl (Yld.move rfl) rfl ?_
   refine DL.q rfl (Yld.move rfl) rfl ?_
   refine DL.q rfl (Yld.sliceH Tryz.underlying41 sz48 rfl rfl (by omega) (by first | omega | (simp; done) | (simp; omega))) rfl ?_
   refine DL.q rfl (Yld.ldW 103 Tryz.underlying48 sz48 rfl rfl rfl rfl) rfl ?_
   refine DL.two ?_ ?_
   ·
    refine DL.one rfl (Eff.buildSlice 143 Tryz.underlying41 sz48 zc48 rfl rfl .nil rfl) rfl (by rintro _ _ ⟨b43, rfl, rfl⟩; repeat (first | exact .nil | refine .cons rfl ?_)) ?_
    rintro _ _ ⟨b43, rfl, rfl⟩
    refine DL.two ?_ ?_
    ·
     refine DL.one rfl (Eff.appendE (tc := 143) (sc := 1) (ms := l.take j) (ls := ([] : List U)) U.c Tryz.underlying41 el48 rfl rfl rfl rfl (Own.none0 rfl : Own _ _ 0 48 5 (([] : List U).map U.c)) rfl (by rw [List.map_take]; exact hS.take j) (by simp; omega) (fun a _ => U.one a) (by decide) (by simp; omega) (by simp [maxLen]; omega)) rfl (by rintro _ _ ⟨H1, p1, c1, rfl, hO1, rfl⟩; repeat (first | exact .nil | refine .cons rfl ?_)) ?_
     rintro _ _ ⟨H1, p1, c1, rfl, hO1, rfl⟩
     refine DL.one rfl (Eff.buildSlice 149 Tryz.underlying41 sz48 zc48 rfl rfl (.cons rfl rfl .nil) rfl) rfl (by rintro _ _ ⟨b49, rfl, rfl⟩; repeat (first | exact .nil | refine .cons rfl ?_)) ?_
     rintro _ _ ⟨b49, rfl, rfl⟩
     refine DL.one rfl (Eff.appendE (tc := 143) (sc := 149) (ms := [u]) U.c Tryz.underlying41 el48 rfl rfl rfl rfl hO1 rfl (Own.one (l := u.c) rfl (U.one u) rfl).sl rfl (fun a _ => U.one a) (by decide) (by simp; omega) (by simp [maxLen]; omega)) rfl (by rintro _ _ ⟨H2, p2, c2, rfl, hO2, rfl⟩; repeat (first | exact .nil | refine .cons rfl ?_)) ?_
     rintro _ _ ⟨H2, p2, c2, rfl, hO2, rfl⟩
     refine DL.q rfl (Yld.assign rfl) rfl ?_
     refine DL.done ?_
     refine N.next ?_
     refine W.keep (.of [0, 3, 5, 6] rfl) (.of [0, 1, 103, 143, 149] rfl) ?_
     refine W.seq ?_
     refine W.seq ?_
     refine W.draw (.q 0 (.q 1 (.q 2 (.q 3 (.q 4 (.q 5 (.q 6 (.q 7 (.q 8 (.q 9 (.q 10 (.q 11 (.q 12 (.q 13 (.q 14 (.q 15 (.q 16 (.q 17 (.q 18 (.q 19 (.q 20 (.q 21 (.q 22 (.q 23 .done)))))))))))))))))))))))) (.of [0, 1, 103, 143, 149] rfl) mix (by kernel_rfl) (by kernel_rfl) ?_
     refine DL.q rfl (Yld.move rfl) rfl ?_
     refine DL.q rfl (Yld.move rfl) rfl ?_
     refine DL.q rfl (Yld.lenSl Tryz.underlying41 rfl) rfl ?_
     refine DL.q rfl (Yld.bin rfl rfl BinV.lss) rfl ?_
     refine DL.q rfl (Yld.move rfl) rfl ?_
     refine' DL.and (t := 55) (d := 64) 9 rfl (.of [0, 3, 5, 6, 51, 52, 53, 54] rfl) (.of [0, 1, 103, 143, 149] rfl) ?_ ?_ ?_
     rotate_left 1
     ·
      intro hg55
      have hj2 : j < l.length := by have := of_decide_eq_true hg55; omega
      have hlw : (l.map U.c)[j]? = some (U.c (l[j]?.getD (⟨0, 0, 0, 0, 0⟩ : U))) := by rw [List.getElem?_map, List.getElem?_eq_getElem hj2]; rfl
      refine DL.gq rfl rfl rfl (Yld.move rfl) rfl ?_
      refine DL.gq rfl rfl rfl (Yld.move rfl) rfl ?_
      refine DL.gq rfl rfl rfl (Yld.ixr Tryz.underlying41 sz48 rfl rfl) rfl ?_
      refine DL.gq rfl rfl rfl (Yld.fieldAddr fo48_0 rfl) rfl ?_
      refine DL.gq rfl rfl rfl (by first | exact (by first | exact Yld.loadRow1 (cl := 143) Tryz.underlying3 rfl rfl rfl (by first | assumption | exact Own.sl (by assumption)) (by assumption) | exact Yld.loadRow1 (cl := 149) Tryz.underlying3 rfl rfl rfl (by first | assumption | exact Own.sl (by assumption)) (by assumption) | exact Yld.loadRow1 (cl := 1) Tryz.underlying3 rfl rfl rfl (by first | assumption | exact Own.sl (by assumption)) (by assumption) | exact Yld.loadRow1 (cl := 103) Tryz.underlying3 rfl rfl rfl (by first | assumption | exact Own.sl (by assumption)) (by assumption)) | exact (by first | exact Yld.lrF 143 0 Tryz.underlying3 rfl rfl rfl rfl | exact Yld.lrF 149 0 Tryz.underlying3 rfl rfl rfl rfl | exact Yld.lrF 1 0 Tryz.underlying3 rfl rfl rfl rfl | exact Yld.lrF 103 0 Tryz.underlying3 rfl rfl rfl rfl)) rfl ?_
      refine DL.gq rfl rfl rfl (Yld.fieldAddr fo48_0 rfl) rfl ?_
      refine DL.gq rfl rfl rfl (Yld.ld 103 Tryz.underlying3 rfl rfl rfl rfl) rfl ?_
      refine DL.gq rfl rfl rfl (Yld.bin rfl rfl BinV.eql) rfl ?_
      refine DL.q rfl Yld.pk rfl ?_
      exact DL.meet (.to rfl) (.to rfl)
     ·
      intro hg55
      refine DL.gskip rfl rfl rfl rfl rfl ?_
      refine DL.gskip rfl rfl rfl rfl rfl ?_
      refine DL.gskip rfl rfl rfl rfl rfl ?_
      refine DL.gskip rfl rfl rfl rfl rfl ?_
      refine DL.gskip rfl rfl rfl rfl rfl ?_
      refine DL.gskip rfl rfl rfl rfl rfl ?_
      refine DL.gskip rfl rfl rfl rfl rfl ?_
      refine DL.gskip rfl rfl rfl rfl rfl ?_
      refine DL.q rfl Yld.pk rfl ?_
      exact DL.meet (.to rfl) (.to rfl)
     refine DL.q rfl (Yld.move rfl) rfl ?_
     refine' DL.and (t := 65) (d := 74) 9 rfl (.of [0, 3, 5, 6, 51, 52, 53, 54, 64] rfl) (.of [0, 1, 103, 143, 149] rfl) ?_ ?_ ?_
     rotate_left 1
     ·
      intro hg65
      have hg65b := (Bool.and_eq_true _ _ ▸ hg65 : _ ∧ _).1
      have hj2 : j < l.length := by have := of_decide_eq_true hg65b; omega
      have hlw : (l.map U.c)[j]? = some (U.c (l[j]?.getD (⟨0, 0, 0, 0, 0⟩ : U))) := by rw [List.getElem?_map, List.getElem?_eq_getElem hj2]; rfl
      refine DL.gq rfl rfl rfl (Yld.move rfl) rfl ?_
      refine DL.gq rfl rfl rfl (Yld.move rfl) rfl ?_
      refine DL.gq rfl rfl rfl (Yld.ixr Tryz.underlying41 sz48 rfl rfl) rfl ?_
      refine DL.gq rfl rfl rfl (Yld.fieldAddr fo48_1 rfl) rfl ?_
      refine DL.gq rfl rfl rfl (by first | exact Yld.lrF 143 1 Tryz.underlying3 rfl rfl rfl rfl | exact Yld.lrF 149 1 Tryz.underlying3 rfl rfl rfl rfl | exact Yld.lrF 1 1 Tryz.underlying3 rfl rfl rfl rfl | exact Yld.lrF 103 1 Tryz.underlying3 rfl rfl rfl rfl) rfl ?_
      refine DL.gq rfl rfl rfl (Yld.fieldAddr fo48_1 rfl) rfl ?_
      refine DL.gq rfl rfl rfl (Yld.ld 103 Tryz.underlying3 rfl rfl rfl rfl) rfl ?_
      refine DL.gq rfl rfl rfl (Yld.bin rfl rfl BinV.eql) rfl ?_
      refine DL.q rfl Yld.pk rfl ?_
      exact DL.meet (.to rfl) (.to rfl)
     ·
      intro hg65
      refine DL.gskip rfl rfl rfl rfl rfl ?_
      refine DL.gskip rfl rfl rfl rfl rfl ?_
      refine DL.gskip rfl rfl rfl rfl rfl ?_
      refine DL.gskip rfl rfl rfl rfl rfl ?_
      refine DL.gskip rfl rfl rfl rfl rfl ?_
      refine DL.gskip rfl rfl rfl rfl rfl ?_
      refine DL.gskip rfl rfl rfl rfl rfl ?_
      refine DL.gskip rfl rfl rfl rfl rfl ?_
      refine DL.q rfl Yld.pk rfl ?_
      exact DL.meet (.to rfl) (.to rfl)
     refine DL.done ?_
     refine N.next ?_
     refine W.keep (.of [0, 5, 6, 74] rfl) (.of [0, 1, 103, 143, 149] rfl) ?_
     refine W.cond rfl (fun hc74 => ?_) (fun hc74 => ?_)
     ·
      obtain ⟨jj, hjj⟩ : ∃ jj, jj = j + 1 := ⟨_, rfl⟩
      have hpu : putR l u = l.take j ++ [u] ++ l.drop jj := hjj ▸ hpa.1 (by
        simp only [Bool.and_eq_true, decide_eq_true_eq] at hc74
        have hj3 : j < l.length := by omega
        rw [List.getElem?_eq_getElem hj3] at hc74
        exact ⟨_, List.getElem?_eq_getElem hj3, hc74.1.2, hc74.2⟩)
      have hj4 : j < l.length := by
        simp only [Bool.and_eq_true, decide_eq_true_eq] at hc74
        omega
      refine W.region ?_
      refine RL.q (Yld.move rfl) rfl ?_
      refine RL.q (Yld.bin rfl rfl (by first | exact BinV.add (by omega) (by omega) | exact BinV.addW)) rfl ?_
      refine RL.q (Yld.assign rfl) rfl (RL.nil (N.next ?_))
      refine W.seq (W.region ?_)
      refine RL.q (Yld.move rfl) rfl (RL.q (Yld.move rfl) rfl (RL.q (Yld.move rfl) rfl ?_))
      refine RL.q (Yld.sliceL Tryz.underlying41 sz48 rfl rfl (by omega) (by first | omega | (simp; done) | (simp; omega))) rfl ?_
      refine RL.e (Eff.appendE (tc := 143) (sc := 1) (ms := (l.drop jj)) U.c Tryz.underlying41 el48 rfl rfl rfl rfl hO2 rfl (by rw [List.map_drop, hjj]; first | exact hS.drop (k := j + 1) (by simp; omega) | exact hS.drop (k := j) (by simp; omega)) (by simp; omega) (fun a _ => U.one a) (by decide) (by simp; omega) (by simp [maxLen]; omega)) rfl ?_
      rintro _ _ ⟨H3, p3, c3, rfl, hO3, rfl⟩
      refine RL.q (Yld.assign rfl) rfl (RL.nil (N.next ?_))
      refine W.keep (.of [4] rfl) (.of [0, 1, 103, 143, 149] rfl) ?_
      refine W.ret ?_
      exact N.retBy [143] (.cons (.tmp rfl) .nil) rfl rfl rfl rfl ⟨H3, p3, c3, by rw [hpu]; rfl, by rw [hpu]; exact hO3, rfl⟩
     ·
      obtain ⟨jj, hjj⟩ : ∃ jj, jj = j := ⟨_, rfl⟩
      have hpu : putR l u = l.take j ++ [u] ++ l.drop jj := hjj ▸ hpa.2 (fun a ha h3 => by
        have hj3 := (List.getElem?_eq_some_iff.1 ha).1
        rw [decide_eq_true (show (j : Int) < l.length by omega), ha] at hc74
        simp [h3] at hc74)
      refine W.skip ?_
      refine N.next ?_
      refine W.seq (W.region ?_)
      refine RL.q (Yld.move rfl) rfl (RL.q (Yld.move rfl) rfl (RL.q (Yld.move rfl) rfl ?_))
      refine RL.q (Yld.sliceL Tryz.underlying41 sz48 rfl rfl (by omega) (by first | omega | (simp; done) | (simp; omega))) rfl ?_
      refine RL.e (Eff.appendE (tc := 143) (sc := 1) (ms := (l.drop jj)) U.c Tryz.underlying41 el48 rfl rfl rfl rfl hO2 rfl (by rw [List.map_drop, hjj]; first | exact hS.drop (k := j + 1) (by simp; omega) | exact hS.drop (k := j) (by simp; omega)) (by simp; omega) (fun a _ => U.one a) (by decide) (by simp; omega) (by simp [maxLen]; omega)) rfl ?_
      rintro _ _ ⟨H3, p3, c3, rfl, hO3, rfl⟩
      refine RL.q (Yld.assign rfl) rfl (RL.nil (N.next ?_))
      refine W.keep (.of [4] rfl) (.of [0, 1, 103, 143, 149] rfl) ?_
      refine W.ret ?_
      exact N.retBy [143] (.cons (.tmp rfl) .nil) rfl rfl rfl rfl ⟨H3, p3, c3, by rw [hpu]; rfl, by rw [hpu]; exact hO3, rfl⟩
    ·
     refine DL.one rfl (Eff.buildSlice 149 Tryz.underlying41 sz48 zc48 rfl rfl (.cons rfl rfl .nil) rfl) rfl (by rintro _ _ ⟨b49, rfl, rfl⟩; repeat (first | exact .nil | refine .cons rfl ?_)) ?_
     rintro _ _ ⟨b49, rfl, rfl⟩
     refine DL.one rfl (Eff.appendE (tc := 143) (sc := 1) (ms := l.take j) (ls := ([] : List U)) U.c Tryz.underlying41 el48 rfl rfl rfl rfl (Own.none0 rfl : Own _ _ 0 48 5 (([] : List U).map U.c)) rfl (by rw [List.map_take]; exact hS.take j) (by simp; omega) (fun a _ => U.one a) (by decide) (by simp; omega) (by simp [maxLen]; omega)) rfl (by rintro _ _ ⟨H1, p1, c1, rfl, hO1, rfl⟩; repeat (first | exact .nil | refine .cons rfl ?_)) ?_
     rintro _ _ ⟨H1, p1, c1, rfl, hO1, rfl⟩
     refine DL.one rfl (Eff.appendE (tc := 143) (sc := 149) (ms := [u]) U.c Tryz.underlying41 el48 rfl rfl rfl rfl hO1 rfl (Own.one (l := u.c) rfl (U.one u) rfl).sl rfl (fun a _ => U.one a) (by decide) (by simp; omega) (by simp [maxLen]; omega)) rfl (by rintro _ _ ⟨H2, p2, c2, rfl, hO2, rfl⟩; repeat (first | exact .nil | refine .cons rfl ?_)) ?_
     rintro _ _ ⟨H2, p2, c2, rfl, hO2, rfl⟩
     refine DL.q rfl (Yld.assign rfl) rfl ?_
     refine DL.done ?_
     refine N.next ?_
     refine W.keep (.of [0, 3, 5, 6] rfl) (.of [0, 1, 103, 143, 149] rfl) ?_
     refine W.seq ?_
     refine W.seq ?_
     refine W.draw (.q 0 (.q 1 (.q 2 (.q 3 (.q 4 (.q 5 (.q 6 (.q 7 (.q 8 (.q 9 (.q 10 (.q 11 (.q 12 (.q 13 (.q 14 (.q 15 (.q 16 (.q 17 (.q 18 (.q 19 (.q 20 (.q 21 (.q 22 (.q 23 .done)))))))))))))))))))))))) (.of [0, 1, 103, 143, 149] rfl) mix (by kernel_rfl) (by kernel_rfl) ?_
     refine DL.q rfl (Yld.move rfl) rfl ?_
     refine DL.q rfl (Yld.move rfl) rfl ?_
     refine DL.q rfl (Yld.lenSl Tryz.underlying41 rfl) rfl ?_
     refine DL.q rfl (Yld.bin rfl rfl BinV.lss) rfl ?_
     refine DL.q rfl (Yld.move rfl) rfl ?_
     refine' DL.and (t := 55) (d := 64) 9 rfl (.of [0, 3, 5, 6, 51, 52, 53, 54] rfl) (.of [0, 1, 103, 143, 149] rfl) ?_ ?_ ?_
     rotate_left 1
     ·
      intro hg55
      have hj2 : j < l.length := by have := of_decide_eq_true hg55; omega
      have hlw : (l.map U.c)[j]? = some (U.c (l[j]?.getD (⟨0, 0, 0, 0, 0⟩ : U))) := by rw [List.getElem?_map, List.getElem?_eq_getElem hj2]; rfl
      refine DL.gq rfl rfl rfl (Yld.move rfl) rfl ?_
      refine DL.gq rfl rfl rfl (Yld.move rfl) rfl ?_
      refine DL.gq rfl rfl rfl (Yld.ixr Tryz.underlying41 sz48 rfl rfl) rfl ?_
      refine DL.gq rfl rfl rfl (Yld.fieldAddr fo48_0 rfl) rfl ?_
      refine DL.gq rfl rfl rfl (by first | exact (by first | exact Yld.loadRow1 (cl := 143) Tryz.underlying3 rfl rfl rfl (by first | assumption | exact Own.sl (by assumption)) (by assumption) | exact Yld.loadRow1 (cl := 149) Tryz.underlying3 rfl rfl rfl (by first | assumption | exact Own.sl (by assumption)) (by assumption) | exact Yld.loadRow1 (cl := 1) Tryz.underlying3 rfl rfl rfl (by first | assumption | exact Own.sl (by assumption)) (by assumption) | exact Yld.loadRow1 (cl := 103) Tryz.underlying3 rfl rfl rfl (by first | assumption | exact Own.sl (by assumption)) (by assumption)) | exact (by first | exact Yld.lrF 143 0 Tryz.underlying3 rfl rfl rfl rfl | exact Yld.lrF 149 0 Tryz.underlying3 rfl rfl rfl rfl | exact Yld.lrF 1 0 Tryz.underlying3 rfl rfl rfl rfl | exact Yld.lrF 103 0 Tryz.underlying3 rfl rfl rfl rfl)) rfl ?_
      refine DL.gq rfl rfl rfl (Yld.fieldAddr fo48_0 rfl) rfl ?_
      refine DL.gq rfl rfl rfl (Yld.ld 103 Tryz.underlying3 rfl rfl rfl rfl) rfl ?_
      refine DL.gq rfl rfl rfl (Yld.bin rfl rfl BinV.eql) rfl ?_
      refine DL.q rfl Yld.pk rfl ?_
      exact DL.meet (.to rfl) (.to rfl)
     ·
      intro hg55
      refine DL.gskip rfl rfl rfl rfl rfl ?_
      refine DL.gskip rfl rfl rfl rfl rfl ?_
      refine DL.gskip rfl rfl rfl rfl rfl ?_
      refine DL.gskip rfl rfl rfl rfl rfl ?_
      refine DL.gskip rfl rfl rfl rfl rfl ?_
      refine DL.gskip rfl rfl rfl rfl rfl ?_
      refine DL.gskip rfl rfl rfl rfl rfl ?_
      refine DL.gskip rfl rfl rfl rfl rfl ?_
      refine DL.q rfl Yld.pk rfl ?_
      exact DL.meet (.to rfl) (.to rfl)
     refine DL.q rfl (Yld.move rfl) rfl ?_
     refine' DL.and (t := 65) (d := 74) 9 rfl (.of [0, 3, 5, 6, 51, 52, 53, 54, 64] rfl) (.of [0, 1, 103, 143, 149] rfl) ?_ ?_ ?_
     rotate_left 1
     ·
      intro hg65
      have hg65b := (Bool.and_eq_true _ _ ▸ hg65 : _ ∧ _).1
      have hj2 : j < l.length := by have := of_decide_eq_true hg65b; omega
      have hlw : (l.map U.c)[j]? = some (U.c (l[j]?.getD (⟨0, 0, 0, 0, 0⟩ : U))) := by rw [List.getElem?_map, List.getElem?_eq_getElem hj2]; rfl
      refine DL.gq rfl rfl rfl (Yld.move rfl) rfl ?_
      refine DL.gq rfl rfl rfl (Yld.move rfl) rfl ?_
      refine DL.gq rfl rfl rfl (Yld.ixr Tryz.underlying41 sz48 rfl rfl) rfl ?_
      refine DL.gq rfl rfl rfl (Yld.fieldAddr fo48_1 rfl) rfl ?_
      refine DL.gq rfl rfl rfl (by first | exact Yld.lrF 143 1 Tryz.underlying3 rfl rfl rfl rfl | exact Yld.lrF 149 1 Tryz.underlying3 rfl rfl rfl rfl | exact Yld.lrF 1 1 Tryz.underlying3 rfl rfl rfl rfl | exact Yld.lrF 103 1 Tryz.underlying3 rfl rfl rfl rfl) rfl ?_
      refine DL.gq rfl rfl rfl (Yld.fieldAddr fo48_1 rfl) rfl ?_
      refine DL.gq rfl rfl rfl (Yld.ld 103 Tryz.underlying3 rfl rfl rfl rfl) rfl ?_
      refine DL.gq rfl rfl rfl (Yld.bin rfl rfl BinV.eql) rfl ?_
      refine DL.q rfl Yld.pk rfl ?_
      exact DL.meet (.to rfl) (.to rfl)
     ·
      intro hg65
      refine DL.gskip rfl rfl rfl rfl rfl ?_
      refine DL.gskip rfl rfl rfl rfl rfl ?_
      refine DL.gskip rfl rfl rfl rfl rfl ?_
      refine DL.gskip rfl rfl rfl rfl rfl ?_
      refine DL.gskip rfl rfl rfl rfl rfl ?_
      refine DL.gskip rfl rfl rfl rfl rfl ?_
      refine DL.gskip rfl rfl rfl rfl rfl ?_
      refine DL.gskip rfl rfl rfl rfl rfl ?_
      refine DL.q rfl Yld.pk rfl ?_
      exact DL.meet (.to rfl) (.to rfl)
     refine DL.done ?_
     refine N.next ?_
     refine W.keep (.of [0, 5, 6, 74] rfl) (.of [0, 1, 103, 143, 149] rfl) ?_
     refine W.cond rfl (fun hc74 => ?_) (fun hc74 => ?_)
     ·
      obtain ⟨jj, hjj⟩ : ∃ jj, jj = j + 1 := ⟨_, rfl⟩
      have hpu : putR l u = l.take j ++ [u] ++ l.drop jj := hjj ▸ hpa.1 (by
        simp only [Bool.and_eq_true, decide_eq_true_eq] at hc74
        have hj3 : j < l.length := by omega
        rw [List.getElem?_eq_getElem hj3] at hc74
        exact ⟨_, List.getElem?_eq_getElem hj3, hc74.1.2, hc74.2⟩)
      have hj4 : j < l.length := by
        simp only [Bool.and_eq_true, decide_eq_true_eq] at hc74
        omega
      refine W.region ?_
      refine RL.q (Yld.move rfl) rfl ?_
      refine RL.q (Yld.bin rfl rfl (by first | exact BinV.add (by omega) (by omega) | exact BinV.addW)) rfl ?_
      refine RL.q (Yld.assign rfl) rfl (RL.nil (N.next ?_))
      refine W.seq (W.region ?_)
      refine RL.q (Yld.move rfl) rfl (RL.q (Yld.move rfl) rfl (RL.q (Yld.move rfl) rfl ?_))
      refine RL.q (Yld.sliceL Tryz.underlying41 sz48 rfl rfl (by omega) (by first | omega | (simp; done) | (simp; omega))) rfl ?_
      refine RL.e (Eff.appendE (tc := 143) (sc := 1) (ms := (l.drop jj)) U.c Tryz.underlying41 el48 rfl rfl rfl rfl hO2 rfl (by rw [List.map_drop, hjj]; first | exact hS.drop (k := j + 1) (by simp; omega) | exact hS.drop (k := j) (by simp; omega)) (by simp; omega) (fun a _ => U.one a) (by decide) (by simp; omega) (by simp [maxLen]; omega)) rfl ?_
      rintro _ _ ⟨H3, p3, c3, rfl, hO3, rfl⟩
      refine RL.q (Yld.assign rfl) rfl (RL.nil (N.next ?_))
      refine W.keep (.of [4] rfl) (.of [0, 1, 103, 143, 149] rfl) ?_
      refine W.ret ?_
      exact N.retBy [143] (.cons (.tmp rfl) .nil) rfl rfl rfl rfl ⟨H3, p3, c3, by rw [hpu]; rfl, by rw [hpu]; exact hO3, rfl⟩
     ·
      obtain ⟨jj, hjj⟩ : ∃ jj, jj = j := ⟨_, rfl⟩
      have hpu : putR l u = l.take j ++ [u] ++ l.drop jj := hjj ▸ hpa.2 (fun a ha h3 => by
        have hj3 := (List.getElem?_eq_some_iff.1 ha).1
        rw [decide_eq_true (show (j : Int) < l.length by omega), ha] at hc74
        simp [h3] at hc74)
      refine W.skip ?_
      refine N.next ?_
      refine W.seq (W.region ?_)
      refine RL.q (Yld.move rfl) rfl (RL.q (Yld.move rfl) rfl (RL.q (Yld.move rfl) rfl ?_))
      refine RL.q (Yld.sliceL Tryz.underlying41 sz48 rfl rfl (by omega) (by first | omega | (simp; done) | (simp; omega))) rfl ?_
      refine RL.e (Eff.appendE (tc := 143) (sc := 1) (ms := (l.drop jj)) U.c Tryz.underlying41 el48 rfl rfl rfl rfl hO2 rfl (by rw [List.map_drop, hjj]; first | exact hS.drop (k := j + 1) (by simp; omega) | exact hS.drop (k := j) (by simp; omega)) (by simp; omega) (fun a _ => U.one a) (by decide) (by simp; omega) (by simp [maxLen]; omega)) rfl ?_
      rintro _ _ ⟨H3, p3, c3, rfl, hO3, rfl⟩
      refine RL.q (Yld.assign rfl) rfl (RL.nil (N.next ?_))
      refine W.keep (.of [4] rfl) (.of [0, 1, 103, 143, 149] rfl) ?_
      refine W.ret ?_
      exact N.retBy [143] (.cons (.tmp rfl) .nil) rfl rfl rfl rfl ⟨H3, p3, c3, by rw [hpu]; rfl, by rw [hpu]; exact hO3, rfl⟩
   ·
    refine DL.one rfl (Eff.buildSlice 149 Tryz.underlying41 sz48 zc48 rfl rfl (.cons rfl rfl .nil) rfl) rfl (by rintro _ _ ⟨b49, rfl, rfl⟩; repeat (first | exact .nil | refine .cons rfl ?_)) ?_
    rintro _ _ ⟨b49, rfl, rfl⟩
    refine DL.one rfl (Eff.buildSlice 143 Tryz.underlying41 sz48 zc48 rfl rfl .nil rfl) rfl (by rintro _ _ ⟨b43, rfl, rfl⟩; repeat (first | exact .nil | refine .cons rfl ?_)) ?_
    rintro _ _ ⟨b43, rfl, rfl⟩
    refine DL.one rfl (Eff.appendE (tc := 143) (sc := 1) (ms := l.take j) (ls := ([] : List U)) U.c Tryz.underlying41 el48 rfl rfl rfl rfl (Own.none0 rfl : Own _ _ 0 48 5 (([] : List U).map U.c)) rfl (by rw [List.map_take]; exact hS.take j) (by simp; omega) (fun a _ => U.one a) (by decide) (by simp; omega) (by simp [maxLen]; omega)) rfl (by rintro _ _ ⟨H1, p1, c1, rfl, hO1, rfl⟩; repeat (first | exact .nil | refine .cons rfl ?_)) ?_
    rintro _ _ ⟨H1, p1, c1, rfl, hO1, rfl⟩
    refine DL.one rfl (Eff.appendE (tc := 143) (sc := 149) (ms := [u]) U.c Tryz.underlying41 el48 rfl rfl rfl rfl hO1 rfl (Own.one (l := u.c) rfl (U.one u) rfl).sl rfl (fun a _ => U.one a) (by decide) (by simp; omega) (by simp [maxLen]; omega)) rfl (by rintro _ _ ⟨H2, p2, c2, rfl, hO2, rfl⟩; repeat (first | exact .nil | refine .cons rfl ?_)) ?_
    rintro _ _ ⟨H2, p2, c2, rfl, hO2, rfl⟩
    refine DL.q rfl (Yld.assign rfl) rfl ?_
    refine DL.done ?_
    refine N.next ?_
    refine W.keep (.of [0, 3, 5, 6] rfl) (.of [0, 1, 103, 143, 149] rfl) ?_
    refine W.seq ?_
    refine W.seq ?_
    refine W.draw (.q 0 (.q 1 (.q 2 (.q 3 (.q 4 (.q 5 (.q 6 (.q 7 (.q 8 (.q 9 (.q 10 (.q 11 (.q 12 (.q 13 (.q 14 (.q 15 (.q 16 (.q 17 (.q 18 (.q 19 (.q 20 (.q 21 (.q 22 (.q 23 .done)))))))))))))))))))))))) (.of [0, 1, 103, 143, 149] rfl) mix (by kernel_rfl) (by kernel_rfl) ?_
    refine DL.q rfl (Yld.move rfl) rfl ?_
    refine DL.q rfl (Yld.move rfl) rfl ?_
    refine DL.q rfl (Yld.lenSl Tryz.underlying41 rfl) rfl ?_
    refine DL.q rfl (Yld.bin rfl rfl BinV.lss) rfl ?_
    refine DL.q rfl (Yld.move rfl) rfl ?_
    refine' DL.and (t := 55) (d := 64) 9 rfl (.of [0, 3, 5, 6, 51, 52, 53, 54] rfl) (.of [0, 1, 103, 143, 149] rfl) ?_ ?_ ?_
    rotate_left 1
    ·
     intro hg55
     have hj2 : j < l.length := by have := of_decide_eq_true hg55; omega
     have hlw : (l.map U.c)[j]? = some (U.c (l[j]?.getD (⟨0, 0, 0, 0, 0⟩ : U))) := by rw [List.getElem?_map, List.getElem?_eq_getElem hj2]; rfl
     refine DL.gq rfl rfl rfl (Yld.move rfl) rfl ?_
     refine DL.gq rfl rfl rfl (Yld.move rfl) rfl ?_
     refine DL.gq rfl rfl rfl (Yld.ixr Tryz.underlying41 sz48 rfl rfl) rfl ?_
     refine DL.gq rfl rfl rfl (Yld.fieldAddr fo48_0 rfl) rfl ?_
     refine DL.gq rfl rfl rfl (by first | exact (by first | exact Yld.loadRow1 (cl := 143) Tryz.underlying3 rfl rfl rfl (by first | assumption | exact Own.sl (by assumption)) (by assumption) | exact Yld.loadRow1 (cl := 149) Tryz.underlying3 rfl rfl rfl (by first | assumption | exact Own.sl (by assumption)) (by assumption) | exact Yld.loadRow1 (cl := 1) Tryz.underlying3 rfl rfl rfl (by first | assumption | exact Own.sl (by assumption)) (by assumption) | exact Yld.loadRow1 (cl := 103) Tryz.underlying3 rfl rfl rfl (by first | assumption | exact Own.sl (by assumption)) (by assumption)) | exact (by first | exact Yld.lrF 143 0 Tryz.underlying3 rfl rfl rfl rfl | exact Yld.lrF 149 0 Tryz.underlying3 rfl rfl rfl rfl | exact Yld.lrF 1 0 Tryz.underlying3 rfl rfl rfl rfl | exact Yld.lrF 103 0 Tryz.underlying3 rfl rfl rfl rfl)) rfl ?_
     refine DL.gq rfl rfl rfl (Yld.fieldAddr fo48_0 rfl) rfl ?_
     refine DL.gq rfl rfl rfl (Yld.ld 103 Tryz.underlying3 rfl rfl rfl rfl) rfl ?_
     refine DL.gq rfl rfl rfl (Yld.bin rfl rfl BinV.eql) rfl ?_
     refine DL.q rfl Yld.pk rfl ?_
     exact DL.meet (.to rfl) (.to rfl)
    ·
     intro hg55
     refine DL.gskip rfl rfl rfl rfl rfl ?_
     refine DL.gskip rfl rfl rfl rfl rfl ?_
     refine DL.gskip rfl rfl rfl rfl rfl ?_
     refine DL.gskip rfl rfl rfl rfl rfl ?_
     refine DL.gskip rfl rfl rfl rfl rfl ?_
     refine DL.gskip rfl rfl rfl rfl rfl ?_
     refine DL.gskip rfl rfl rfl rfl rfl ?_
     refine DL.gskip rfl rfl rfl rfl rfl ?_
     refine DL.q rfl Yld.pk rfl ?_
     exact DL.meet (.to rfl) (.to rfl)
    refine DL.q rfl (Yld.move rfl) rfl ?_
    refine' DL.and (t := 65) (d := 74) 9 rfl (.of [0, 3, 5, 6, 51, 52, 53, 54, 64] rfl) (.of [0, 1, 103, 143, 149] rfl) ?_ ?_ ?_
    rotate_left 1
    ·
     intro hg65
     have hg65b := (Bool.and_eq_true _ _ ▸ hg65 : _ ∧ _).1
     have hj2 : j < l.length := by have := of_decide_eq_true hg65b; omega
     have hlw : (l.map U.c)[j]? = some (U.c (l[j]?.getD (⟨0, 0, 0, 0, 0⟩ : U))) := by rw [List.getElem?_map, List.getElem?_eq_getElem hj2]; rfl
     refine DL.gq rfl rfl rfl (Yld.move rfl) rfl ?_
     refine DL.gq rfl rfl rfl (Yld.move rfl) rfl ?_
     refine DL.gq rfl rfl rfl (Yld.ixr Tryz.underlying41 sz48 rfl rfl) rfl ?_
     refine DL.gq rfl rfl rfl (Yld.fieldAddr fo48_1 rfl) rfl ?_
     refine DL.gq rfl rfl rfl (by first | exact Yld.lrF 143 1 Tryz.underlying3 rfl rfl rfl rfl | exact Yld.lrF 149 1 Tryz.underlying3 rfl rfl rfl rfl | exact Yld.lrF 1 1 Tryz.underlying3 rfl rfl rfl rfl | exact Yld.lrF 103 1 Tryz.underlying3 rfl rfl rfl rfl) rfl ?_
     refine DL.gq rfl rfl rfl (Yld.fieldAddr fo48_1 rfl) rfl ?_
     refine DL.gq rfl rfl rfl (Yld.ld 103 Tryz.underlying3 rfl rfl rfl rfl) rfl ?_
     refine DL.gq rfl rfl rfl (Yld.bin rfl rfl BinV.eql) rfl ?_
     refine DL.q rfl Yld.pk rfl ?_
     exact DL.meet (.to rfl) (.to rfl)
    ·
     intro hg65
     refine DL.gskip rfl rfl rfl rfl rfl ?_
     refine DL.gskip rfl rfl rfl rfl rfl ?_
     refine DL.gskip rfl rfl rfl rfl rfl ?_
     refine DL.gskip rfl rfl rfl rfl rfl ?_
     refine DL.gskip rfl rfl rfl rfl rfl ?_
     refine DL.gskip rfl rfl rfl rfl rfl ?_
     refine DL.gskip rfl rfl rfl rfl rfl ?_
     refine DL.gskip rfl rfl rfl rfl rfl ?_
     refine DL.q rfl Yld.pk rfl ?_
     exact DL.meet (.to rfl) (.to rfl)
    refine DL.done ?_
    refine N.next ?_
    refine W.keep (.of [0, 5, 6, 74] rfl) (.of [0, 1, 103, 143, 149] rfl) ?_
    refine W.cond rfl (fun hc74 => ?_) (fun hc74 => ?_)
    ·
     obtain ⟨jj, hjj⟩ : ∃ jj, jj = j + 1 := ⟨_, rfl⟩
     have hpu : putR l u = l.take j ++ [u] ++ l.drop jj := hjj ▸ hpa.1 (by
       simp only [Bool.and_eq_true, decide_eq_true_eq] at hc74
       have hj3 : j < l.length := by omega
       rw [List.getElem?_eq_getElem hj3] at hc74
       exact ⟨_, List.getElem?_eq_getElem hj3, hc74.1.2, hc74.2⟩)
     have hj4 : j < l.length := by
       simp only [Bool.and_eq_true, decide_eq_true_eq] at hc74
       omega
     refine W.region ?_
     refine RL.q (Yld.move rfl) rfl ?_
     refine RL.q (Yld.bin rfl rfl (by first | exact BinV.add (by omega) (by omega) | exact BinV.addW)) rfl ?_
     refine RL.q (Yld.assign rfl) rfl (RL.nil (N.next ?_))
     refine W.seq (W.region ?_)
     refine RL.q (Yld.move rfl) rfl (RL.q (Yld.move rfl) rfl (RL.q (Yld.move rfl) rfl ?_))
     refine RL.q (Yld.sliceL Tryz.underlying41 sz48 rfl rfl (by omega) (by first | omega | (simp; done) | (simp; omega))) rfl ?_
     refine RL.e (Eff.appendE (tc := 143) (sc := 1) (ms := (l.drop jj)) U.c Tryz.underlying41 el48 rfl rfl rfl rfl hO2 rfl (by rw [List.map_drop, hjj]; first | exact hS.drop (k := j + 1) (by simp; omega) | exact hS.drop (k := j) (by simp; omega)) (by simp; omega) (fun a _ => U.one a) (by decide) (by simp; omega) (by simp [maxLen]; omega)) rfl ?_
     rintro _ _ ⟨H3, p3, c3, rfl, hO3, rfl⟩
     refine RL.q (Yld.assign rfl) rfl (RL.nil (N.next ?_))
     refine W.keep (.of [4] rfl) (.of [0, 1, 103, 143, 149] rfl) ?_
     refine W.ret ?_
     exact N.retBy [143] (.cons (.tmp rfl) .nil) rfl rfl rfl rfl ⟨H3, p3, c3, by rw [hpu]; rfl, by rw [hpu]; exact hO3, rfl⟩
    ·
     obtain ⟨jj, hjj⟩ : ∃ jj, jj = j := ⟨_, rfl⟩
     have hpu : putR l u = l.take j ++ [u] ++ l.drop jj := hjj ▸ hpa.2 (fun a ha h3 => by
       have hj3 := (List.getElem?_eq_some_iff.1 ha).1
       rw [decide_eq_true (show (j : Int) < l.length by omega), ha] at hc74
       simp [h3] at hc74)
     refine W.skip ?_
     refine N.next ?_
     refine W.seq (W.region ?_)
     refine RL.q (Yld.move rfl) rfl (RL.q (Yld.move rfl) rfl (RL.q (Yld.move rfl) rfl ?_))
     refine RL.q (Yld.sliceL Tryz.underlying41 sz48 rfl rfl (by omega) (by first | omega | (simp; done) | (simp; omega))) rfl ?_
     refine RL.e (Eff.appendE (tc := 143) (sc := 1) (ms := (l.drop jj)) U.c Tryz.underlying41 el48 rfl rfl rfl rfl hO2 rfl (by rw [List.map_drop, hjj]; first | exact hS.drop (k := j + 1) (by simp; omega) | exact hS.drop (k := j) (by simp; omega)) (by simp; omega) (fun a _ => U.one a) (by decide) (by simp; omega) (by simp [maxLen]; omega)) rfl ?_
     rintro _ _ ⟨H3, p3, c3, rfl, hO3, rfl⟩
     refine RL.q (Yld.assign rfl) rfl (RL.nil (N.next ?_))
     refine W.keep (.of [4] rfl) (.of [0, 1, 103, 143, 149] rfl) ?_
     refine W.ret ?_
     exact N.retBy [143] (.cons (.tmp rfl) .nil) rfl rfl rfl rfl ⟨H3, p3, c3, by rw [hpu]; rfl, by rw [hpu]; exact hO3, rfl⟩
set_option maxRecDepth 100000 in
set_option maxHeartbeats 1600000 in
theorem rreplica_ct (x : Rt) (mach : Int) (hx : x.In) (kf : Int → Int) (hI : Inv kf mach x.us) (it num : Int) : Ct Tryz.prog 147 [.agg [.int .i64 mach, .slice x.pu x.us.length x.cu, .int .i64 x.gen, .slice x.ps x.st.length x.cs, .slice x.pv x.va.length x.cv, .slice x.pc x.cl.length x.cc].toArray, .int .i64 it, .int .i64 num] [x.HU] (fun v Hs => ∃ (y : Option U) (m : Int), v = .tuple [.agg (y.getD (⟨0, 0, 0, 0, 0⟩ : U)).c.toArray, .bool y.isSome, .int .i64 m].toArray ∧ RepI x.us it num y m ∧ Hs = [x.HU]) := by
  refine Ct.body Tryz.func147 rfl Tryz.ntmps147 rfl ?_
  intro E F
  obtain ⟨hSu, hSs, hSv, hSc⟩ := id hx
  have hmu := hSu.len_le
  have hms := hSs.len_le
  have hmv := hSv.len_le
  have hmc := hSc.len_le
  simp only [List.length_map, iz_len, maxLen] at hmu hms hmv hmc
  refine W.seq (W.region ?_)
  refine RL.e (Eff.box 103 _ rfl rfl) rfl ?_
  rintro _ _ ⟨b3, rfl, rfl⟩
  refine RL.e (Eff.alloc 106 zc48) rfl ?_
  rintro _ _ ⟨b6, rfl, rfl⟩
  refine RL.q (Yld.assign rfl) rfl (RL.q (Yld.assign rfl) rfl (RL.nil (N.next ?_)))
  refine W.seq (W.region ?_)
  refine RL.q (Yld.buildP lay48 .nil rfl) rfl ?_
  refine RL.e (Eff.alloc 109 zc48) rfl ?_
  rintro _ _ ⟨b9, rfl, rfl⟩
  refine RL.e0 (Eff.storeS (c := 109) _ sz48 rfl rfl rfl rfl rfl rfl rfl (by (try simp only [putAt, List.take, List.drop, List.nil_append, List.cons_append, List.append_nil, List.length_cons, List.length_nil, Nat.add_zero, Nat.zero_add, Nat.reduceAdd]); rfl)) ?_
  rintro _ _ rfl
  refine RL.q (Yld.assign rfl) rfl (RL.q (Yld.assign rfl) rfl (RL.nil (N.next ?_)))
  refine W.keep (.of [1, 2, 3, 6, 9, 10, 11] rfl) (.of [0, 1, 103, 106, 109] rfl) ?_
  refine W.seq ?_
  refine W.seq (W.region ?_)
  refine RL.q (Yld.assign rfl) rfl (RL.nil (N.next ?_))
  refine W.block ?_
  refine W.loopK (ι := RI) (fun z => (z.j ≤ x.us.length ∧ RepI (x.us.take z.j) it num z.y z.m)) (fun z => [(10, .bool z.y.isSome), (11, .int .i64 z.m), (12, .int .i64 (z.j : Nat))]) (fun z => [(109, single b9 (.cells (z.y.getD (⟨0, 0, 0, 0, 0⟩ : U)).c.toArray 48 (0, 0)))]) (fun z => x.us.length - z.j) (.of [1, 2, 3, 6, 9] rfl) (.of [0, 1, 103, 106] rfl) ⟨0, none, 0⟩ ?_ ?_ ?_ ?_
  · exact ⟨Nat.zero_le _, RepI.zero _ _⟩
  · exact (.as rfl (by first | rfl | (simp; done) | (congr 1; simp; done) | (congr 1; omega)) (.as rfl (by first | rfl | (simp; done) | (congr 1; simp; done) | (congr 1; omega)) (.as rfl (by first | rfl | (simp; done) | (congr 1; simp; done) | (congr 1; omega)) .nil)))
  · exact (.to rfl)
  rintro z ⟨hj, hR⟩
  refine W.keep (.of [10, 11, 12, 1, 2, 3, 6, 9] rfl) (.of [109, 0, 1, 103, 106] rfl) ?_
  refine W.seq ?_
  refine W.seq (W.region ?_)
  refine RL.q (Yld.move rfl) rfl ?_
  refine RL.q (Yld.fieldAddr fo59_1 rfl) rfl ?_
  refine RL.q (Yld.ld 103 Tryz.underlying41 rfl rfl rfl rfl) rfl ?_
  refine RL.q (Yld.lenSl Tryz.underlying41 rfl) rfl ?_
  refine RL.q (Yld.bin rfl rfl BinV.lss) rfl ?_
  refine RL.nil (N.next ?_)
  refine W.keep (.of [1, 2, 3, 6, 9, 10, 11, 12, 18] rfl) (.of [0, 1, 103, 106, 109] rfl) ?_
  first | refine W.condD rfl (fun hc18 => ?_) (fun hc18 => ?_) | (refine W.cond rfl (fun hc18 => ?_) (fun hc18 => ?_) <;> try simp only [Bool.or_eq_true, Bool.and_eq_true, Bool.not_eq_true', Bool.not_eq_false', decide_eq_true_eq, Bool.or_eq_false_iff, Bool.and_eq_false_iff, decide_eq_false_iff_not, beq_iff_eq, beq_eq_false_iff_ne, ne_eq, Decidable.not_not] at hc18)
  ·
   obtain ⟨u, hu⟩ : ∃ u, x.us[z.j]? = some u := ⟨_, List.getElem?_eq_getElem (show z.j < x.us.length by first | omega | (simp only [List.length_map] at *; omega))⟩
   have hlu : (x.us.map U.c)[z.j]? = some u.c := by simp [hu]
   refine W.skip ?_
   refine N.next ?_
   refine W.seq ?_
   refine W.block ?_
   refine W.seq ?_
   refine W.seq (W.region ?_)
   refine RL.q (Yld.fieldAddr fo59_1 rfl) rfl ?_
   refine RL.q (Yld.ld 103 Tryz.underlying41 rfl rfl rfl rfl) rfl ?_
   refine RL.q (Yld.move rfl) rfl ?_
   refine RL.q (Yld.ixr Tryz.underlying41 sz48 rfl rfl) rfl ?_
   refine RL.q (Yld.fieldAddr fo48_0 rfl) rfl ?_
   refine RL.q (by first | exact (by first | exact Yld.loadRow1 (cl := 1) Tryz.underlying3 rfl rfl rfl (by first | assumption | exact Own.sl (by assumption)) (by assumption) | exact Yld.loadRow1 (cl := 103) Tryz.underlying3 rfl rfl rfl (by first | assumption | exact Own.sl (by assumption)) (by assumption) | exact Yld.loadRow1 (cl := 106) Tryz.underlying3 rfl rfl rfl (by first | assumption | exact Own.sl (by assumption)) (by assumption) | exact Yld.loadRow1 (cl := 109) Tryz.underlying3 rfl rfl rfl (by first | assumption | exact Own.sl (by assumption)) (by assumption)) | exact (by first | exact Yld.lrF 1 0 Tryz.underlying3 rfl rfl rfl rfl | exact Yld.lrF 103 0 Tryz.underlying3 rfl rfl rfl rfl | exact Yld.lrF 106 0 Tryz.underlying3 rfl rfl rfl rfl | exact Yld.lrF 109 0 Tryz.underlying3 rfl rfl rfl rfl)) rfl ?_
   refine RL.q (Yld.move rfl) rfl ?_
   refine RL.q (Yld.bin rfl rfl BinV.neq) rfl ?_
   refine RL.nil (N.next ?_)
   refine W.keep (.of [1, 2, 3, 6, 9, 10, 11, 12, 28] rfl) (.of [0, 1, 103, 106, 109] rfl) ?_
   first | refine W.condD rfl (fun hc28 => ?_) (fun hc28 => ?_) | (refine W.cond rfl (fun hc28 => ?_) (fun hc28 => ?_) <;> try simp only [Bool.or_eq_true, Bool.and_eq_true, Bool.not_eq_true', Bool.not_eq_false', decide_eq_true_eq, Bool.or_eq_false_iff, Bool.and_eq_false_iff, decide_eq_false_iff_not, beq_iff_eq, beq_eq_false_iff_ne, ne_eq, Decidable.not_not] at hc28)
   ·
    refine W.exit ?_
    refine N.then_exit ?_
    refine N.block_eq ?_
    refine N.next ?_
    refine W.region ?_
    refine RL.q (Yld.move rfl) rfl ?_
    refine RL.q (Yld.bin rfl rfl (by first | exact BinV.add (by omega) (by omega) | exact BinV.addW)) rfl ?_
    refine RL.q (Yld.assign rfl) rfl (RL.nil ?_)
    exact N.famK ⟨z.j + 1, z.y, z.m⟩ ⟨⟨by dsimp only; omega, hR.miss hu hc28⟩, by dsimp only; omega⟩ (.as rfl (by first | rfl | (simp; done) | (congr 1; simp; done) | (congr 1; omega)) (.as rfl (by first | rfl | (simp; done) | (congr 1; simp; done) | (congr 1; omega)) (.as rfl (by first | rfl | (simp; done) | (congr 1; simp; done) | (congr 1; omega)) .nil))) (.to rfl) (.to rfl) (.to rfl)
   ·
    refine W.skip ?_
    refine N.next ?_
    refine W.seq (W.region ?_)
    refine RL.q (Yld.fieldAddr fo59_1 rfl) rfl ?_
    refine RL.q (Yld.ld 103 Tryz.underlying41 rfl rfl rfl rfl) rfl ?_
    refine RL.q (Yld.move rfl) rfl ?_
    refine RL.q (Yld.ixr Tryz.underlying41 sz48 rfl rfl) rfl ?_
    refine RL.q (Yld.fieldAddr fo48_1 rfl) rfl ?_
    refine RL.q (by first | exact Yld.lrF 1 1 Tryz.underlying3 rfl rfl rfl rfl | exact Yld.lrF 103 1 Tryz.underlying3 rfl rfl rfl rfl | exact Yld.lrF 106 1 Tryz.underlying3 rfl rfl rfl rfl | exact Yld.lrF 109 1 Tryz.underlying3 rfl rfl rfl rfl) rfl ?_
    refine RL.q (Yld.assign rfl) rfl (RL.nil (N.next ?_))
    refine W.keep (.of [1, 2, 3, 6, 9, 10, 11, 12] rfl) (.of [0, 1, 103, 106, 109] rfl) ?_
    refine W.seq (W.region ?_)
    refine RL.q (Yld.fieldAddr fo59_1 rfl) rfl ?_
    refine RL.q (Yld.ld 103 Tryz.underlying41 rfl rfl rfl rfl) rfl ?_
    refine RL.q (Yld.move rfl) rfl ?_
    refine RL.q (Yld.ixr Tryz.underlying41 sz48 rfl rfl) rfl ?_
    refine RL.q (Yld.fieldAddr fo48_1 rfl) rfl ?_
    refine RL.q (by first | exact Yld.lrF 1 1 Tryz.underlying3 rfl rfl rfl rfl | exact Yld.lrF 103 1 Tryz.underlying3 rfl rfl rfl rfl | exact Yld.lrF 106 1 Tryz.underlying3 rfl rfl rfl rfl | exact Yld.lrF 109 1 Tryz.underlying3 rfl rfl rfl rfl) rfl ?_
    refine RL.q (Yld.move rfl) rfl ?_
    refine RL.q (Yld.bin rfl rfl BinV.eql) rfl ?_
    refine RL.nil (N.next ?_)
    refine W.keep (.of [1, 2, 3, 6, 9, 10, 11, 12, 42] rfl) (.of [0, 1, 103, 106, 109] rfl) ?_
    first | refine W.condD rfl (fun hc42 => ?_) (fun hc42 => ?_) | (refine W.cond rfl (fun hc42 => ?_) (fun hc42 => ?_) <;> try simp only [Bool.or_eq_true, Bool.and_eq_true, Bool.not_eq_true', Bool.not_eq_false', decide_eq_true_eq, Bool.or_eq_false_iff, Bool.and_eq_false_iff, decide_eq_false_iff_not, beq_iff_eq, beq_eq_false_iff_ne, ne_eq, Decidable.not_not] at hc42)
    ·
     refine W.region ?_
     refine RL.q (Yld.fieldAddr fo59_1 rfl) rfl ?_
     refine RL.q (Yld.ld 103 Tryz.underlying41 rfl rfl rfl rfl) rfl ?_
     refine RL.q (Yld.move rfl) rfl ?_
     refine RL.q (Yld.ixr Tryz.underlying41 sz48 rfl rfl) rfl ?_
     refine RL.q (by first | exact Yld.lrA 1 Tryz.underlying48 sz48 rfl rfl rfl | exact Yld.lrA 103 Tryz.underlying48 sz48 rfl rfl rfl | exact Yld.lrA 106 Tryz.underlying48 sz48 rfl rfl rfl | exact Yld.lrA 109 Tryz.underlying48 sz48 rfl rfl rfl) rfl ?_
     refine RL.e0 (Eff.storeS (c := 109) _ sz48 rfl rfl rfl rfl rfl rfl rfl (by (try simp only [putAt, List.take, List.drop, List.nil_append, List.cons_append, List.append_nil, List.length_cons, List.length_nil, Nat.add_zero, Nat.zero_add, Nat.reduceAdd]); rfl)) ?_
     rintro _ _ rfl
     refine RL.q (Yld.assign rfl) rfl (RL.nil ?_)
     refine N.block_normal ?_
     refine N.next ?_
     refine W.keep (.of [1, 2, 3, 6, 9, 10, 11, 12] rfl) (.of [0, 1, 103, 106, 109] rfl) ?_
     refine W.region ?_
     refine RL.q (Yld.move rfl) rfl ?_
     refine RL.q (Yld.bin rfl rfl (by first | exact BinV.add (by omega) (by omega) | exact BinV.addW)) rfl ?_
     refine RL.q (Yld.assign rfl) rfl (RL.nil ?_)
     exact N.famK ⟨z.j + 1, some u, u.rp⟩ ⟨⟨by dsimp only; omega, by have := hR.hit hI hu (Classical.not_not.1 hc28); rw [if_pos hc42] at this; exact this⟩, by dsimp only; omega⟩ (.as rfl (by first | rfl | (simp; done) | (congr 1; simp; done) | (congr 1; omega)) (.as rfl (by first | rfl | (simp; done) | (congr 1; simp; done) | (congr 1; omega)) (.as rfl (by first | rfl | (simp; done) | (congr 1; simp; done) | (congr 1; omega)) .nil))) (.to rfl) (.to rfl) (.to rfl)
    ·
     refine W.skip ?_
     refine N.block_normal ?_
     refine N.next ?_
     refine W.region ?_
     refine RL.q (Yld.move rfl) rfl ?_
     refine RL.q (Yld.bin rfl rfl (by first | exact BinV.add (by omega) (by omega) | exact BinV.addW)) rfl ?_
     refine RL.q (Yld.assign rfl) rfl (RL.nil ?_)
     exact N.famK ⟨z.j + 1, z.y, u.rp⟩ ⟨⟨by dsimp only; omega, by have := hR.hit hI hu (Classical.not_not.1 hc28); rw [if_neg hc42] at this; exact this⟩, by dsimp only; omega⟩ (.as rfl (by first | rfl | (simp; done) | (congr 1; simp; done) | (congr 1; omega)) (.as rfl (by first | rfl | (simp; done) | (congr 1; simp; done) | (congr 1; omega)) (.as rfl (by first | rfl | (simp; done) | (congr 1; simp; done) | (congr 1; omega)) .nil))) (.to rfl) (.to rfl) (.to rfl)
  ·
   have hfull := hR.full (show z.j = x.us.length by omega)
   refine W.exit ?_
   refine N.then_exit ?_
   refine N.then_exit ?_
   refine N.block_eq ?_
   refine N.next ?_
   refine W.keep (.of [6, 9, 10, 11] rfl) (.of [0, 1, 103, 106, 109] rfl) ?_
   refine W.seq (W.region ?_)
   refine RL.q (Yld.ldW 109 Tryz.underlying48 sz48 rfl rfl rfl rfl) rfl ?_
   refine RL.q (Yld.move rfl) rfl (RL.q (Yld.move rfl) rfl ?_)
   refine RL.e0 (Eff.storeS (c := 106) _ sz48 rfl rfl rfl rfl rfl rfl rfl (by (try simp only [putAt, List.take, List.drop, List.nil_append, List.cons_append, List.append_nil, List.length_cons, List.length_nil, Nat.add_zero, Nat.zero_add, Nat.reduceAdd]); rfl)) ?_
   rintro _ _ rfl
   refine RL.q (Yld.assign rfl) rfl (RL.q (Yld.assign rfl) rfl (RL.nil (N.next ?_)))
   refine W.keep (.of [6, 7, 8] rfl) (.of [0, 1, 103, 106, 109] rfl) ?_
   refine W.ret ?_
   exact N.retBy [1] (.cons (by first | exact .cell (c := 106) rfl rfl (fun w hs => run_loadVarA Tryz.underlying48 rfl sz48 rfl (fun j u hj => by rw [Nat.zero_add, PH.sub.cell hs (by first | exact single_self _ _ | exact pset_self _ _ _ | assumption)]; exact hj))) (.cons (.tmp rfl) (.cons (.tmp rfl) .nil))) rfl rfl rfl rfl ⟨z.y, z.m, rfl, hfull, rfl⟩
set_option maxRecDepth 100000 in
set_option maxHeartbeats 1600000 in
theorem rwith_ct (x : Rt) (mach : Int) (hx : x.In) (u : U) (s : Int) (hb : x.us.length ≤ 1000000) : Ct Tryz.prog 148 [.agg [.int .i64 mach, .slice x.pu x.us.length x.cu, .int .i64 x.gen, .slice x.ps x.st.length x.cs, .slice x.pv x.va.length x.cv, .slice x.pc x.cl.length x.cc].toArray, .agg [.int .i64 u.it, .int .i64 u.rp, .int .i64 u.st, .int .i64 u.va, .int .i64 u.ca].toArray, .int .i64 s] [x.HU] (fun v Hs => ∃ H' p' c', v = .agg [.int .i64 mach, .slice (x.setU p' c' (putR x.us { u with st := s }) H').pu (x.setU p' c' (putR x.us { u with st := s }) H').us.length (x.setU p' c' (putR x.us { u with st := s }) H').cu, .int .i64 (x.setU p' c' (putR x.us { u with st := s }) H').gen, .slice (x.setU p' c' (putR x.us { u with st := s }) H').ps (x.setU p' c' (putR x.us { u with st := s }) H').st.length (x.setU p' c' (putR x.us { u with st := s }) H').cs, .slice (x.setU p' c' (putR x.us { u with st := s }) H').pv (x.setU p' c' (putR x.us { u with st := s }) H').va.length (x.setU p' c' (putR x.us { u with st := s }) H').cv, .slice (x.setU p' c' (putR x.us { u with st := s }) H').pc (x.setU p' c' (putR x.us { u with st := s }) H').cl.length (x.setU p' c' (putR x.us { u with st := s }) H').cc].toArray ∧ Sl H' p' c' 5 ((putR x.us { u with st := s }).map U.c) ∧ Hs = [H']) := by
  refine Ct.body Tryz.func148 rfl Tryz.ntmps148 rfl ?_
  intro E F
  refine W.seq (W.region ?_)
  refine RL.e (Eff.box 103 _ rfl rfl) rfl ?_
  rintro _ _ ⟨b3, rfl, rfl⟩
  refine RL.e (Eff.box 104 _ rfl rfl) rfl ?_
  rintro _ _ ⟨b4, rfl, rfl⟩
  refine RL.e (Eff.alloc 106 zc59) rfl ?_
  rintro _ _ ⟨b6, rfl, rfl⟩
  refine RL.nil (N.next ?_)
  refine W.seq (W.region ?_)
  refine RL.q (Yld.move rfl) rfl ?_
  refine RL.q (Yld.fieldAddr fo48_2 rfl) rfl ?_
  refine RL.e0 (Eff.storeS (c := 104) _ sz3 rfl rfl rfl rfl rfl rfl rfl (by (try simp only [putAt, List.take, List.drop, List.nil_append, List.cons_append, List.append_nil, List.length_cons, List.length_nil, Nat.add_zero, Nat.zero_add, Nat.reduceAdd]); rfl)) ?_
  rintro _ _ rfl
  refine RL.nil (N.next ?_)
  refine W.keep (.of [3, 4, 6] rfl) (.of [0, 1, 103, 104, 106] rfl) ?_
  refine W.seq (W.region ?_)
  refine RL.q (Yld.fieldAddr fo59_1 rfl) rfl ?_
  refine RL.q (Yld.ld 103 Tryz.underlying41 rfl rfl rfl rfl) rfl ?_
  refine RL.q (Yld.ldW 104 Tryz.underlying48 sz48 rfl rfl rfl rfl) rfl ?_
  refine RL.e (Eff.call ent189 [1] [1] (.cons rfl (.cons rfl .nil)) (rput_ct x.us x.HU x.pu x.cu x.us.length rfl hx.u { u with st := s } hb) rfl rfl rfl rfl (by rintro _ _ ⟨_, _, _, _, _, rfl⟩; rfl)) rfl ?_
  rintro _ _ ⟨_, ⟨Hp, pp, cp, rfl, hOp, rfl⟩, rfl⟩
  refine RL.q (Yld.fieldAddr fo59_1 rfl) rfl ?_
  refine RL.e0 (Eff.storeS (c := 103) _ sz41 rfl rfl rfl rfl rfl rfl rfl (by (try simp only [putAt, List.take, List.drop, List.nil_append, List.cons_append, List.append_nil, List.length_cons, List.length_nil, Nat.add_zero, Nat.zero_add, Nat.reduceAdd]); rfl)) ?_
  rintro _ _ rfl
  refine RL.nil (N.next ?_)
  refine W.keep (.of [3, 6] rfl) (.of [0, 1, 103, 104, 106] rfl) ?_
  refine W.seq (W.region ?_)
  refine RL.q (Yld.ldW 103 Tryz.underlying59 sz59 rfl rfl rfl rfl) rfl ?_
  refine RL.e0 (Eff.storeS (c := 106) _ sz59 rfl rfl rfl rfl rfl rfl rfl (by (try simp only [putAt, List.take, List.drop, List.nil_append, List.cons_append, List.append_nil, List.length_cons, List.length_nil, Nat.add_zero, Nat.zero_add, Nat.reduceAdd]); rfl)) ?_
  rintro _ _ rfl
  refine RL.nil (N.next ?_)
  refine W.ret ?_
  exact N.retBy [1] (.cons (by first | exact .cell (c := 106) rfl rfl (fun w hs => run_loadVarA Tryz.underlying59 rfl sz59 rfl (fun j u hj => by rw [Nat.zero_add, PH.sub.cell hs (by first | exact single_self _ _ | exact pset_self _ _ _ | assumption)]; exact hj))) .nil) rfl rfl rfl rfl ⟨Hp, pp, cp, rfl, hOp.sl, rfl⟩
def Fen.wo (us : List U) (it : Int) : List U := us.filter fun u => decide (u.it ≠ it)
theorem wo_in {us : List U} {it : Int} {j : Nat} {u : U} (hu : us[j]? = some u) (h : u.it ≠ it) : wo (us.take (j + 1)) it = wo (us.take j) it ++ [u] := by
  unfold wo; rw [tsnoc hu, List.filter_append]; simp [h]
theorem wo_out {us : List U} {it : Int} {j : Nat} {u : U} (hu : us[j]? = some u) (h : u.it = it) : wo (us.take (j + 1)) it = wo (us.take j) it := by
  unfold wo; rw [tsnoc hu, List.filter_append]; simp [h]
theorem wo_len (us : List U) (it : Int) (j : Nat) : (wo (us.take j) it).length ≤ us.length := by
  unfold wo; have := List.length_filter_le (fun u : U => decide (u.it ≠ it)) (us.take j); rw [List.length_take] at this; omega
set_option maxRecDepth 100000 in
set_option maxHeartbeats 1600000 in
theorem rwithout_ct (x : Rt) (mach : Int) (hx : x.In) (it : Int) (hb : x.us.length ≤ 1000000) : Ct Tryz.prog 149 [.agg [.int .i64 mach, .slice x.pu x.us.length x.cu, .int .i64 x.gen, .slice x.ps x.st.length x.cs, .slice x.pv x.va.length x.cv, .slice x.pc x.cl.length x.cc].toArray, .int .i64 it] [x.HU] (fun v Hs => ∃ H' p' c', v = .agg [.int .i64 mach, .slice (x.setU p' c' (wo x.us it) H').pu (x.setU p' c' (wo x.us it) H').us.length (x.setU p' c' (wo x.us it) H').cu, .int .i64 (x.setU p' c' (wo x.us it) H').gen, .slice (x.setU p' c' (wo x.us it) H').ps (x.setU p' c' (wo x.us it) H').st.length (x.setU p' c' (wo x.us it) H').cs, .slice (x.setU p' c' (wo x.us it) H').pv (x.setU p' c' (wo x.us it) H').va.length (x.setU p' c' (wo x.us it) H').cv, .slice (x.setU p' c' (wo x.us it) H').pc (x.setU p' c' (wo x.us it) H').cl.length (x.setU p' c' (wo x.us it) H').cc].toArray ∧ Sl H' p' c' 5 ((wo x.us it).map U.c) ∧ Hs = [H']) := by
  refine Ct.body Tryz.func149 rfl Tryz.ntmps149 rfl ?_
  intro E F
  obtain ⟨hSu, hSs, hSv, hSc⟩ := id hx
  have hmu := hSu.len_le
  have hms := hSs.len_le
  have hmv := hSv.len_le
  have hmc := hSc.len_le
  simp only [List.length_map, iz_len, maxLen] at hmu hms hmv hmc
  refine W.seq (W.region ?_)
  refine RL.e (Eff.box 102 _ rfl rfl) rfl ?_
  rintro _ _ ⟨b2, rfl, rfl⟩
  refine RL.e (Eff.alloc 104 zc59) rfl ?_
  rintro _ _ ⟨b4, rfl, rfl⟩
  refine RL.nil (N.next ?_)
  refine W.seq (W.region ?_)
  refine RL.e (Eff.buildSlice 107 Tryz.underlying41 sz48 zc48 rfl rfl .nil rfl) rfl ?_
  rintro _ _ ⟨b7, rfl, rfl⟩
  refine RL.q (Yld.assign rfl) rfl (RL.nil (N.next ?_))
  refine W.seq ?_
  refine W.seq (W.region ?_)
  refine RL.q (Yld.assign rfl) rfl (RL.nil (N.next ?_))
  refine W.block ?_
  refine W.loopK (ι := WI) (fun z => (z.j ≤ x.us.length ∧ Own z.H z.p z.c 48 5 ((wo (x.us.take z.j) it).map U.c))) (fun z => [(5, .slice z.p (wo (x.us.take z.j) it).length z.c), (6, .int .i64 (z.j : Nat))]) (fun z => [(107, z.H)]) (fun z => x.us.length - z.j) (.of [1, 2, 4] rfl) (.of [0, 1, 102, 104] rfl) ⟨0, single b7 (.cells #[] 48 (0, 0)), some ⟨b7, 0, none⟩, 0⟩ ?_ ?_ ?_ ?_
  · exact ⟨Nat.zero_le _, Own.none0 rfl⟩
  · exact (.as rfl (by first | rfl | (simp; done) | (congr 1; simp; done) | (congr 1; omega)) (.as rfl (by first | rfl | (simp; done) | (congr 1; simp; done) | (congr 1; omega)) .nil))
  · exact (.to rfl)
  rintro z ⟨hj, hO⟩
  refine W.keep (.of [5, 6, 1, 2, 4] rfl) (.of [107, 0, 1, 102, 104] rfl) ?_
  refine W.seq ?_
  refine W.seq (W.region ?_)
  refine RL.q (Yld.move rfl) rfl ?_
  refine RL.q (Yld.fieldAddr fo59_1 rfl) rfl ?_
  refine RL.q (Yld.ld 102 Tryz.underlying41 rfl rfl rfl rfl) rfl ?_
  refine RL.q (Yld.lenSl Tryz.underlying41 rfl) rfl ?_
  refine RL.q (Yld.bin rfl rfl BinV.lss) rfl ?_
  refine RL.nil (N.next ?_)
  refine W.keep (.of [1, 2, 4, 5, 6, 12] rfl) (.of [0, 1, 102, 104, 107] rfl) ?_
  first | refine W.condD rfl (fun hc12 => ?_) (fun hc12 => ?_) | (refine W.cond rfl (fun hc12 => ?_) (fun hc12 => ?_) <;> try simp only [Bool.or_eq_true, Bool.and_eq_true, Bool.not_eq_true', Bool.not_eq_false', decide_eq_true_eq, Bool.or_eq_false_iff, Bool.and_eq_false_iff, decide_eq_false_iff_not, beq_iff_eq, beq_eq_false_iff_ne, ne_eq, Decidable.not_not] at hc12)
  ·
   obtain ⟨u, hu⟩ : ∃ u, x.us[z.j]? = some u := ⟨_, List.getElem?_eq_getElem (show z.j < x.us.length by first | omega | (simp only [List.length_map] at *; omega))⟩
   have hlu : (x.us.map U.c)[z.j]? = some u.c := by simp [hu]
   have hwl := wo_len x.us it z.j
   refine W.skip ?_
   refine N.next ?_
   refine W.seq ?_
   refine W.block ?_
   refine W.seq (W.region ?_)
   refine RL.q (Yld.fieldAddr fo59_1 rfl) rfl ?_
   refine RL.q (Yld.ld 102 Tryz.underlying41 rfl rfl rfl rfl) rfl ?_
   refine RL.q (Yld.move rfl) rfl ?_
   refine RL.q (Yld.ixr Tryz.underlying41 sz48 rfl rfl) rfl ?_
   refine RL.q (Yld.fieldAddr fo48_0 rfl) rfl ?_
   refine RL.q (by first | exact (by first | exact Yld.loadRow1 (cl := 1) Tryz.underlying3 rfl rfl rfl (by first | assumption | exact Own.sl (by assumption)) (by assumption) | exact Yld.loadRow1 (cl := 102) Tryz.underlying3 rfl rfl rfl (by first | assumption | exact Own.sl (by assumption)) (by assumption) | exact Yld.loadRow1 (cl := 104) Tryz.underlying3 rfl rfl rfl (by first | assumption | exact Own.sl (by assumption)) (by assumption) | exact Yld.loadRow1 (cl := 107) Tryz.underlying3 rfl rfl rfl (by first | assumption | exact Own.sl (by assumption)) (by assumption)) | exact (by first | exact Yld.lrF 1 0 Tryz.underlying3 rfl rfl rfl rfl | exact Yld.lrF 102 0 Tryz.underlying3 rfl rfl rfl rfl | exact Yld.lrF 104 0 Tryz.underlying3 rfl rfl rfl rfl | exact Yld.lrF 107 0 Tryz.underlying3 rfl rfl rfl rfl)) rfl ?_
   refine RL.q (Yld.move rfl) rfl ?_
   refine RL.q (Yld.bin rfl rfl BinV.neq) rfl ?_
   refine RL.nil (N.next ?_)
   refine W.keep (.of [1, 2, 4, 5, 6, 22] rfl) (.of [0, 1, 102, 104, 107] rfl) ?_
   first | refine W.condD rfl (fun hc22 => ?_) (fun hc22 => ?_) | (refine W.cond rfl (fun hc22 => ?_) (fun hc22 => ?_) <;> try simp only [Bool.or_eq_true, Bool.and_eq_true, Bool.not_eq_true', Bool.not_eq_false', decide_eq_true_eq, Bool.or_eq_false_iff, Bool.and_eq_false_iff, decide_eq_false_iff_not, beq_iff_eq, beq_eq_false_iff_ne, ne_eq, Decidable.not_not] at hc22)
   ·
    refine W.region ?_
    refine RL.q (Yld.move rfl) rfl ?_
    refine RL.q (Yld.fieldAddr fo59_1 rfl) rfl ?_
    refine RL.q (Yld.ld 102 Tryz.underlying41 rfl rfl rfl rfl) rfl ?_
    refine RL.q (Yld.move rfl) rfl ?_
    refine RL.q (Yld.ixr Tryz.underlying41 sz48 rfl rfl) rfl ?_
    refine RL.q (by first | exact Yld.lrA 1 Tryz.underlying48 sz48 rfl rfl rfl | exact Yld.lrA 102 Tryz.underlying48 sz48 rfl rfl rfl | exact Yld.lrA 104 Tryz.underlying48 sz48 rfl rfl rfl | exact Yld.lrA 107 Tryz.underlying48 sz48 rfl rfl rfl) rfl ?_
    refine RL.e (Eff.buildSlice 129 Tryz.underlying41 sz48 zc48 rfl rfl (.cons rfl rfl .nil) rfl) rfl ?_
    rintro _ _ ⟨b29, rfl, rfl⟩
    refine RL.e (Eff.appendE (tc := 107) (sc := 129) (ms := [u]) U.c Tryz.underlying41 el48 rfl rfl rfl rfl hO rfl (Own.one (l := u.c) rfl (U.one u) rfl).sl rfl (fun a _ => U.one a) (by decide) (by simp; omega) (by simp [maxLen]; omega)) rfl ?_
    rintro _ _ ⟨Ha, pa, ca, rfl, hOa, rfl⟩
    refine RL.q (Yld.assign rfl) rfl (RL.nil ?_)
    refine N.block_normal ?_
    refine N.next ?_
    refine W.keep (.of [1, 2, 4, 5, 6] rfl) (.of [0, 1, 102, 104, 107, 129] rfl) ?_
    refine W.region ?_
    refine RL.q (Yld.move rfl) rfl ?_
    refine RL.q (Yld.bin rfl rfl (by first | exact BinV.add (by omega) (by omega) | exact BinV.addW)) rfl ?_
    refine RL.q (Yld.assign rfl) rfl (RL.nil ?_)
    exact N.famK ⟨z.j + 1, Ha, pa, ca⟩ ⟨⟨by dsimp only; omega, by dsimp only; rw [wo_in hu hc22]; exact hOa⟩, by dsimp only; omega⟩ (.as rfl (by rw [wo_in hu hc22]) (.as rfl (by first | rfl | (simp; done) | (congr 1; simp; done) | (congr 1; omega)) .nil)) (.to rfl) (.to rfl) (.to rfl)
   ·
    refine W.skip ?_
    refine N.block_normal ?_
    refine N.next ?_
    refine W.region ?_
    refine RL.q (Yld.move rfl) rfl ?_
    refine RL.q (Yld.bin rfl rfl (by first | exact BinV.add (by omega) (by omega) | exact BinV.addW)) rfl ?_
    refine RL.q (Yld.assign rfl) rfl (RL.nil ?_)
    exact N.famK ⟨z.j + 1, z.H, z.p, z.c⟩ ⟨⟨by dsimp only; omega, by dsimp only; rw [wo_out hu (Classical.not_not.1 hc22)]; exact hO⟩, by dsimp only; omega⟩ (.as rfl (by rw [wo_out hu (Classical.not_not.1 hc22)]) (.as rfl (by first | rfl | (simp; done) | (congr 1; simp; done) | (congr 1; omega)) .nil)) (.to rfl) (.to rfl) (.to rfl)
  ·
   have hend : z.j = x.us.length := by omega
   rw [hend, List.take_length] at hO ⊢
   refine W.exit ?_
   refine N.then_exit ?_
   refine N.then_exit ?_
   refine N.block_eq ?_
   refine N.next ?_
   refine W.seq (W.region ?_)
   refine RL.q (Yld.move rfl) rfl ?_
   refine RL.q (Yld.fieldAddr fo59_1 rfl) rfl ?_
   refine RL.e0 (Eff.storeS (c := 102) _ sz41 rfl rfl rfl rfl rfl rfl rfl (by (try simp only [putAt, List.take, List.drop, List.nil_append, List.cons_append, List.append_nil, List.length_cons, List.length_nil, Nat.add_zero, Nat.zero_add, Nat.reduceAdd]); rfl)) ?_
   rintro _ _ rfl
   refine RL.nil (N.next ?_)
   refine W.keep (.of [2, 4] rfl) (.of [0, 1, 102, 104, 107] rfl) ?_
   refine W.seq (W.region ?_)
   refine RL.q (Yld.ldW 102 Tryz.underlying59 sz59 rfl rfl rfl rfl) rfl ?_
   refine RL.e0 (Eff.storeS (c := 104) _ sz59 rfl rfl rfl rfl rfl rfl rfl (by (try simp only [putAt, List.take, List.drop, List.nil_append, List.cons_append, List.append_nil, List.length_cons, List.length_nil, Nat.add_zero, Nat.zero_add, Nat.reduceAdd]); rfl)) ?_
   rintro _ _ rfl
   refine RL.nil (N.next ?_)
   refine W.ret ?_
   exact N.retBy [107] (.cons (by first | exact .cell (c := 104) rfl rfl (fun w hs => run_loadVarA Tryz.underlying59 rfl sz59 rfl (fun j u hj => by rw [Nat.zero_add, PH.sub.cell hs (by first | exact single_self _ _ | exact pset_self _ _ _ | assumption)]; exact hj))) .nil) rfl rfl rfl rfl ⟨z.H, z.p, z.c, rfl, hO.sl, rfl⟩
set_option maxRecDepth 100000 in
set_option maxHeartbeats 1600000 in
theorem rfits_ct (m : Md) (H1 : PH) (hM : m.In H1) (c : Cm) : Ct Tryz.prog 103 [.agg [.slice m.psi m.si.length m.csi, .slice m.pfe m.fe.length m.cfe, .slice m.prk m.rk.length m.crk, .slice m.pmc m.mc.length m.cmc, .slice m.pln m.ln.length m.cln, .slice m.pis m.is.length m.cis, .int .i64 m.da, .int .i64 m.sl, .int .i64 m.re, .int .i64 m.fa, .slice m.prl m.rl.length m.crl].toArray, .agg [.int .i64 c.kd, .int .i64 c.it, .int .i64 c.rp, .int .i64 c.va].toArray] [H1] (fun v Hs => v = .bool (decide (kdFit (kdOf m c.it) c)) ∧ Hs = [H1]) := by
  refine Ct.body Tryz.func103 rfl Tryz.ntmps103 rfl ?_
  intro E F
  refine W.seq (W.region ?_)
  refine RL.e (Eff.box 102 _ rfl rfl) rfl ?_
  rintro _ _ ⟨b2, rfl, rfl⟩
  refine RL.e (Eff.box 103 _ rfl rfl) rfl ?_
  rintro _ _ ⟨b3, rfl, rfl⟩
  refine RL.q (Yld.assign rfl) rfl (RL.nil (N.next ?_))
  refine W.seq (W.region ?_)
  refine RL.q (Yld.ldW 102 Tryz.underlying29 sz29 rfl rfl rfl rfl) rfl ?_
  refine RL.q (Yld.fieldAddr fo36_1 rfl) rfl ?_
  refine RL.q (Yld.ld 103 Tryz.underlying3 rfl rfl rfl rfl) rfl ?_
  refine RL.e (Eff.call ent47 [1] [1] (.cons rfl (.cons rfl .nil)) (rkind_ct m H1 hM c.it) rfl rfl rfl rfl (by rintro _ _ ⟨_, rfl⟩; rfl)) rfl ?_
  rintro _ _ ⟨_, ⟨rfl, rfl⟩, rfl⟩
  refine RL.q (Yld.assign rfl) rfl (RL.nil (N.next ?_))
  refine W.keep (.of [3, 5] rfl) (.of [0, 1, 102, 103] rfl) ?_
  refine W.seq ?_
  refine W.seq (W.region ?_)
  refine RL.q (Yld.fieldAddr fo36_0 rfl) rfl ?_
  refine RL.q (Yld.ld 103 Tryz.underlying3 rfl rfl rfl rfl) rfl ?_
  refine RL.nil (N.next ?_)
  refine W.block ?_
  refine W.seq ?_
  refine W.seq (W.region ?_)
  refine RL.q (Yld.bin rfl rfl BinV.eql) rfl ?_
  refine RL.q (Yld.assign rfl) rfl (RL.nil (N.next ?_))
  first | refine W.condD rfl (fun hc12 => ?_) (fun hc12 => ?_) | (refine W.cond rfl (fun hc12 => ?_) (fun hc12 => ?_) <;> try simp only [Bool.or_eq_true, Bool.and_eq_true, Bool.not_eq_true', Bool.not_eq_false', decide_eq_true_eq, Bool.or_eq_false_iff, Bool.and_eq_false_iff, decide_eq_false_iff_not, beq_iff_eq, beq_eq_false_iff_ne, ne_eq, Decidable.not_not] at hc12)
  ·
   refine W.skip ?_
   refine N.next ?_
   first | refine W.condD rfl (fun hc12 => ?_) (fun hc12 => ?_) | (refine W.cond rfl (fun hc12 => ?_) (fun hc12 => ?_) <;> try simp only [Bool.or_eq_true, Bool.and_eq_true, Bool.not_eq_true', Bool.not_eq_false', decide_eq_true_eq, Bool.or_eq_false_iff, Bool.and_eq_false_iff, decide_eq_false_iff_not, beq_iff_eq, beq_eq_false_iff_ne, ne_eq, Decidable.not_not] at hc12)
   ·
    refine W.seq (W.region ?_)
    refine RL.q (Yld.move rfl) rfl ?_
    refine RL.q (Yld.bin rfl rfl BinV.eql) rfl ?_
    refine RL.q (Yld.assign rfl) rfl (RL.nil (N.next ?_))
    refine W.keep (.of [4] rfl) (.of [0, 1, 102, 103] rfl) ?_
    refine W.ret ?_
    refine N.block_ret ?_
    refine N.then_ret ?_
    exact N.retBy [1] (.cons (.tmp rfl) .nil) rfl rfl rfl rfl ⟨by show Value.bool _ = Value.bool _; congr 1; rw [Bool.eq_iff_iff]; simp only [Bool.or_eq_true, Bool.false_eq_true, false_iff, decide_eq_true_eq]; unfold kdFit; omega, rfl⟩
   ·
    refine W.seq (W.region ?_)
    refine RL.q (Yld.bin rfl rfl BinV.eql) rfl ?_
    refine RL.q (Yld.assign rfl) rfl (RL.nil (N.next ?_))
    refine W.keep (.of [5, 11, 17] rfl) (.of [0, 1, 102, 103] rfl) ?_
    first | refine W.condD rfl (fun hc17 => ?_) (fun hc17 => ?_) | (refine W.cond rfl (fun hc17 => ?_) (fun hc17 => ?_) <;> try simp only [Bool.or_eq_true, Bool.and_eq_true, Bool.not_eq_true', Bool.not_eq_false', decide_eq_true_eq, Bool.or_eq_false_iff, Bool.and_eq_false_iff, decide_eq_false_iff_not, beq_iff_eq, beq_eq_false_iff_ne, ne_eq, Decidable.not_not] at hc17)
    ·
     refine W.seq (W.region ?_)
     refine RL.q (Yld.move rfl) rfl ?_
     refine RL.q (Yld.bin rfl rfl BinV.eql) rfl ?_
     refine RL.q (Yld.assign rfl) rfl (RL.nil (N.next ?_))
     refine W.keep (.of [4] rfl) (.of [0, 1, 102, 103] rfl) ?_
     refine W.ret ?_
     refine N.block_ret ?_
     refine N.then_ret ?_
     exact N.retBy [1] (.cons (.tmp rfl) .nil) rfl rfl rfl rfl ⟨by show Value.bool _ = Value.bool _; congr 1; rw [Bool.eq_iff_iff]; simp only [Bool.or_eq_true, Bool.false_eq_true, false_iff, decide_eq_true_eq]; unfold kdFit; omega, rfl⟩
    ·
     refine W.seq (W.region ?_)
     refine RL.q (Yld.bin rfl rfl BinV.eql) rfl ?_
     refine RL.q (Yld.assign rfl) rfl (RL.nil (N.next ?_))
     first | refine W.condD rfl (fun hc21 => ?_) (fun hc21 => ?_) | (refine W.cond rfl (fun hc21 => ?_) (fun hc21 => ?_) <;> try simp only [Bool.or_eq_true, Bool.and_eq_true, Bool.not_eq_true', Bool.not_eq_false', decide_eq_true_eq, Bool.or_eq_false_iff, Bool.and_eq_false_iff, decide_eq_false_iff_not, beq_iff_eq, beq_eq_false_iff_ne, ne_eq, Decidable.not_not] at hc21)
     ·
      refine W.seq (W.region ?_)
      refine RL.q (Yld.move rfl) rfl ?_
      refine RL.q (Yld.bin rfl rfl BinV.eql) rfl ?_
      refine RL.q (Yld.assign rfl) rfl (RL.nil (N.next ?_))
      refine W.keep (.of [4] rfl) (.of [0, 1, 102, 103] rfl) ?_
      refine W.ret ?_
      refine N.block_ret ?_
      refine N.then_ret ?_
      exact N.retBy [1] (.cons (.tmp rfl) .nil) rfl rfl rfl rfl ⟨by show Value.bool _ = Value.bool _; congr 1; rw [Bool.eq_iff_iff]; simp only [Bool.or_eq_true, Bool.false_eq_true, false_iff, decide_eq_true_eq]; unfold kdFit; omega, rfl⟩
     ·
      refine W.seq ?_
      refine W.seq (W.region ?_)
      refine RL.q (Yld.bin rfl rfl BinV.eql) rfl ?_
      refine RL.q (Yld.assign rfl) rfl (RL.nil (N.next ?_))
      refine W.keep (.of [5, 11, 25] rfl) (.of [0, 1, 102, 103] rfl) ?_
      first | refine W.condD rfl (fun hc25 => ?_) (fun hc25 => ?_) | (refine W.cond rfl (fun hc25 => ?_) (fun hc25 => ?_) <;> try simp only [Bool.or_eq_true, Bool.and_eq_true, Bool.not_eq_true', Bool.not_eq_false', decide_eq_true_eq, Bool.or_eq_false_iff, Bool.and_eq_false_iff, decide_eq_false_iff_not, beq_iff_eq, beq_eq_false_iff_ne, ne_eq, Decidable.not_not] at hc25)
      ·
       refine W.skip ?_
       refine N.next ?_
       first | refine W.condD rfl (fun hc25 => ?_) (fun hc25 => ?_) | (refine W.cond rfl (fun hc25 => ?_) (fun hc25 => ?_) <;> try simp only [Bool.or_eq_true, Bool.and_eq_true, Bool.not_eq_true', Bool.not_eq_false', decide_eq_true_eq, Bool.or_eq_false_iff, Bool.and_eq_false_iff, decide_eq_false_iff_not, beq_iff_eq, beq_eq_false_iff_ne, ne_eq, Decidable.not_not] at hc25)
       ·
        refine W.seq (W.region ?_)
        refine RL.q (Yld.move rfl) rfl ?_
        refine RL.q (Yld.bin rfl rfl BinV.eql) rfl ?_
        refine RL.q (Yld.move rfl) rfl ?_
        refine' RL.or (t := 30) (d := 33) 3 rfl (.of [5, 11, 25, 28, 29] rfl) (.of [0, 1, 102, 103] rfl) ?_ ?_ ?_
        rotate_left 1
        ·
         intro hg30
         refine RL.gq rfl rfl (Yld.move rfl) rfl ?_
         refine RL.gq rfl rfl (Yld.bin rfl rfl BinV.eql) rfl ?_
         refine RL.q Yld.pk rfl ?_
         exact RL.nil (N.meet (.to rfl) (.to rfl))
        ·
         intro hg30
         refine RL.gskip rfl rfl rfl rfl ?_
         refine RL.gskip rfl rfl rfl rfl ?_
         refine RL.q Yld.pk rfl ?_
         exact RL.nil (N.meet (.to rfl) (.to rfl))
        refine RL.q (Yld.assign rfl) rfl (RL.nil (N.next ?_))
        refine W.keep (.of [4] rfl) (.of [0, 1, 102, 103] rfl) ?_
        refine W.ret ?_
        refine N.block_ret ?_
        refine N.then_ret ?_
        exact N.retBy [1] (.cons (.tmp rfl) .nil) rfl rfl rfl rfl ⟨by show Value.bool _ = Value.bool _; congr 1; rw [Bool.eq_iff_iff]; simp only [Bool.or_eq_true, Bool.false_eq_true, false_iff, decide_eq_true_eq]; unfold kdFit; omega, rfl⟩
       ·
        refine W.skip ?_
        refine N.block_normal ?_
        refine N.next ?_
        refine W.seq (W.region ?_)
        refine RL.q (Yld.assign rfl) rfl (RL.nil (N.next ?_))
        refine W.ret ?_
        exact N.retBy [1] (.cons (.tmp rfl) .nil) rfl rfl rfl rfl ⟨by show Value.bool _ = Value.bool _; congr 1; rw [Bool.eq_iff_iff]; simp only [Bool.or_eq_true, Bool.false_eq_true, false_iff, decide_eq_true_eq]; unfold kdFit; omega, rfl⟩
      ·
       refine W.region ?_
       refine RL.q (Yld.bin rfl rfl BinV.eql) rfl ?_
       refine RL.q (Yld.assign rfl) rfl (RL.nil (N.next ?_))
       first | refine W.condD rfl (fun hc25 => ?_) (fun hc25 => ?_) | (refine W.cond rfl (fun hc25 => ?_) (fun hc25 => ?_) <;> try simp only [Bool.or_eq_true, Bool.and_eq_true, Bool.not_eq_true', Bool.not_eq_false', decide_eq_true_eq, Bool.or_eq_false_iff, Bool.and_eq_false_iff, decide_eq_false_iff_not, beq_iff_eq, beq_eq_false_iff_ne, ne_eq, Decidable.not_not] at hc25)
       ·
        refine W.seq (W.region ?_)
        refine RL.q (Yld.move rfl) rfl ?_
        refine RL.q (Yld.bin rfl rfl BinV.eql) rfl ?_
        refine RL.q (Yld.move rfl) rfl ?_
        refine' RL.or (t := 30) (d := 33) 3 rfl (.of [5, 11, 25, 27, 28, 29] rfl) (.of [0, 1, 102, 103] rfl) ?_ ?_ ?_
        rotate_left 1
        ·
         intro hg30
         refine RL.gq rfl rfl (Yld.move rfl) rfl ?_
         refine RL.gq rfl rfl (Yld.bin rfl rfl BinV.eql) rfl ?_
         refine RL.q Yld.pk rfl ?_
         exact RL.nil (N.meet (.to rfl) (.to rfl))
        ·
         intro hg30
         refine RL.gskip rfl rfl rfl rfl ?_
         refine RL.gskip rfl rfl rfl rfl ?_
         refine RL.q Yld.pk rfl ?_
         exact RL.nil (N.meet (.to rfl) (.to rfl))
        refine RL.q (Yld.assign rfl) rfl (RL.nil (N.next ?_))
        refine W.keep (.of [4] rfl) (.of [0, 1, 102, 103] rfl) ?_
        refine W.ret ?_
        refine N.block_ret ?_
        refine N.then_ret ?_
        exact N.retBy [1] (.cons (.tmp rfl) .nil) rfl rfl rfl rfl ⟨by show Value.bool _ = Value.bool _; congr 1; rw [Bool.eq_iff_iff]; simp only [Bool.or_eq_true, Bool.false_eq_true, false_iff, decide_eq_true_eq]; unfold kdFit; omega, rfl⟩
       ·
        refine W.skip ?_
        refine N.block_normal ?_
        refine N.next ?_
        refine W.keep .nil (.of [0, 1, 102, 103] rfl) ?_
        refine W.seq (W.region ?_)
        refine RL.q (Yld.assign rfl) rfl (RL.nil (N.next ?_))
        refine W.ret ?_
        exact N.retBy [1] (.cons (.tmp rfl) .nil) rfl rfl rfl rfl ⟨by show Value.bool _ = Value.bool _; congr 1; rw [Bool.eq_iff_iff]; simp only [Bool.or_eq_true, Bool.false_eq_true, false_iff, decide_eq_true_eq]; unfold kdFit; omega, rfl⟩
  ·
   refine W.region ?_
   refine RL.q (Yld.bin rfl rfl BinV.eql) rfl ?_
   refine RL.q (Yld.assign rfl) rfl (RL.nil (N.next ?_))
   refine W.keep (.of [5, 11, 12] rfl) (.of [0, 1, 102, 103] rfl) ?_
   first | refine W.condD rfl (fun hc12 => ?_) (fun hc12 => ?_) | (refine W.cond rfl (fun hc12 => ?_) (fun hc12 => ?_) <;> try simp only [Bool.or_eq_true, Bool.and_eq_true, Bool.not_eq_true', Bool.not_eq_false', decide_eq_true_eq, Bool.or_eq_false_iff, Bool.and_eq_false_iff, decide_eq_false_iff_not, beq_iff_eq, beq_eq_false_iff_ne, ne_eq, Decidable.not_not] at hc12)
   ·
    refine W.seq (W.region ?_)
    refine RL.q (Yld.move rfl) rfl ?_
    refine RL.q (Yld.bin rfl rfl BinV.eql) rfl ?_
    refine RL.q (Yld.assign rfl) rfl (RL.nil (N.next ?_))
    refine W.keep (.of [4] rfl) (.of [0, 1, 102, 103] rfl) ?_
    refine W.ret ?_
    refine N.block_ret ?_
    refine N.then_ret ?_
    exact N.retBy [1] (.cons (.tmp rfl) .nil) rfl rfl rfl rfl ⟨by show Value.bool _ = Value.bool _; congr 1; rw [Bool.eq_iff_iff]; simp only [Bool.or_eq_true, Bool.false_eq_true, false_iff, decide_eq_true_eq]; unfold kdFit; omega, rfl⟩
   ·
    refine W.seq (W.region ?_)
    refine RL.q (Yld.bin rfl rfl BinV.eql) rfl ?_
    refine RL.q (Yld.assign rfl) rfl (RL.nil (N.next ?_))
    first | refine W.condD rfl (fun hc17 => ?_) (fun hc17 => ?_) | (refine W.cond rfl (fun hc17 => ?_) (fun hc17 => ?_) <;> try simp only [Bool.or_eq_true, Bool.and_eq_true, Bool.not_eq_true', Bool.not_eq_false', decide_eq_true_eq, Bool.or_eq_false_iff, Bool.and_eq_false_iff, decide_eq_false_iff_not, beq_iff_eq, beq_eq_false_iff_ne, ne_eq, Decidable.not_not] at hc17)
    ·
     refine W.seq (W.region ?_)
     refine RL.q (Yld.move rfl) rfl ?_
     refine RL.q (Yld.bin rfl rfl BinV.eql) rfl ?_
     refine RL.q (Yld.assign rfl) rfl (RL.nil (N.next ?_))
     refine W.keep (.of [4] rfl) (.of [0, 1, 102, 103] rfl) ?_
     refine W.ret ?_
     refine N.block_ret ?_
     refine N.then_ret ?_
     exact N.retBy [1] (.cons (.tmp rfl) .nil) rfl rfl rfl rfl ⟨by show Value.bool _ = Value.bool _; congr 1; rw [Bool.eq_iff_iff]; simp only [Bool.or_eq_true, Bool.false_eq_true, false_iff, decide_eq_true_eq]; unfold kdFit; omega, rfl⟩
    ·
     refine W.seq (W.region ?_)
     refine RL.q (Yld.bin rfl rfl BinV.eql) rfl ?_
     refine RL.q (Yld.assign rfl) rfl (RL.nil (N.next ?_))
     refine W.keep (.of [5, 11, 21] rfl) (.of [0, 1, 102, 103] rfl) ?_
     first | refine W.condD rfl (fun hc21 => ?_) (fun hc21 => ?_) | (refine W.cond rfl (fun hc21 => ?_) (fun hc21 => ?_) <;> try simp only [Bool.or_eq_true, Bool.and_eq_true, Bool.not_eq_true', Bool.not_eq_false', decide_eq_true_eq, Bool.or_eq_false_iff, Bool.and_eq_false_iff, decide_eq_false_iff_not, beq_iff_eq, beq_eq_false_iff_ne, ne_eq, Decidable.not_not] at hc21)
     ·
      refine W.seq (W.region ?_)
      refine RL.q (Yld.move rfl) rfl ?_
      refine RL.q (Yld.bin rfl rfl BinV.eql) rfl ?_
      refine RL.q (Yld.assign rfl) rfl (RL.nil (N.next ?_))
      refine W.keep (.of [4] rfl) (.of [0, 1, 102, 103] rfl) ?_
      refine W.ret ?_
      refine N.block_ret ?_
      refine N.then_ret ?_
      exact N.retBy [1] (.cons (.tmp rfl) .nil) rfl rfl rfl rfl ⟨by show Value.bool _ = Value.bool _; congr 1; rw [Bool.eq_iff_iff]; simp only [Bool.or_eq_true, Bool.false_eq_true, false_iff, decide_eq_true_eq]; unfold kdFit; omega, rfl⟩
     ·
      refine W.seq ?_
      refine W.seq (W.region ?_)
      refine RL.q (Yld.bin rfl rfl BinV.eql) rfl ?_
      refine RL.q (Yld.assign rfl) rfl (RL.nil (N.next ?_))
      first | refine W.condD rfl (fun hc25 => ?_) (fun hc25 => ?_) | (refine W.cond rfl (fun hc25 => ?_) (fun hc25 => ?_) <;> try simp only [Bool.or_eq_true, Bool.and_eq_true, Bool.not_eq_true', Bool.not_eq_false', decide_eq_true_eq, Bool.or_eq_false_iff, Bool.and_eq_false_iff, decide_eq_false_iff_not, beq_iff_eq, beq_eq_false_iff_ne, ne_eq, Decidable.not_not] at hc25)
      ·
       refine W.skip ?_
       refine N.next ?_
       first | refine W.condD rfl (fun hc25 => ?_) (fun hc25 => ?_) | (refine W.cond rfl (fun hc25 => ?_) (fun hc25 => ?_) <;> try simp only [Bool.or_eq_true, Bool.and_eq_true, Bool.not_eq_true', Bool.not_eq_false', decide_eq_true_eq, Bool.or_eq_false_iff, Bool.and_eq_false_iff, decide_eq_false_iff_not, beq_iff_eq, beq_eq_false_iff_ne, ne_eq, Decidable.not_not] at hc25)
       ·
        refine W.seq (W.region ?_)
        refine RL.q (Yld.move rfl) rfl ?_
        refine RL.q (Yld.bin rfl rfl BinV.eql) rfl ?_
        refine RL.q (Yld.move rfl) rfl ?_
        refine' RL.or (t := 30) (d := 33) 3 rfl (.of [5, 11, 21, 25, 26, 28, 29] rfl) (.of [0, 1, 102, 103] rfl) ?_ ?_ ?_
        rotate_left 1
        ·
         intro hg30
         refine RL.gq rfl rfl (Yld.move rfl) rfl ?_
         refine RL.gq rfl rfl (Yld.bin rfl rfl BinV.eql) rfl ?_
         refine RL.q Yld.pk rfl ?_
         exact RL.nil (N.meet (.to rfl) (.to rfl))
        ·
         intro hg30
         refine RL.gskip rfl rfl rfl rfl ?_
         refine RL.gskip rfl rfl rfl rfl ?_
         refine RL.q Yld.pk rfl ?_
         exact RL.nil (N.meet (.to rfl) (.to rfl))
        refine RL.q (Yld.assign rfl) rfl (RL.nil (N.next ?_))
        refine W.keep (.of [4] rfl) (.of [0, 1, 102, 103] rfl) ?_
        refine W.ret ?_
        refine N.block_ret ?_
        refine N.then_ret ?_
        exact N.retBy [1] (.cons (.tmp rfl) .nil) rfl rfl rfl rfl ⟨by show Value.bool _ = Value.bool _; congr 1; rw [Bool.eq_iff_iff]; simp only [Bool.or_eq_true, Bool.false_eq_true, false_iff, decide_eq_true_eq]; unfold kdFit; omega, rfl⟩
       ·
        refine W.skip ?_
        refine N.block_normal ?_
        refine N.next ?_
        refine W.keep .nil (.of [0, 1, 102, 103] rfl) ?_
        refine W.seq (W.region ?_)
        refine RL.q (Yld.assign rfl) rfl (RL.nil (N.next ?_))
        refine W.ret ?_
        exact N.retBy [1] (.cons (.tmp rfl) .nil) rfl rfl rfl rfl ⟨by show Value.bool _ = Value.bool _; congr 1; rw [Bool.eq_iff_iff]; simp only [Bool.or_eq_true, Bool.false_eq_true, false_iff, decide_eq_true_eq]; unfold kdFit; omega, rfl⟩
      ·
       refine W.region ?_
       refine RL.q (Yld.bin rfl rfl BinV.eql) rfl ?_
       refine RL.q (Yld.assign rfl) rfl (RL.nil (N.next ?_))
       refine W.keep (.of [5, 25] rfl) (.of [0, 1, 102, 103] rfl) ?_
       first | refine W.condD rfl (fun hc25 => ?_) (fun hc25 => ?_) | (refine W.cond rfl (fun hc25 => ?_) (fun hc25 => ?_) <;> try simp only [Bool.or_eq_true, Bool.and_eq_true, Bool.not_eq_true', Bool.not_eq_false', decide_eq_true_eq, Bool.or_eq_false_iff, Bool.and_eq_false_iff, decide_eq_false_iff_not, beq_iff_eq, beq_eq_false_iff_ne, ne_eq, Decidable.not_not] at hc25)
       ·
        refine W.seq (W.region ?_)
        refine RL.q (Yld.move rfl) rfl ?_
        refine RL.q (Yld.bin rfl rfl BinV.eql) rfl ?_
        refine RL.q (Yld.move rfl) rfl ?_
        refine' RL.or (t := 30) (d := 33) 3 rfl (.of [5, 25, 28, 29] rfl) (.of [0, 1, 102, 103] rfl) ?_ ?_ ?_
        rotate_left 1
        ·
         intro hg30
         refine RL.gq rfl rfl (Yld.move rfl) rfl ?_
         refine RL.gq rfl rfl (Yld.bin rfl rfl BinV.eql) rfl ?_
         refine RL.q Yld.pk rfl ?_
         exact RL.nil (N.meet (.to rfl) (.to rfl))
        ·
         intro hg30
         refine RL.gskip rfl rfl rfl rfl ?_
         refine RL.gskip rfl rfl rfl rfl ?_
         refine RL.q Yld.pk rfl ?_
         exact RL.nil (N.meet (.to rfl) (.to rfl))
        refine RL.q (Yld.assign rfl) rfl (RL.nil (N.next ?_))
        refine W.keep (.of [4] rfl) (.of [0, 1, 102, 103] rfl) ?_
        refine W.ret ?_
        refine N.block_ret ?_
        refine N.then_ret ?_
        exact N.retBy [1] (.cons (.tmp rfl) .nil) rfl rfl rfl rfl ⟨by show Value.bool _ = Value.bool _; congr 1; rw [Bool.eq_iff_iff]; simp only [Bool.or_eq_true, Bool.false_eq_true, false_iff, decide_eq_true_eq]; unfold kdFit; omega, rfl⟩
       ·
        refine W.skip ?_
        refine N.block_normal ?_
        refine N.next ?_
        refine W.seq (W.region ?_)
        refine RL.q (Yld.assign rfl) rfl (RL.nil (N.next ?_))
        refine W.ret ?_
        exact N.retBy [1] (.cons (.tmp rfl) .nil) rfl rfl rfl rfl ⟨by show Value.bool _ = Value.bool _; congr 1; rw [Bool.eq_iff_iff]; simp only [Bool.or_eq_true, Bool.false_eq_true, false_iff, decide_eq_true_eq]; unfold kdFit; omega, rfl⟩
end Go.Proofs.YtboapdcmaeojgaaGreatDoor
namespace Go.Proofs.YtboapdcmaeojgaaGreatDoor
open SL Cat Fen
set_option linter.unusedVariables false
set_option linter.unusedSimpArgs false
theorem ent52 : Ent Tryz.prog 52 := ⟨_, _, Tryz.func52, by kernel_rfl, rfl⟩
theorem ent147 : Ent Tryz.prog 147 := ⟨_, _, Tryz.func147, by kernel_rfl, rfl⟩
theorem ent148 : Ent Tryz.prog 148 := ⟨_, _, Tryz.func148, by kernel_rfl, rfl⟩
theorem ent149 : Ent Tryz.prog 149 := ⟨_, _, Tryz.func149, by kernel_rfl, rfl⟩
theorem fvU_t {us : List U} {it : Int} {u : U} (h : fvU us it = (u, true)) : fndU us it = some u := by
  unfold fvU at h
  split at h
  · rename_i w hw; rw [hw]; cases h; rfl
  · cases h
theorem fvU_f {us : List U} {it : Int} {u : U} (h : fvU us it = (u, false)) : fndU us it = none := by
  unfold fvU at h
  split at h
  · cases h
  · assumption
set_option maxRecDepth 100000 in
set_option maxHeartbeats 3200000 in
theorem rexecute_ct (m : Md) (H1 : PH) (hM : m.In H1) (x : Rt) (mach : Int) (hx : x.In) (c : Cm) (hI : Inv (kdOf m) mach x.us) (hf : Fits (kdOf m c.it) mach c) (hb : x.us.length ≤ 900000) : Ct Tryz.prog 104 [.agg [.slice m.psi m.si.length m.csi, .slice m.pfe m.fe.length m.cfe, .slice m.prk m.rk.length m.crk, .slice m.pmc m.mc.length m.cmc, .slice m.pln m.ln.length m.cln, .slice m.pis m.is.length m.cis, .int .i64 m.da, .int .i64 m.sl, .int .i64 m.re, .int .i64 m.fa, .slice m.prl m.rl.length m.crl].toArray, .agg [.int .i64 mach, .slice x.pu x.us.length x.cu, .int .i64 x.gen, .slice x.ps x.st.length x.cs, .slice x.pv x.va.length x.cv, .slice x.pc x.cl.length x.cc].toArray, .agg [.int .i64 c.kd, .int .i64 c.it, .int .i64 c.rp, .int .i64 c.va].toArray] [H1, x.HU, x.HC] (fun v Hs => ∃ H' p' c', v = .tuple [.agg [.int .i64 mach, .slice (x.setU p' c' (execP (decide (kdOf m c.it = 2)) x.us x.cl c).1 H').pu (x.setU p' c' (execP (decide (kdOf m c.it = 2)) x.us x.cl c).1 H').us.length (x.setU p' c' (execP (decide (kdOf m c.it = 2)) x.us x.cl c).1 H').cu, .int .i64 (x.setU p' c' (execP (decide (kdOf m c.it = 2)) x.us x.cl c).1 H').gen, .slice (x.setU p' c' (execP (decide (kdOf m c.it = 2)) x.us x.cl c).1 H').ps (x.setU p' c' (execP (decide (kdOf m c.it = 2)) x.us x.cl c).1 H').st.length (x.setU p' c' (execP (decide (kdOf m c.it = 2)) x.us x.cl c).1 H').cs, .slice (x.setU p' c' (execP (decide (kdOf m c.it = 2)) x.us x.cl c).1 H').pv (x.setU p' c' (execP (decide (kdOf m c.it = 2)) x.us x.cl c).1 H').va.length (x.setU p' c' (execP (decide (kdOf m c.it = 2)) x.us x.cl c).1 H').cv, .slice (x.setU p' c' (execP (decide (kdOf m c.it = 2)) x.us x.cl c).1 H').pc (x.setU p' c' (execP (decide (kdOf m c.it = 2)) x.us x.cl c).1 H').cl.length (x.setU p' c' (execP (decide (kdOf m c.it = 2)) x.us x.cl c).1 H').cc].toArray, .int .i64 (execP (decide (kdOf m c.it = 2)) x.us x.cl c).2.1, .int .i64 (execP (decide (kdOf m c.it = 2)) x.us x.cl c).2.2].toArray ∧ Sl H' p' c' 5 ((execP (decide (kdOf m c.it = 2)) x.us x.cl c).1.map U.c) ∧ Hs = [H1, H', x.HC]) := by
  refine Ct.body Tryz.func104 rfl Tryz.ntmps104 rfl ?_
  intro E F
  have hkf := hf.1
  unfold kdFit at hkf
  refine W.seq (W.region ?_)
  refine RL.e (Eff.box 103 _ rfl rfl) rfl ?_
  rintro _ _ ⟨b3, rfl, rfl⟩
  refine RL.e (Eff.box 104 _ rfl rfl) rfl ?_
  rintro _ _ ⟨b4, rfl, rfl⟩
  refine RL.e (Eff.box 105 _ rfl rfl) rfl ?_
  rintro _ _ ⟨b5, rfl, rfl⟩
  refine RL.e (Eff.alloc 106 zc59) rfl ?_
  rintro _ _ ⟨b6, rfl, rfl⟩
  refine RL.q (Yld.assign rfl) rfl (RL.q (Yld.assign rfl) rfl (RL.nil (N.next ?_)))
  refine W.keep (.of [3, 4, 5, 6] rfl) (.of [0, 1, 2, 3, 103, 104, 105, 106] rfl) ?_
  refine W.seq (W.region ?_)
  refine RL.q (Yld.ldW 104 Tryz.underlying59 sz59 rfl rfl rfl rfl) rfl ?_
  refine RL.q (Yld.fieldAddr fo36_1 rfl) rfl ?_
  refine RL.q (Yld.ld 105 Tryz.underlying3 rfl rfl rfl rfl) rfl ?_
  refine RL.e (Eff.call ent52 [2] [2] (.cons rfl (.cons rfl .nil)) (rfind_ct x mach hx c.it) rfl rfl rfl rfl (by rintro _ _ ⟨_, rfl⟩; rfl)) rfl ?_
  rintro _ _ ⟨_, ⟨rfl, rfl⟩, rfl⟩
  obtain ⟨⟨u, ub⟩, hfu⟩ : ∃ q, fvU x.us c.it = q := ⟨_, rfl⟩
  rw [hfu]
  refine RL.q (Yld.move rfl) rfl ?_
  refine RL.q (Yld.extract rfl rfl) rfl ?_
  refine RL.q (Yld.extract rfl rfl) rfl ?_
  refine RL.e (Eff.alloc 109 zc48) rfl ?_
  rintro _ _ ⟨b9, rfl, rfl⟩
  refine RL.e0 (Eff.storeS (c := 109) _ sz48 rfl rfl rfl rfl rfl rfl rfl (by (try simp only [putAt, List.take, List.drop, List.nil_append, List.cons_append, List.append_nil, List.length_cons, List.length_nil, Nat.add_zero, Nat.zero_add, Nat.reduceAdd]); rfl)) ?_
  rintro _ _ rfl
  refine RL.q (Yld.assign rfl) rfl (RL.nil (N.next ?_))
  refine W.keep (.of [3, 4, 5, 6, 9, 10] rfl) (.of [0, 1, 2, 3, 103, 104, 105, 106, 109] rfl) ?_
  refine W.seq ?_
  refine W.seq (W.region ?_)
  refine RL.q (Yld.fieldAddr fo36_0 rfl) rfl ?_
  refine RL.q (Yld.ld 105 Tryz.underlying3 rfl rfl rfl rfl) rfl ?_
  refine RL.nil (N.next ?_)
  refine W.block ?_
  refine W.seq (W.region ?_)
  refine RL.q (Yld.bin rfl rfl BinV.eql) rfl ?_
  refine RL.q (Yld.assign rfl) rfl (RL.nil (N.next ?_))
  first | refine W.condD rfl (fun hc23 => ?_) (fun hc23 => ?_) | (refine W.cond rfl (fun hc23 => ?_) (fun hc23 => ?_) <;> try simp only [Bool.or_eq_true, Bool.and_eq_true, Bool.not_eq_true', Bool.not_eq_false', decide_eq_true_eq, Bool.or_eq_false_iff, Bool.and_eq_false_iff, decide_eq_false_iff_not, beq_iff_eq, beq_eq_false_iff_ne, ne_eq, Decidable.not_not] at hc23)
  ·
   have hk := hc23
   refine W.seq (W.region ?_)
   refine RL.q (Yld.ldW 104 Tryz.underlying59 sz59 rfl rfl rfl rfl) rfl ?_
   refine RL.q (Yld.fieldAddr fo36_1 rfl) rfl ?_
   refine RL.q (Yld.ld 105 Tryz.underlying3 rfl rfl rfl rfl) rfl ?_
   refine RL.q (Yld.fieldAddr fo36_2 rfl) rfl ?_
   refine RL.q (Yld.ld 105 Tryz.underlying3 rfl rfl rfl rfl) rfl ?_
   refine RL.e (Eff.call ent147 [2] [2] (.cons rfl (.cons rfl (.cons rfl .nil))) (rreplica_ct x mach hx (kdOf m) hI c.it c.rp) rfl rfl rfl rfl (by rintro _ _ ⟨_, _, _, _, _, rfl⟩; rfl)) rfl ?_
   rintro _ _ ⟨_, ⟨y, mx, rfl, hR, rfl⟩, rfl⟩
   refine RL.q (Yld.move rfl) rfl ?_
   refine RL.q (Yld.extract rfl rfl) rfl ?_
   refine RL.q (Yld.extract rfl rfl) rfl ?_
   refine RL.q (Yld.extract rfl rfl) rfl ?_
   refine RL.e (Eff.alloc 111 zc48) rfl ?_
   rintro _ _ ⟨b11, rfl, rfl⟩
   refine RL.e0 (Eff.storeS (c := 111) _ sz48 rfl rfl rfl rfl rfl rfl rfl (by (try simp only [putAt, List.take, List.drop, List.nil_append, List.cons_append, List.append_nil, List.length_cons, List.length_nil, Nat.add_zero, Nat.zero_add, Nat.reduceAdd]); rfl)) ?_
   rintro _ _ rfl
   refine RL.q (Yld.assign rfl) rfl (RL.q (Yld.assign rfl) rfl (RL.nil (N.next ?_)))
   refine W.keep (.of [4, 5, 6, 9, 10, 11, 12, 13] rfl) (.of [0, 1, 2, 3, 103, 104, 105, 106, 109, 111] rfl) ?_
   refine W.seq ?_
   refine W.seq (W.region ?_)
   refine RL.q (Yld.move rfl) rfl (RL.q (Yld.move rfl) rfl ?_)
   refine' RL.and (t := 36) (d := 40) 4 rfl (.of [4, 5, 6, 9, 10, 11, 12, 13, 35] rfl) (.of [0, 1, 2, 3, 103, 104, 105, 106, 109, 111] rfl) ?_ ?_ ?_
   rotate_left 1
   ·
    intro hg36
    refine RL.gq rfl rfl (Yld.fieldAddr fo48_2 rfl) rfl ?_
    refine RL.gq rfl rfl (Yld.ld 111 Tryz.underlying3 rfl rfl rfl rfl) rfl ?_
    refine RL.gq rfl rfl (Yld.bin rfl rfl BinV.eql) rfl ?_
    refine RL.q Yld.pk rfl ?_
    exact RL.nil (N.meet (.to rfl) (.to rfl))
   ·
    intro hg36
    refine RL.gskip rfl rfl rfl rfl ?_
    refine RL.gskip rfl rfl rfl rfl ?_
    refine RL.gskip rfl rfl rfl rfl ?_
    refine RL.q Yld.pk rfl ?_
    exact RL.nil (N.meet (.to rfl) (.to rfl))
   refine RL.nil (N.next ?_)
   refine W.cond rfl (fun hc40 => ?_) (fun hc40 => ?_)
   ·
    obtain ⟨y2, rfl⟩ : ∃ y2, y = some y2 := by
      cases y with
      | none => cases hc40
      | some y2 => exact ⟨_, rfl⟩
    have hex : (execP (decide (kdOf m c.it = 2)) x.us x.cl c) = (x.us, 0, 0) := exO_run hI hf hk hR (by simpa using hc40)
    refine W.seq (W.region ?_)
    refine RL.q (Yld.ldW 104 Tryz.underlying59 sz59 rfl rfl rfl rfl) rfl ?_
    refine RL.e0 (Eff.storeS (c := 106) _ sz59 rfl rfl rfl rfl rfl rfl rfl (by (try simp only [putAt, List.take, List.drop, List.nil_append, List.cons_append, List.append_nil, List.length_cons, List.length_nil, Nat.add_zero, Nat.zero_add, Nat.reduceAdd]); rfl)) ?_
    rintro _ _ rfl
    refine RL.q (Yld.assign rfl) rfl (RL.q (Yld.assign rfl) rfl (RL.nil (N.next ?_)))
    refine W.keep (.of [6, 7, 8] rfl) (.of [0, 1, 2, 3, 103, 104, 105, 106, 109, 111] rfl) ?_
    refine W.ret ?_
    refine N.then_ret ?_
    refine N.block_ret ?_
    refine N.then_ret ?_
    exact N.retBy [1, 2, 3] (.cons (by first | exact .cell (c := 106) rfl rfl (fun w hs => run_loadVarA Tryz.underlying59 rfl sz59 rfl (fun j u hj => by rw [Nat.zero_add, PH.sub.cell hs (by first | exact single_self _ _ | exact pset_self _ _ _ | assumption)]; exact hj))) (.cons (.tmp rfl) (.cons (.tmp rfl) .nil))) rfl rfl rfl rfl ⟨x.HU, x.pu, x.cu, by rw [hex]; rfl, by rw [hex]; exact hx.u, rfl⟩
   ·
    refine W.skip ?_
    refine N.next ?_
    refine W.seq ?_
    refine W.seq (W.region ?_)
    refine RL.q (Yld.move rfl) rfl (RL.q (Yld.move rfl) rfl ?_)
    refine' RL.or (t := 43) (d := 48) 5 rfl (.of [4, 5, 6, 9, 10, 11, 12, 13, 35, 40, 42] rfl) (.of [0, 1, 2, 3, 103, 104, 105, 106, 109, 111] rfl) ?_ ?_ ?_
    rotate_left 1
    ·
     intro hg43
     refine RL.gq rfl rfl (Yld.move rfl) rfl ?_
     refine RL.gq rfl rfl (Yld.fieldAddr fo36_2 rfl) rfl ?_
     refine RL.gq rfl rfl (Yld.ld 105 Tryz.underlying3 rfl rfl rfl rfl) rfl ?_
     refine RL.gq rfl rfl (Yld.bin rfl rfl BinV.gtr) rfl ?_
     refine RL.q Yld.pk rfl ?_
     exact RL.nil (N.meet (.to rfl) (.to rfl))
    ·
     intro hg43
     refine RL.gskip rfl rfl rfl rfl ?_
     refine RL.gskip rfl rfl rfl rfl ?_
     refine RL.gskip rfl rfl rfl rfl ?_
     refine RL.gskip rfl rfl rfl rfl ?_
     refine RL.q Yld.pk rfl ?_
     exact RL.nil (N.meet (.to rfl) (.to rfl))
    refine RL.nil (N.next ?_)
    refine W.keep (.of [4, 5, 6, 9, 10, 48] rfl) (.of [0, 1, 2, 3, 103, 104, 105, 106, 109, 111] rfl) ?_
    refine W.cond rfl (fun hc48 => ?_) (fun hc48 => ?_)
    ·
     have hex : (execP (decide (kdOf m c.it = 2)) x.us x.cl c) = (x.us, 9, 0) := exO_bad hI hf hk hR (by
       cases y with
       | none => exact .inr ⟨rfl, by simpa using hc48⟩
       | some y2 => exact .inl ⟨y2, rfl, fun h => by simp [h] at hc40⟩)
     refine W.seq (W.region ?_)
     refine RL.q (Yld.ldW 104 Tryz.underlying59 sz59 rfl rfl rfl rfl) rfl ?_
     refine RL.e0 (Eff.storeS (c := 106) _ sz59 rfl rfl rfl rfl rfl rfl rfl (by (try simp only [putAt, List.take, List.drop, List.nil_append, List.cons_append, List.append_nil, List.length_cons, List.length_nil, Nat.add_zero, Nat.zero_add, Nat.reduceAdd]); rfl)) ?_
     rintro _ _ rfl
     refine RL.q (Yld.assign rfl) rfl (RL.q (Yld.assign rfl) rfl (RL.nil (N.next ?_)))
     refine W.keep (.of [6, 7, 8] rfl) (.of [0, 1, 2, 3, 103, 104, 105, 106, 109, 111] rfl) ?_
     refine W.ret ?_
     refine N.then_ret ?_
     refine N.block_ret ?_
     refine N.then_ret ?_
     exact N.retBy [1, 2, 3] (.cons (by first | exact .cell (c := 106) rfl rfl (fun w hs => run_loadVarA Tryz.underlying59 rfl sz59 rfl (fun j u hj => by rw [Nat.zero_add, PH.sub.cell hs (by first | exact single_self _ _ | exact pset_self _ _ _ | assumption)]; exact hj))) (.cons (.tmp rfl) (.cons (.tmp rfl) .nil))) rfl rfl rfl rfl ⟨x.HU, x.pu, x.cu, by rw [hex]; rfl, by rw [hex]; exact hx.u, rfl⟩
    ·
     obtain rfl : y = none := by
       cases y with
       | none => rfl
       | some y2 => cases hc48
     have hmx : ¬ c.rp < mx := by simpa using hc48
     refine W.skip ?_
     refine N.next ?_
     refine W.seq ?_
     refine W.seq (W.region ?_)
     refine RL.q (Yld.move rfl) rfl (RL.nil (N.next ?_))
     refine W.cond rfl (fun hc50 => ?_) (fun hc50 => ?_)
     ·
      have hfu2 := fvU_t (hfu.trans (congrArg (Prod.mk u) (show ub = true from hc50)))
      have hex : (execP (decide (kdOf m c.it = 2)) x.us x.cl c) = (putR (putR x.us { u with st := 3 }) ⟨c.it, c.rp, 0, 0, 0⟩, 0, 0) := exO_put2 hI hk hR hmx hfu2
      refine W.region ?_
      refine RL.q (Yld.ldW 104 Tryz.underlying59 sz59 rfl rfl rfl rfl) rfl ?_
      refine RL.q (Yld.ldW 109 Tryz.underlying48 sz48 rfl rfl rfl rfl) rfl ?_
      refine RL.e (Eff.call ent148 [2] [2] (.cons rfl (.cons rfl (.cons rfl .nil))) (rwith_ct x mach hx u 3 (by omega)) rfl rfl rfl rfl (by rintro _ _ ⟨_, _, _, _, _, rfl⟩; rfl)) rfl ?_
      rintro _ _ ⟨_, ⟨Hw, pw, cw, rfl, hSw, rfl⟩, rfl⟩
      refine RL.e0 (Eff.storeS (c := 104) _ sz59 rfl rfl rfl rfl rfl rfl rfl (by (try simp only [putAt, List.take, List.drop, List.nil_append, List.cons_append, List.append_nil, List.length_cons, List.length_nil, Nat.add_zero, Nat.zero_add, Nat.reduceAdd]); rfl)) ?_
      rintro _ _ rfl
      refine RL.nil (N.next ?_)
      refine W.keep (.of [4, 5, 6] rfl) (.of [0, 1, 2, 3, 103, 104, 105, 106, 109, 111] rfl) ?_
      refine W.seq (W.region ?_)
      refine RL.q (Yld.ldW 104 Tryz.underlying59 sz59 rfl rfl rfl rfl) rfl ?_
      refine RL.q (Yld.fieldAddr fo36_1 rfl) rfl ?_
      refine RL.q (Yld.ld 105 Tryz.underlying3 rfl rfl rfl rfl) rfl ?_
      refine RL.q (Yld.fieldAddr fo36_2 rfl) rfl ?_
      refine RL.q (Yld.ld 105 Tryz.underlying3 rfl rfl rfl rfl) rfl ?_
      refine RL.q (Yld.buildP lay48 (.cons rfl rfl (.cons rfl rfl .nil)) rfl) rfl ?_
      refine RL.e (Eff.call ent148 [2] [2] (.cons rfl (.cons rfl (.cons rfl .nil))) (rwith_ct (x.setU pw cw (putR x.us { u with st := 3 }) Hw) mach (hx.setU hSw) ⟨c.it, c.rp, 0, 0, 0⟩ 0 (by show (putR x.us { u with st := 3 }).length ≤ 1000000; have := putR_len x.us { u with st := 3 }; omega)) rfl rfl rfl rfl (by rintro _ _ ⟨_, _, _, _, _, rfl⟩; rfl)) rfl ?_
      rintro _ _ ⟨_, ⟨Hz, pz, cz, rfl, hSz, rfl⟩, rfl⟩
      refine RL.e0 (Eff.storeS (c := 106) _ sz59 rfl rfl rfl rfl rfl rfl rfl (by (try simp only [putAt, List.take, List.drop, List.nil_append, List.cons_append, List.append_nil, List.length_cons, List.length_nil, Nat.add_zero, Nat.zero_add, Nat.reduceAdd]); rfl)) ?_
      rintro _ _ rfl
      refine RL.q (Yld.assign rfl) rfl (RL.q (Yld.assign rfl) rfl (RL.nil (N.next ?_)))
      refine W.keep (.of [6, 7, 8] rfl) (.of [0, 1, 2, 3, 103, 104, 105, 106, 109, 111] rfl) ?_
      refine W.ret ?_
      refine N.block_ret ?_
      refine N.then_ret ?_
      exact N.retBy [1, 2, 3] (.cons (by first | exact .cell (c := 106) rfl rfl (fun w hs => run_loadVarA Tryz.underlying59 rfl sz59 rfl (fun j u hj => by rw [Nat.zero_add, PH.sub.cell hs (by first | exact single_self _ _ | exact pset_self _ _ _ | assumption)]; exact hj))) (.cons (.tmp rfl) (.cons (.tmp rfl) .nil))) rfl rfl rfl rfl ⟨Hz, pz, cz, by rw [hex]; rfl, by rw [hex]; exact hSz, rfl⟩
     ·
      have hfu2 := fvU_f (hfu.trans (congrArg (Prod.mk u) (show ub = false from hc50)))
      have hex : (execP (decide (kdOf m c.it = 2)) x.us x.cl c) = (putR x.us ⟨c.it, c.rp, 0, 0, 0⟩, 0, 0) := exO_put hk hR hmx hfu2
      refine W.skip ?_
      refine N.next ?_
      refine W.keep (.of [4, 5, 6] rfl) (.of [0, 1, 2, 3, 103, 104, 105, 106, 109, 111] rfl) ?_
      refine W.seq (W.region ?_)
      refine RL.q (Yld.ldW 104 Tryz.underlying59 sz59 rfl rfl rfl rfl) rfl ?_
      refine RL.q (Yld.fieldAddr fo36_1 rfl) rfl ?_
      refine RL.q (Yld.ld 105 Tryz.underlying3 rfl rfl rfl rfl) rfl ?_
      refine RL.q (Yld.fieldAddr fo36_2 rfl) rfl ?_
      refine RL.q (Yld.ld 105 Tryz.underlying3 rfl rfl rfl rfl) rfl ?_
      refine RL.q (Yld.buildP lay48 (.cons rfl rfl (.cons rfl rfl .nil)) rfl) rfl ?_
      refine RL.e (Eff.call ent148 [2] [2] (.cons rfl (.cons rfl (.cons rfl .nil))) (rwith_ct x mach hx ⟨c.it, c.rp, 0, 0, 0⟩ 0 (by omega)) rfl rfl rfl rfl (by rintro _ _ ⟨_, _, _, _, _, rfl⟩; rfl)) rfl ?_
      rintro _ _ ⟨_, ⟨Hw, pw, cw, rfl, hSw, rfl⟩, rfl⟩
      refine RL.e0 (Eff.storeS (c := 106) _ sz59 rfl rfl rfl rfl rfl rfl rfl (by (try simp only [putAt, List.take, List.drop, List.nil_append, List.cons_append, List.append_nil, List.length_cons, List.length_nil, Nat.add_zero, Nat.zero_add, Nat.reduceAdd]); rfl)) ?_
      rintro _ _ rfl
      refine RL.q (Yld.assign rfl) rfl (RL.q (Yld.assign rfl) rfl (RL.nil (N.next ?_)))
      refine W.keep (.of [6, 7, 8] rfl) (.of [0, 1, 2, 3, 103, 104, 105, 106, 109, 111] rfl) ?_
      refine W.ret ?_
      refine N.block_ret ?_
      refine N.then_ret ?_
      exact N.retBy [1, 2, 3] (.cons (by first | exact .cell (c := 106) rfl rfl (fun w hs => run_loadVarA Tryz.underlying59 rfl sz59 rfl (fun j u hj => by rw [Nat.zero_add, PH.sub.cell hs (by first | exact single_self _ _ | exact pset_self _ _ _ | assumption)]; exact hj))) (.cons (.tmp rfl) (.cons (.tmp rfl) .nil))) rfl rfl rfl rfl ⟨Hw, pw, cw, by rw [hex]; rfl, by rw [hex]; exact hSw, rfl⟩
  ·
   refine W.seq (W.region ?_)
   refine RL.q (Yld.bin rfl rfl BinV.eql) rfl ?_
   refine RL.q (Yld.assign rfl) rfl (RL.nil (N.next ?_))
   refine W.keep (.of [3, 4, 5, 6, 9, 10, 22, 61] rfl) (.of [0, 1, 2, 3, 103, 104, 105, 106, 109] rfl) ?_
   first | refine W.condD rfl (fun hc61 => ?_) (fun hc61 => ?_) | (refine W.cond rfl (fun hc61 => ?_) (fun hc61 => ?_) <;> try simp only [Bool.or_eq_true, Bool.and_eq_true, Bool.not_eq_true', Bool.not_eq_false', decide_eq_true_eq, Bool.or_eq_false_iff, Bool.and_eq_false_iff, decide_eq_false_iff_not, beq_iff_eq, beq_eq_false_iff_ne, ne_eq, Decidable.not_not] at hc61)
   ·
    have hk := hc61
    refine W.seq ?_
    refine W.seq (W.region ?_)
    refine RL.q (Yld.move rfl) rfl (RL.nil (N.next ?_))
    refine W.keep (.of [4, 6, 9, 63] rfl) (.of [0, 1, 2, 3, 103, 104, 105, 106, 109] rfl) ?_
    refine W.cond rfl (fun hc63 => ?_) (fun hc63 => ?_)
    ·
     have hfu2 := fvU_t (hfu.trans (congrArg (Prod.mk u) (show ub = true from hc63)))
     have hex : (execP (decide (kdOf m c.it = 2)) x.us x.cl c) = (putR x.us { u with st := 3 }, 0, 0) := ex1_some hI hk hfu2
     refine W.region ?_
     refine RL.q (Yld.ldW 104 Tryz.underlying59 sz59 rfl rfl rfl rfl) rfl ?_
     refine RL.q (Yld.ldW 109 Tryz.underlying48 sz48 rfl rfl rfl rfl) rfl ?_
     refine RL.e (Eff.call ent148 [2] [2] (.cons rfl (.cons rfl (.cons rfl .nil))) (rwith_ct x mach hx u 3 (by omega)) rfl rfl rfl rfl (by rintro _ _ ⟨_, _, _, _, _, rfl⟩; rfl)) rfl ?_
     rintro _ _ ⟨_, ⟨Hw, pw, cw, rfl, hSw, rfl⟩, rfl⟩
     refine RL.e0 (Eff.storeS (c := 104) _ sz59 rfl rfl rfl rfl rfl rfl rfl (by (try simp only [putAt, List.take, List.drop, List.nil_append, List.cons_append, List.append_nil, List.length_cons, List.length_nil, Nat.add_zero, Nat.zero_add, Nat.reduceAdd]); rfl)) ?_
     rintro _ _ rfl
     refine RL.nil (N.next ?_)
     refine W.keep (.of [4, 6] rfl) (.of [0, 1, 2, 3, 103, 104, 105, 106, 109] rfl) ?_
     refine W.seq (W.region ?_)
     refine RL.q (Yld.ldW 104 Tryz.underlying59 sz59 rfl rfl rfl rfl) rfl ?_
     refine RL.e0 (Eff.storeS (c := 106) _ sz59 rfl rfl rfl rfl rfl rfl rfl (by (try simp only [putAt, List.take, List.drop, List.nil_append, List.cons_append, List.append_nil, List.length_cons, List.length_nil, Nat.add_zero, Nat.zero_add, Nat.reduceAdd]); rfl)) ?_
     rintro _ _ rfl
     refine RL.q (Yld.assign rfl) rfl (RL.q (Yld.assign rfl) rfl (RL.nil (N.next ?_)))
     refine W.ret ?_
     refine N.block_ret ?_
     refine N.then_ret ?_
     exact N.retBy [1, 2, 3] (.cons (by first | exact .cell (c := 106) rfl rfl (fun w hs => run_loadVarA Tryz.underlying59 rfl sz59 rfl (fun j u hj => by rw [Nat.zero_add, PH.sub.cell hs (by first | exact single_self _ _ | exact pset_self _ _ _ | assumption)]; exact hj))) (.cons (.tmp rfl) (.cons (.tmp rfl) .nil))) rfl rfl rfl rfl ⟨Hw, pw, cw, by rw [hex]; rfl, by rw [hex]; exact hSw, rfl⟩
    ·
     have hfu2 := fvU_f (hfu.trans (congrArg (Prod.mk u) (show ub = false from hc63)))
     have hex : (execP (decide (kdOf m c.it = 2)) x.us x.cl c) = (x.us, 0, 0) := ex1_none hk hfu2
     refine W.skip ?_
     refine N.next ?_
     refine W.seq (W.region ?_)
     refine RL.q (Yld.ldW 104 Tryz.underlying59 sz59 rfl rfl rfl rfl) rfl ?_
     refine RL.e0 (Eff.storeS (c := 106) _ sz59 rfl rfl rfl rfl rfl rfl rfl (by (try simp only [putAt, List.take, List.drop, List.nil_append, List.cons_append, List.append_nil, List.length_cons, List.length_nil, Nat.add_zero, Nat.zero_add, Nat.reduceAdd]); rfl)) ?_
     rintro _ _ rfl
     refine RL.q (Yld.assign rfl) rfl (RL.q (Yld.assign rfl) rfl (RL.nil (N.next ?_)))
     refine W.keep (.of [6, 7, 8] rfl) (.of [0, 1, 2, 3, 103, 104, 105, 106, 109] rfl) ?_
     refine W.ret ?_
     refine N.block_ret ?_
     refine N.then_ret ?_
     exact N.retBy [1, 2, 3] (.cons (by first | exact .cell (c := 106) rfl rfl (fun w hs => run_loadVarA Tryz.underlying59 rfl sz59 rfl (fun j u hj => by rw [Nat.zero_add, PH.sub.cell hs (by first | exact single_self _ _ | exact pset_self _ _ _ | assumption)]; exact hj))) (.cons (.tmp rfl) (.cons (.tmp rfl) .nil))) rfl rfl rfl rfl ⟨x.HU, x.pu, x.cu, by rw [hex]; rfl, by rw [hex]; exact hx.u, rfl⟩
   ·
    refine W.seq (W.region ?_)
    refine RL.q (Yld.bin rfl rfl BinV.eql) rfl ?_
    refine RL.q (Yld.assign rfl) rfl (RL.nil (N.next ?_))
    first | refine W.condD rfl (fun hc68 => ?_) (fun hc68 => ?_) | (refine W.cond rfl (fun hc68 => ?_) (fun hc68 => ?_) <;> try simp only [Bool.or_eq_true, Bool.and_eq_true, Bool.not_eq_true', Bool.not_eq_false', decide_eq_true_eq, Bool.or_eq_false_iff, Bool.and_eq_false_iff, decide_eq_false_iff_not, beq_iff_eq, beq_eq_false_iff_ne, ne_eq, Decidable.not_not] at hc68)
    ·
     have hk := hc68
     refine W.seq ?_
     refine W.seq (W.region ?_)
     refine RL.q (Yld.move rfl) rfl (RL.q (Yld.move rfl) rfl ?_)
     refine' RL.and (t := 71) (d := 75) 4 rfl (.of [3, 4, 5, 6, 9, 10, 22, 61, 68, 69, 70] rfl) (.of [0, 1, 2, 3, 103, 104, 105, 106, 109] rfl) ?_ ?_ ?_
     rotate_left 1
     ·
      intro hg71
      refine RL.gq rfl rfl (Yld.fieldAddr fo48_2 rfl) rfl ?_
      refine RL.gq rfl rfl (Yld.ld 109 Tryz.underlying3 rfl rfl rfl rfl) rfl ?_
      refine RL.gq rfl rfl (Yld.bin rfl rfl BinV.eql) rfl ?_
      refine RL.q Yld.pk rfl ?_
      exact RL.nil (N.meet (.to rfl) (.to rfl))
     ·
      intro hg71
      refine RL.gskip rfl rfl rfl rfl ?_
      refine RL.gskip rfl rfl rfl rfl ?_
      refine RL.gskip rfl rfl rfl rfl ?_
      refine RL.q Yld.pk rfl ?_
      exact RL.nil (N.meet (.to rfl) (.to rfl))
     refine RL.nil (N.next ?_)
     refine W.keep (.of [3, 4, 5, 6, 9, 10, 75] rfl) (.of [0, 1, 2, 3, 103, 104, 105, 106, 109] rfl) ?_
     refine W.cond rfl (fun hc75 => ?_) (fun hc75 => ?_)
     ·
      simp only [Bool.and_eq_true, decide_eq_true_eq] at hc75
      have hfu2 := fvU_t (hfu.trans (congrArg (Prod.mk u) (show ub = true from hc75.1)))
      have hex : (execP (decide (kdOf m c.it = 2)) x.us x.cl c) = (x.us, 9, 0) := ex2_bad hk hfu2 hc75.2
      refine W.seq (W.region ?_)
      refine RL.q (Yld.ldW 104 Tryz.underlying59 sz59 rfl rfl rfl rfl) rfl ?_
      refine RL.e0 (Eff.storeS (c := 106) _ sz59 rfl rfl rfl rfl rfl rfl rfl (by (try simp only [putAt, List.take, List.drop, List.nil_append, List.cons_append, List.append_nil, List.length_cons, List.length_nil, Nat.add_zero, Nat.zero_add, Nat.reduceAdd]); rfl)) ?_
      rintro _ _ rfl
      refine RL.q (Yld.assign rfl) rfl (RL.q (Yld.assign rfl) rfl (RL.nil (N.next ?_)))
      refine W.keep (.of [6, 7, 8] rfl) (.of [0, 1, 2, 3, 103, 104, 105, 106, 109] rfl) ?_
      refine W.ret ?_
      refine N.then_ret ?_
      refine N.block_ret ?_
      refine N.then_ret ?_
      exact N.retBy [1, 2, 3] (.cons (by first | exact .cell (c := 106) rfl rfl (fun w hs => run_loadVarA Tryz.underlying59 rfl sz59 rfl (fun j u hj => by rw [Nat.zero_add, PH.sub.cell hs (by first | exact single_self _ _ | exact pset_self _ _ _ | assumption)]; exact hj))) (.cons (.tmp rfl) (.cons (.tmp rfl) .nil))) rfl rfl rfl rfl ⟨x.HU, x.pu, x.cu, by rw [hex]; rfl, by rw [hex]; exact hx.u, rfl⟩
     ·
      refine W.skip ?_
      refine N.next ?_
      refine W.seq ?_
      refine W.seq (W.region ?_)
      refine RL.q (Yld.move rfl) rfl (RL.q Yld.nt rfl (RL.nil (N.next ?_)))
      refine W.cond rfl (fun hc78 => ?_) (fun hc78 => ?_)
      ·
       rw [Bool.not_eq_true'] at hc78
       have hfu2 := fvU_f (hfu.trans (congrArg (Prod.mk u) (show ub = false from hc78)))
       have hex0 := ex2_none (cs := x.cl) hI hf hk hfu2
       refine W.seq (W.region ?_)
       refine RL.q (Yld.fieldAddr fo36_1 rfl) rfl ?_
       refine RL.q (Yld.ld 105 Tryz.underlying3 rfl rfl rfl rfl) rfl ?_
       refine RL.q (Yld.buildP lay48 (.cons rfl rfl .nil) rfl) rfl ?_
       refine RL.e0 (Eff.storeS (c := 109) _ sz48 rfl rfl rfl rfl rfl rfl rfl (by (try simp only [putAt, List.take, List.drop, List.nil_append, List.cons_append, List.append_nil, List.length_cons, List.length_nil, Nat.add_zero, Nat.zero_add, Nat.reduceAdd]); rfl)) ?_
       rintro _ _ rfl
       refine RL.nil (N.next ?_)
       refine W.keep (.of [3, 4, 5, 6, 9] rfl) (.of [0, 1, 2, 3, 103, 104, 105, 106, 109] rfl) ?_
       refine W.seq (W.region ?_)
       refine RL.q (Yld.ldW 103 Tryz.underlying29 sz29 rfl rfl rfl rfl) rfl ?_
       refine RL.q (Yld.fieldAddr fo36_1 rfl) rfl ?_
       refine RL.q (Yld.ld 105 Tryz.underlying3 rfl rfl rfl rfl) rfl ?_
       refine RL.e (Eff.call ent47 [1] [1] (.cons rfl (.cons rfl .nil)) (rkind_ct m H1 hM c.it) rfl rfl rfl rfl (by rintro _ _ ⟨_, rfl⟩; rfl)) rfl ?_
       rintro _ _ ⟨_, ⟨rfl, rfl⟩, rfl⟩
       refine RL.q (Yld.bin rfl rfl BinV.eql) rfl ?_
       refine RL.nil (N.next ?_)
       refine W.keep (.of [4, 5, 6, 9, 86] rfl) (.of [0, 1, 2, 3, 103, 104, 105, 106, 109] rfl) ?_
       first | refine W.condD rfl (fun hc86 => ?_) (fun hc86 => ?_) | (refine W.cond rfl (fun hc86 => ?_) (fun hc86 => ?_) <;> try simp only [Bool.or_eq_true, Bool.and_eq_true, Bool.not_eq_true', Bool.not_eq_false', decide_eq_true_eq, Bool.or_eq_false_iff, Bool.and_eq_false_iff, decide_eq_false_iff_not, beq_iff_eq, beq_eq_false_iff_ne, ne_eq, Decidable.not_not] at hc86)
       ·
        rw [if_pos hc86] at hex0
        have hex : (execP (decide (kdOf m c.it = 2)) x.us x.cl c) = _ := hex0
        refine W.region ?_
        refine RL.q (Yld.fieldAddr fo36_3 rfl) rfl ?_
        refine RL.q (Yld.ld 105 Tryz.underlying2 rfl rfl rfl rfl) rfl ?_
        refine RL.q (Yld.fieldAddr fo48_3 rfl) rfl ?_
        refine RL.e0 (Eff.storeS (c := 109) _ sz2 rfl rfl rfl rfl rfl rfl rfl (by (try simp only [putAt, List.take, List.drop, List.nil_append, List.cons_append, List.append_nil, List.length_cons, List.length_nil, Nat.add_zero, Nat.zero_add, Nat.reduceAdd]); rfl)) ?_
        rintro _ _ rfl
        refine RL.nil (N.next ?_)
        refine W.keep (.of [4, 6, 9] rfl) (.of [0, 1, 2, 3, 103, 104, 105, 106, 109] rfl) ?_
        refine W.seq (W.region ?_)
        refine RL.q (Yld.ldW 104 Tryz.underlying59 sz59 rfl rfl rfl rfl) rfl ?_
        refine RL.q (Yld.ldW 109 Tryz.underlying48 sz48 rfl rfl rfl rfl) rfl ?_
        refine RL.e (Eff.call ent148 [2] [2] (.cons rfl (.cons rfl (.cons rfl .nil))) (rwith_ct x mach hx ⟨c.it, 0, 0, c.va, 0⟩ 0 (by omega)) rfl rfl rfl rfl (by rintro _ _ ⟨_, _, _, _, _, rfl⟩; rfl)) rfl ?_
        rintro _ _ ⟨_, ⟨Hw, pw, cw, rfl, hSw, rfl⟩, rfl⟩
        refine RL.e0 (Eff.storeS (c := 106) _ sz59 rfl rfl rfl rfl rfl rfl rfl (by (try simp only [putAt, List.take, List.drop, List.nil_append, List.cons_append, List.append_nil, List.length_cons, List.length_nil, Nat.add_zero, Nat.zero_add, Nat.reduceAdd]); rfl)) ?_
        rintro _ _ rfl
        refine RL.q (Yld.assign rfl) rfl (RL.q (Yld.assign rfl) rfl (RL.nil (N.next ?_)))
        refine W.keep (.of [6, 7, 8] rfl) (.of [0, 1, 2, 3, 103, 104, 105, 106, 109] rfl) ?_
        refine W.ret ?_
        refine N.block_ret ?_
        refine N.then_ret ?_
        exact N.retBy [1, 2, 3] (.cons (by first | exact .cell (c := 106) rfl rfl (fun w hs => run_loadVarA Tryz.underlying59 rfl sz59 rfl (fun j u hj => by rw [Nat.zero_add, PH.sub.cell hs (by first | exact single_self _ _ | exact pset_self _ _ _ | assumption)]; exact hj))) (.cons (.tmp rfl) (.cons (.tmp rfl) .nil))) rfl rfl rfl rfl ⟨Hw, pw, cw, by rw [hex]; rfl, by rw [hex]; exact hSw, rfl⟩
       ·
        rw [if_neg hc86] at hex0
        have hex : (execP (decide (kdOf m c.it = 2)) x.us x.cl c) = _ := hex0
        refine W.skip ?_
        refine N.next ?_
        refine W.seq (W.region ?_)
        refine RL.q (Yld.ldW 104 Tryz.underlying59 sz59 rfl rfl rfl rfl) rfl ?_
        refine RL.q (Yld.ldW 109 Tryz.underlying48 sz48 rfl rfl rfl rfl) rfl ?_
        refine RL.e (Eff.call ent148 [2] [2] (.cons rfl (.cons rfl (.cons rfl .nil))) (rwith_ct x mach hx ⟨c.it, 0, 0, 0, 0⟩ 0 (by omega)) rfl rfl rfl rfl (by rintro _ _ ⟨_, _, _, _, _, rfl⟩; rfl)) rfl ?_
        rintro _ _ ⟨_, ⟨Hw, pw, cw, rfl, hSw, rfl⟩, rfl⟩
        refine RL.e0 (Eff.storeS (c := 106) _ sz59 rfl rfl rfl rfl rfl rfl rfl (by (try simp only [putAt, List.take, List.drop, List.nil_append, List.cons_append, List.append_nil, List.length_cons, List.length_nil, Nat.add_zero, Nat.zero_add, Nat.reduceAdd]); rfl)) ?_
        rintro _ _ rfl
        refine RL.q (Yld.assign rfl) rfl (RL.q (Yld.assign rfl) rfl (RL.nil (N.next ?_)))
        refine W.keep (.of [6, 7, 8] rfl) (.of [0, 1, 2, 3, 103, 104, 105, 106, 109] rfl) ?_
        refine W.ret ?_
        refine N.block_ret ?_
        refine N.then_ret ?_
        exact N.retBy [1, 2, 3] (.cons (by first | exact .cell (c := 106) rfl rfl (fun w hs => run_loadVarA Tryz.underlying59 rfl sz59 rfl (fun j u hj => by rw [Nat.zero_add, PH.sub.cell hs (by first | exact single_self _ _ | exact pset_self _ _ _ | assumption)]; exact hj))) (.cons (.tmp rfl) (.cons (.tmp rfl) .nil))) rfl rfl rfl rfl ⟨Hw, pw, cw, by rw [hex]; rfl, by rw [hex]; exact hSw, rfl⟩
      ·
       rw [Bool.not_eq_false'] at hc78
       have hfu2 := fvU_t (hfu.trans (congrArg (Prod.mk u) (show ub = true from hc78)))
       have hex : (execP (decide (kdOf m c.it = 2)) x.us x.cl c) = (putR x.us { u with st := 0 }, 0, 0) := ex2_some hI hk hfu2 (fun h => by rw [show ub = true from hc78, h] at hc75; cases hc75)
       refine W.skip ?_
       refine N.next ?_
       refine W.keep (.of [4, 6, 9] rfl) (.of [0, 1, 2, 3, 103, 104, 105, 106, 109] rfl) ?_
       refine W.seq (W.region ?_)
       refine RL.q (Yld.ldW 104 Tryz.underlying59 sz59 rfl rfl rfl rfl) rfl ?_
       refine RL.q (Yld.ldW 109 Tryz.underlying48 sz48 rfl rfl rfl rfl) rfl ?_
       refine RL.e (Eff.call ent148 [2] [2] (.cons rfl (.cons rfl (.cons rfl .nil))) (rwith_ct x mach hx u 0 (by omega)) rfl rfl rfl rfl (by rintro _ _ ⟨_, _, _, _, _, rfl⟩; rfl)) rfl ?_
       rintro _ _ ⟨_, ⟨Hw, pw, cw, rfl, hSw, rfl⟩, rfl⟩
       refine RL.e0 (Eff.storeS (c := 106) _ sz59 rfl rfl rfl rfl rfl rfl rfl (by (try simp only [putAt, List.take, List.drop, List.nil_append, List.cons_append, List.append_nil, List.length_cons, List.length_nil, Nat.add_zero, Nat.zero_add, Nat.reduceAdd]); rfl)) ?_
       rintro _ _ rfl
       refine RL.q (Yld.assign rfl) rfl (RL.q (Yld.assign rfl) rfl (RL.nil (N.next ?_)))
       refine W.keep (.of [6, 7, 8] rfl) (.of [0, 1, 2, 3, 103, 104, 105, 106, 109] rfl) ?_
       refine W.ret ?_
       refine N.block_ret ?_
       refine N.then_ret ?_
       exact N.retBy [1, 2, 3] (.cons (by first | exact .cell (c := 106) rfl rfl (fun w hs => run_loadVarA Tryz.underlying59 rfl sz59 rfl (fun j u hj => by rw [Nat.zero_add, PH.sub.cell hs (by first | exact single_self _ _ | exact pset_self _ _ _ | assumption)]; exact hj))) (.cons (.tmp rfl) (.cons (.tmp rfl) .nil))) rfl rfl rfl rfl ⟨Hw, pw, cw, by rw [hex]; rfl, by rw [hex]; exact hSw, rfl⟩
    ·
     refine W.seq ?_
     refine W.seq (W.region ?_)
     refine RL.q (Yld.bin rfl rfl BinV.eql) rfl ?_
     refine RL.q (Yld.assign rfl) rfl (RL.nil (N.next ?_))
     refine W.keep (.of [4, 5, 6, 9, 10, 22, 93] rfl) (.of [0, 1, 2, 3, 103, 104, 105, 106, 109] rfl) ?_
     first | refine W.condD rfl (fun hc93 => ?_) (fun hc93 => ?_) | (refine W.cond rfl (fun hc93 => ?_) (fun hc93 => ?_) <;> try simp only [Bool.or_eq_true, Bool.and_eq_true, Bool.not_eq_true', Bool.not_eq_false', decide_eq_true_eq, Bool.or_eq_false_iff, Bool.and_eq_false_iff, decide_eq_false_iff_not, beq_iff_eq, beq_eq_false_iff_ne, ne_eq, Decidable.not_not] at hc93)
     ·
      refine W.skip ?_
      refine N.next ?_
      first | (refine W.as (t := 93) rfl (boolT (by first | assumption | omega | (simp; done))) ?_; refine W.condT rfl ?_) | refine W.condT rfl ?_
      refine W.seq ?_
      refine W.seq (W.region ?_)
      refine RL.q (Yld.move rfl) rfl (RL.q Yld.nt rfl (RL.nil (N.next ?_)))
      refine W.keep (.of [4, 5, 6, 9, 97] rfl) (.of [0, 1, 2, 3, 103, 104, 105, 106, 109] rfl) ?_
      refine W.cond rfl (fun hc97 => ?_) (fun hc97 => ?_)
      ·
       rw [Bool.not_eq_true'] at hc97
       have hfu2 := fvU_f (hfu.trans (congrArg (Prod.mk u) (show ub = false from hc97)))
       have hex : (execP (decide (kdOf m c.it = 2)) x.us x.cl c) = (x.us, 6, 0) := ex34_none (by omega) hfu2
       refine W.seq (W.region ?_)
       refine RL.q (Yld.ldW 104 Tryz.underlying59 sz59 rfl rfl rfl rfl) rfl ?_
       refine RL.e0 (Eff.storeS (c := 106) _ sz59 rfl rfl rfl rfl rfl rfl rfl (by (try simp only [putAt, List.take, List.drop, List.nil_append, List.cons_append, List.append_nil, List.length_cons, List.length_nil, Nat.add_zero, Nat.zero_add, Nat.reduceAdd]); rfl)) ?_
       rintro _ _ rfl
       refine RL.q (Yld.assign rfl) rfl (RL.q (Yld.assign rfl) rfl (RL.nil (N.next ?_)))
       refine W.keep (.of [6, 7, 8] rfl) (.of [0, 1, 2, 3, 103, 104, 105, 106, 109] rfl) ?_
       refine W.ret ?_
       refine N.then_ret ?_
       refine N.block_ret ?_
       refine N.then_ret ?_
       exact N.retBy [1, 2, 3] (.cons (by first | exact .cell (c := 106) rfl rfl (fun w hs => run_loadVarA Tryz.underlying59 rfl sz59 rfl (fun j u hj => by rw [Nat.zero_add, PH.sub.cell hs (by first | exact single_self _ _ | exact pset_self _ _ _ | assumption)]; exact hj))) (.cons (.tmp rfl) (.cons (.tmp rfl) .nil))) rfl rfl rfl rfl ⟨x.HU, x.pu, x.cu, by rw [hex]; rfl, by rw [hex]; exact hx.u, rfl⟩
      ·
       rw [Bool.not_eq_false'] at hc97
       have hfu2 := fvU_t (hfu.trans (congrArg (Prod.mk u) (show ub = true from hc97)))
       refine W.skip ?_
       refine N.next ?_
       refine W.seq ?_
       refine W.seq (W.region ?_)
       refine RL.q (Yld.fieldAddr fo36_0 rfl) rfl ?_
       refine RL.q (Yld.ld 105 Tryz.underlying3 rfl rfl rfl rfl) rfl ?_
       refine RL.q (Yld.bin rfl rfl BinV.eql) rfl ?_
       refine RL.nil (N.next ?_)
       refine W.keep (.of [4, 6, 9, 101] rfl) (.of [0, 1, 2, 3, 103, 104, 105, 106, 109] rfl) ?_
       first | refine W.condD rfl (fun hc101 => ?_) (fun hc101 => ?_) | (refine W.cond rfl (fun hc101 => ?_) (fun hc101 => ?_) <;> try simp only [Bool.or_eq_true, Bool.and_eq_true, Bool.not_eq_true', Bool.not_eq_false', decide_eq_true_eq, Bool.or_eq_false_iff, Bool.and_eq_false_iff, decide_eq_false_iff_not, beq_iff_eq, beq_eq_false_iff_ne, ne_eq, Decidable.not_not] at hc101)
       ·
        have hex : (execP (decide (kdOf m c.it = 2)) x.us x.cl c) = (putR x.us { u with st := 1 }, 0, 0) := ex3_some hI hc101 hfu2
        refine W.seq (W.region ?_)
        refine RL.q (Yld.ldW 104 Tryz.underlying59 sz59 rfl rfl rfl rfl) rfl ?_
        refine RL.q (Yld.ldW 109 Tryz.underlying48 sz48 rfl rfl rfl rfl) rfl ?_
        refine RL.e (Eff.call ent148 [2] [2] (.cons rfl (.cons rfl (.cons rfl .nil))) (rwith_ct x mach hx u 1 (by omega)) rfl rfl rfl rfl (by rintro _ _ ⟨_, _, _, _, _, rfl⟩; rfl)) rfl ?_
        rintro _ _ ⟨_, ⟨Hw, pw, cw, rfl, hSw, rfl⟩, rfl⟩
        refine RL.e0 (Eff.storeS (c := 106) _ sz59 rfl rfl rfl rfl rfl rfl rfl (by (try simp only [putAt, List.take, List.drop, List.nil_append, List.cons_append, List.append_nil, List.length_cons, List.length_nil, Nat.add_zero, Nat.zero_add, Nat.reduceAdd]); rfl)) ?_
        rintro _ _ rfl
        refine RL.q (Yld.assign rfl) rfl (RL.q (Yld.assign rfl) rfl (RL.nil (N.next ?_)))
        refine W.keep (.of [6, 7, 8] rfl) (.of [0, 1, 2, 3, 103, 104, 105, 106, 109] rfl) ?_
        refine W.ret ?_
        refine N.then_ret ?_
        refine N.block_ret ?_
        refine N.then_ret ?_
        exact N.retBy [1, 2, 3] (.cons (by first | exact .cell (c := 106) rfl rfl (fun w hs => run_loadVarA Tryz.underlying59 rfl sz59 rfl (fun j u hj => by rw [Nat.zero_add, PH.sub.cell hs (by first | exact single_self _ _ | exact pset_self _ _ _ | assumption)]; exact hj))) (.cons (.tmp rfl) (.cons (.tmp rfl) .nil))) rfl rfl rfl rfl ⟨Hw, pw, cw, by rw [hex]; rfl, by rw [hex]; exact hSw, rfl⟩
       ·
        have hex : (execP (decide (kdOf m c.it = 2)) x.us x.cl c) = (putR x.us { u with st := 2 }, 0, u.va) := ex4_some hI (by omega) hfu2
        refine W.skip ?_
        refine N.next ?_
        refine W.seq ?_
        refine W.draw (.q 0 (.q 1 (.q 3 (.q 4 (.one 2 (.one 5 (.q 6 (.q 7 .done)))))))) (.of [0, 1, 3, 103, 104, 105, 109] rfl) mix (by kernel_rfl) (by kernel_rfl) ?_
        refine DL.q rfl (Yld.ldW 104 Tryz.underlying59 sz59 rfl rfl rfl rfl) rfl ?_
        refine DL.q rfl (Yld.ldW 109 Tryz.underlying48 sz48 rfl rfl rfl rfl) rfl ?_
        refine DL.q rfl (Yld.fieldAddr fo48_3 rfl) rfl ?_
        refine DL.q rfl (Yld.ld 109 Tryz.underlying2 rfl rfl rfl rfl) rfl ?_
        refine DL.one rfl (Eff.call ent148 [2] [2] (.cons rfl (.cons rfl (.cons rfl .nil))) (rwith_ct x mach hx u 2 (by omega)) rfl rfl rfl rfl (by rintro _ _ ⟨_, _, _, _, _, rfl⟩; rfl)) rfl (by rintro _ _ ⟨_, ⟨Hw, pw, cw, rfl, hSw, rfl⟩, rfl⟩; repeat (first | exact .nil | refine .cons rfl ?_)) ?_
        rintro _ _ ⟨_, ⟨Hw, pw, cw, rfl, hSw, rfl⟩, rfl⟩
        refine DL.one0 rfl (Eff.storeS (c := 106) _ sz59 rfl rfl rfl rfl rfl rfl rfl (by (try simp only [putAt, List.take, List.drop, List.nil_append, List.cons_append, List.append_nil, List.length_cons, List.length_nil, Nat.add_zero, Nat.zero_add, Nat.reduceAdd]); rfl)) (by rintro _ _ rfl; repeat (first | exact .nil | refine .cons rfl ?_)) ?_
        rintro _ _ rfl
        refine DL.q rfl (Yld.assign rfl) rfl ?_
        refine DL.q rfl (Yld.assign rfl) rfl ?_
        refine DL.done ?_
        refine N.next ?_
        refine W.keep (.of [6, 7, 8] rfl) (.of [0, 1, 2, 3, 103, 104, 105, 106, 109] rfl) ?_
        refine W.ret ?_
        refine N.block_ret ?_
        refine N.then_ret ?_
        exact N.retBy [1, 2, 3] (.cons (by first | exact .cell (c := 106) rfl rfl (fun w hs => run_loadVarA Tryz.underlying59 rfl sz59 rfl (fun j u hj => by rw [Nat.zero_add, PH.sub.cell hs (by first | exact single_self _ _ | exact pset_self _ _ _ | assumption)]; exact hj))) (.cons (.tmp rfl) (.cons (.tmp rfl) .nil))) rfl rfl rfl rfl ⟨Hw, pw, cw, by rw [hex]; rfl, by rw [hex]; exact hSw, rfl⟩
     ·
      refine W.region ?_
      refine RL.q (Yld.bin rfl rfl BinV.eql) rfl ?_
      refine RL.q (Yld.assign rfl) rfl (RL.nil (N.next ?_))
      first | refine W.condD rfl (fun hc93 => ?_) (fun hc93 => ?_) | (refine W.cond rfl (fun hc93 => ?_) (fun hc93 => ?_) <;> try simp only [Bool.or_eq_true, Bool.and_eq_true, Bool.not_eq_true', Bool.not_eq_false', decide_eq_true_eq, Bool.or_eq_false_iff, Bool.and_eq_false_iff, decide_eq_false_iff_not, beq_iff_eq, beq_eq_false_iff_ne, ne_eq, Decidable.not_not] at hc93)
      ·
       refine W.seq ?_
       refine W.seq (W.region ?_)
       refine RL.q (Yld.move rfl) rfl (RL.q Yld.nt rfl (RL.nil (N.next ?_)))
       refine W.keep (.of [4, 5, 6, 9, 97] rfl) (.of [0, 1, 2, 3, 103, 104, 105, 106, 109] rfl) ?_
       refine W.cond rfl (fun hc97 => ?_) (fun hc97 => ?_)
       ·
        rw [Bool.not_eq_true'] at hc97
        have hfu2 := fvU_f (hfu.trans (congrArg (Prod.mk u) (show ub = false from hc97)))
        have hex : (execP (decide (kdOf m c.it = 2)) x.us x.cl c) = (x.us, 6, 0) := ex34_none (by omega) hfu2
        refine W.seq (W.region ?_)
        refine RL.q (Yld.ldW 104 Tryz.underlying59 sz59 rfl rfl rfl rfl) rfl ?_
        refine RL.e0 (Eff.storeS (c := 106) _ sz59 rfl rfl rfl rfl rfl rfl rfl (by (try simp only [putAt, List.take, List.drop, List.nil_append, List.cons_append, List.append_nil, List.length_cons, List.length_nil, Nat.add_zero, Nat.zero_add, Nat.reduceAdd]); rfl)) ?_
        rintro _ _ rfl
        refine RL.q (Yld.assign rfl) rfl (RL.q (Yld.assign rfl) rfl (RL.nil (N.next ?_)))
        refine W.keep (.of [6, 7, 8] rfl) (.of [0, 1, 2, 3, 103, 104, 105, 106, 109] rfl) ?_
        refine W.ret ?_
        refine N.then_ret ?_
        refine N.block_ret ?_
        refine N.then_ret ?_
        exact N.retBy [1, 2, 3] (.cons (by first | exact .cell (c := 106) rfl rfl (fun w hs => run_loadVarA Tryz.underlying59 rfl sz59 rfl (fun j u hj => by rw [Nat.zero_add, PH.sub.cell hs (by first | exact single_self _ _ | exact pset_self _ _ _ | assumption)]; exact hj))) (.cons (.tmp rfl) (.cons (.tmp rfl) .nil))) rfl rfl rfl rfl ⟨x.HU, x.pu, x.cu, by rw [hex]; rfl, by rw [hex]; exact hx.u, rfl⟩
       ·
        rw [Bool.not_eq_false'] at hc97
        have hfu2 := fvU_t (hfu.trans (congrArg (Prod.mk u) (show ub = true from hc97)))
        refine W.skip ?_
        refine N.next ?_
        refine W.seq ?_
        refine W.seq (W.region ?_)
        refine RL.q (Yld.fieldAddr fo36_0 rfl) rfl ?_
        refine RL.q (Yld.ld 105 Tryz.underlying3 rfl rfl rfl rfl) rfl ?_
        refine RL.q (Yld.bin rfl rfl BinV.eql) rfl ?_
        refine RL.nil (N.next ?_)
        refine W.keep (.of [4, 6, 9, 101] rfl) (.of [0, 1, 2, 3, 103, 104, 105, 106, 109] rfl) ?_
        first | refine W.condD rfl (fun hc101 => ?_) (fun hc101 => ?_) | (refine W.cond rfl (fun hc101 => ?_) (fun hc101 => ?_) <;> try simp only [Bool.or_eq_true, Bool.and_eq_true, Bool.not_eq_true', Bool.not_eq_false', decide_eq_true_eq, Bool.or_eq_false_iff, Bool.and_eq_false_iff, decide_eq_false_iff_not, beq_iff_eq, beq_eq_false_iff_ne, ne_eq, Decidable.not_not] at hc101)
        ·
         have hex : (execP (decide (kdOf m c.it = 2)) x.us x.cl c) = (putR x.us { u with st := 1 }, 0, 0) := ex3_some hI hc101 hfu2
         refine W.seq (W.region ?_)
         refine RL.q (Yld.ldW 104 Tryz.underlying59 sz59 rfl rfl rfl rfl) rfl ?_
         refine RL.q (Yld.ldW 109 Tryz.underlying48 sz48 rfl rfl rfl rfl) rfl ?_
         refine RL.e (Eff.call ent148 [2] [2] (.cons rfl (.cons rfl (.cons rfl .nil))) (rwith_ct x mach hx u 1 (by omega)) rfl rfl rfl rfl (by rintro _ _ ⟨_, _, _, _, _, rfl⟩; rfl)) rfl ?_
         rintro _ _ ⟨_, ⟨Hw, pw, cw, rfl, hSw, rfl⟩, rfl⟩
         refine RL.e0 (Eff.storeS (c := 106) _ sz59 rfl rfl rfl rfl rfl rfl rfl (by (try simp only [putAt, List.take, List.drop, List.nil_append, List.cons_append, List.append_nil, List.length_cons, List.length_nil, Nat.add_zero, Nat.zero_add, Nat.reduceAdd]); rfl)) ?_
         rintro _ _ rfl
         refine RL.q (Yld.assign rfl) rfl (RL.q (Yld.assign rfl) rfl (RL.nil (N.next ?_)))
         refine W.keep (.of [6, 7, 8] rfl) (.of [0, 1, 2, 3, 103, 104, 105, 106, 109] rfl) ?_
         refine W.ret ?_
         refine N.then_ret ?_
         refine N.block_ret ?_
         refine N.then_ret ?_
         exact N.retBy [1, 2, 3] (.cons (by first | exact .cell (c := 106) rfl rfl (fun w hs => run_loadVarA Tryz.underlying59 rfl sz59 rfl (fun j u hj => by rw [Nat.zero_add, PH.sub.cell hs (by first | exact single_self _ _ | exact pset_self _ _ _ | assumption)]; exact hj))) (.cons (.tmp rfl) (.cons (.tmp rfl) .nil))) rfl rfl rfl rfl ⟨Hw, pw, cw, by rw [hex]; rfl, by rw [hex]; exact hSw, rfl⟩
        ·
         have hex : (execP (decide (kdOf m c.it = 2)) x.us x.cl c) = (putR x.us { u with st := 2 }, 0, u.va) := ex4_some hI (by omega) hfu2
         refine W.skip ?_
         refine N.next ?_
         refine W.seq ?_
         refine W.draw (.q 0 (.q 1 (.q 3 (.q 4 (.one 2 (.one 5 (.q 6 (.q 7 .done)))))))) (.of [0, 1, 3, 103, 104, 105, 109] rfl) mix (by kernel_rfl) (by kernel_rfl) ?_
         refine DL.q rfl (Yld.ldW 104 Tryz.underlying59 sz59 rfl rfl rfl rfl) rfl ?_
         refine DL.q rfl (Yld.ldW 109 Tryz.underlying48 sz48 rfl rfl rfl rfl) rfl ?_
         refine DL.q rfl (Yld.fieldAddr fo48_3 rfl) rfl ?_
         refine DL.q rfl (Yld.ld 109 Tryz.underlying2 rfl rfl rfl rfl) rfl ?_
         refine DL.one rfl (Eff.call ent148 [2] [2] (.cons rfl (.cons rfl (.cons rfl .nil))) (rwith_ct x mach hx u 2 (by omega)) rfl rfl rfl rfl (by rintro _ _ ⟨_, _, _, _, _, rfl⟩; rfl)) rfl (by rintro _ _ ⟨_, ⟨Hw, pw, cw, rfl, hSw, rfl⟩, rfl⟩; repeat (first | exact .nil | refine .cons rfl ?_)) ?_
         rintro _ _ ⟨_, ⟨Hw, pw, cw, rfl, hSw, rfl⟩, rfl⟩
         refine DL.one0 rfl (Eff.storeS (c := 106) _ sz59 rfl rfl rfl rfl rfl rfl rfl (by (try simp only [putAt, List.take, List.drop, List.nil_append, List.cons_append, List.append_nil, List.length_cons, List.length_nil, Nat.add_zero, Nat.zero_add, Nat.reduceAdd]); rfl)) (by rintro _ _ rfl; repeat (first | exact .nil | refine .cons rfl ?_)) ?_
         rintro _ _ rfl
         refine DL.q rfl (Yld.assign rfl) rfl ?_
         refine DL.q rfl (Yld.assign rfl) rfl ?_
         refine DL.done ?_
         refine N.next ?_
         refine W.keep (.of [6, 7, 8] rfl) (.of [0, 1, 2, 3, 103, 104, 105, 106, 109] rfl) ?_
         refine W.ret ?_
         refine N.block_ret ?_
         refine N.then_ret ?_
         exact N.retBy [1, 2, 3] (.cons (by first | exact .cell (c := 106) rfl rfl (fun w hs => run_loadVarA Tryz.underlying59 rfl sz59 rfl (fun j u hj => by rw [Nat.zero_add, PH.sub.cell hs (by first | exact single_self _ _ | exact pset_self _ _ _ | assumption)]; exact hj))) (.cons (.tmp rfl) (.cons (.tmp rfl) .nil))) rfl rfl rfl rfl ⟨Hw, pw, cw, by rw [hex]; rfl, by rw [hex]; exact hSw, rfl⟩
      ·
       refine W.skip ?_
       refine N.block_normal ?_
       refine N.next ?_
       refine W.seq ?_
       refine W.seq (W.region ?_)
       refine RL.q (Yld.move rfl) rfl (RL.q (Yld.move rfl) rfl ?_)
       refine' RL.and (t := 111) (d := 122) 11 rfl (.of [4, 5, 6, 9, 10, 22, 93, 95, 110] rfl) (.of [0, 1, 2, 3, 103, 104, 105, 106, 109] rfl) ?_ ?_ ?_
       rotate_left 1
       ·
        intro hg111
        refine RL.gq rfl rfl (Yld.fieldAddr fo48_2 rfl) rfl ?_
        refine RL.gq rfl rfl (Yld.ld 109 Tryz.underlying3 rfl rfl rfl rfl) rfl ?_
        refine RL.gq rfl rfl (Yld.bin rfl rfl BinV.eql) rfl ?_
        refine RL.gq rfl rfl (Yld.move rfl) rfl ?_
        refine' RL.or (t := 115) (d := 121) 6 rfl (.of [4, 5, 6, 9, 10, 22, 93, 95, 110, 111, 112, 113, 114] rfl) (.of [0, 1, 2, 3, 103, 104, 105, 106, 109] rfl) ?_ ?_ ?_
        rotate_left 1
        ·
         intro hg115
         refine RL.gq rfl rfl (Yld.ldW 104 Tryz.underlying59 sz59 rfl rfl rfl rfl) rfl ?_
         refine RL.gq rfl rfl (Yld.fieldAddr fo36_1 rfl) rfl ?_
         refine RL.gq rfl rfl (Yld.ld 105 Tryz.underlying3 rfl rfl rfl rfl) rfl ?_
         refine RL.ge rfl rfl (Eff.call ent46 [3] [3] (.cons rfl (.cons rfl .nil)) (ropen_ct x mach hx c.it) rfl rfl rfl rfl (by rintro _ _ ⟨_, rfl⟩; rfl)) rfl ?_
         rintro _ _ ⟨_, ⟨rfl, rfl⟩, rfl⟩
         refine RL.gq rfl rfl (Yld.bin rfl rfl BinV.gtr) rfl ?_
         refine RL.gq rfl rfl Yld.pk rfl ?_
         exact RL.nil (N.meet (.to rfl) (.to rfl))
        ·
         intro hg115
         refine RL.gskip rfl rfl rfl rfl ?_
         refine RL.gskip rfl rfl rfl rfl ?_
         refine RL.gskip rfl rfl rfl rfl ?_
         refine RL.gskip rfl rfl rfl rfl ?_
         refine RL.gskip rfl rfl rfl rfl ?_
         refine RL.gq rfl rfl Yld.pk rfl ?_
         exact RL.nil (N.meet (.to rfl) (.to rfl))
        refine RL.q Yld.pk rfl ?_
        exact RL.nil (N.meet (.to rfl) (.to rfl))
       ·
        intro hg111
        refine RL.gskip rfl rfl rfl rfl ?_
        refine RL.gskip rfl rfl rfl rfl ?_
        refine RL.gskip rfl rfl rfl rfl ?_
        refine RL.gskip rfl rfl rfl rfl ?_
        refine RL.gskipU rfl rfl rfl ?_
        refine RL.gskipU rfl rfl rfl ?_
        refine RL.gskipU rfl rfl rfl ?_
        refine RL.gskipU rfl rfl rfl ?_
        refine RL.gskipU rfl rfl rfl ?_
        refine RL.gskip rfl rfl rfl rfl ?_
        refine RL.q Yld.pk rfl ?_
        exact RL.nil (N.meet (.to rfl) (.to rfl))
       refine RL.nil (N.next ?_)
       refine W.keep (.of [4, 5, 6, 122] rfl) (.of [0, 1, 2, 3, 103, 104, 105, 106, 109] rfl) ?_
       refine W.cond rfl (fun hc122 => ?_) (fun hc122 => ?_)
       ·
        have hk : c.kd = 5 := by omega
        have hc122 : ub = true ∧ (u.st = 0 ∨ 0 < opens x.cl c.it) := by
          simp only [Bool.and_eq_true, Bool.or_eq_true, decide_eq_true_eq] at hc122
          exact ⟨hc122.1, hc122.2.elim .inl fun h => .inr (by omega)⟩
        have hfu2 := fvU_t (hfu.trans (congrArg (Prod.mk u) (show ub = true from hc122.1)))
        have hex : (execP (decide (kdOf m c.it = 2)) x.us x.cl c) = (x.us, 9, 0) := ex5_bad hf hk hfu2 hc122.2
        refine W.seq (W.region ?_)
        refine RL.q (Yld.ldW 104 Tryz.underlying59 sz59 rfl rfl rfl rfl) rfl ?_
        refine RL.e0 (Eff.storeS (c := 106) _ sz59 rfl rfl rfl rfl rfl rfl rfl (by (try simp only [putAt, List.take, List.drop, List.nil_append, List.cons_append, List.append_nil, List.length_cons, List.length_nil, Nat.add_zero, Nat.zero_add, Nat.reduceAdd]); rfl)) ?_
        rintro _ _ rfl
        refine RL.q (Yld.assign rfl) rfl (RL.q (Yld.assign rfl) rfl (RL.nil (N.next ?_)))
        refine W.keep (.of [6, 7, 8] rfl) (.of [0, 1, 2, 3, 103, 104, 105, 106, 109] rfl) ?_
        refine W.ret ?_
        refine N.then_ret ?_
        exact N.retBy [1, 2, 3] (.cons (by first | exact .cell (c := 106) rfl rfl (fun w hs => run_loadVarA Tryz.underlying59 rfl sz59 rfl (fun j u hj => by rw [Nat.zero_add, PH.sub.cell hs (by first | exact single_self _ _ | exact pset_self _ _ _ | assumption)]; exact hj))) (.cons (.tmp rfl) (.cons (.tmp rfl) .nil))) rfl rfl rfl rfl ⟨x.HU, x.pu, x.cu, by rw [hex]; rfl, by rw [hex]; exact hx.u, rfl⟩
       ·
        have hk : c.kd = 5 := by omega
        have hex : (execP (decide (kdOf m c.it = 2)) x.us x.cl c) = (wo x.us c.it, 0, 0) := by
          cases hub : ub with
          | false => exact ex5_none hI hf hk (fvU_f (by rw [hfu, hub] : fvU x.us c.it = (u, false)))
          | true =>
            refine ex5_some hI hf hk (fvU_t (by rw [hfu, hub] : fvU x.us c.it = (u, true))) (fun h => ?_)
            simp only [hub, Bool.true_and, Bool.or_eq_false_iff, decide_eq_false_iff_not] at hc122
            omega
        refine W.skip ?_
        refine N.next ?_
        refine W.seq (W.region ?_)
        refine RL.q (Yld.ldW 104 Tryz.underlying59 sz59 rfl rfl rfl rfl) rfl ?_
        refine RL.q (Yld.fieldAddr fo36_1 rfl) rfl ?_
        refine RL.q (Yld.ld 105 Tryz.underlying3 rfl rfl rfl rfl) rfl ?_
        refine RL.e (Eff.call ent149 [2] [2] (.cons rfl (.cons rfl .nil)) (rwithout_ct x mach hx c.it (by omega)) rfl rfl rfl rfl (by rintro _ _ ⟨_, _, _, _, _, rfl⟩; rfl)) rfl ?_
        rintro _ _ ⟨_, ⟨Ho, po, co, rfl, hSo, rfl⟩, rfl⟩
        refine RL.e0 (Eff.storeS (c := 106) _ sz59 rfl rfl rfl rfl rfl rfl rfl (by (try simp only [putAt, List.take, List.drop, List.nil_append, List.cons_append, List.append_nil, List.length_cons, List.length_nil, Nat.add_zero, Nat.zero_add, Nat.reduceAdd]); rfl)) ?_
        rintro _ _ rfl
        refine RL.q (Yld.assign rfl) rfl (RL.q (Yld.assign rfl) rfl (RL.nil (N.next ?_)))
        refine W.keep (.of [6, 7, 8] rfl) (.of [0, 1, 2, 3, 103, 104, 105, 106, 109] rfl) ?_
        refine W.ret ?_
        exact N.retBy [1, 2, 3] (.cons (by first | exact .cell (c := 106) rfl rfl (fun w hs => run_loadVarA Tryz.underlying59 rfl sz59 rfl (fun j u hj => by rw [Nat.zero_add, PH.sub.cell hs (by first | exact single_self _ _ | exact pset_self _ _ _ | assumption)]; exact hj))) (.cons (.tmp rfl) (.cons (.tmp rfl) .nil))) rfl rfl rfl rfl ⟨Ho, po, co, by rw [hex]; rfl, by rw [hex]; exact hSo, rfl⟩
end Go.Proofs.YtboapdcmaeojgaaGreatDoor
namespace Go.Proofs.YtboapdcmaeojgaaGreatDoor
open SL Cat Fen
set_option linter.unusedVariables false
set_option linter.unusedSimpArgs false
theorem ent103 : Ent Tryz.prog 103 := ⟨_, _, Tryz.func103, by kernel_rfl, rfl⟩
theorem fo59_0 : fieldOff Tryz.prog 59 0 = some 0 := by kernel_rfl
theorem fo59_2 : fieldOff Tryz.prog 59 2 = some 2 := by kernel_rfl
theorem fo59_3 : fieldOff Tryz.prog 59 3 = some 3 := by kernel_rfl
theorem sz55 : sz Tryz.prog 55 1 := (by kernel_rfl : (Tryz.prog.info? 55).map (·.size) = some 1)
theorem fo59_4 : fieldOff Tryz.prog 59 4 = some 4 := by kernel_rfl
theorem sz56 : sz Tryz.prog 56 1 := (by kernel_rfl : (Tryz.prog.info? 56).map (·.size) = some 1)
theorem ent104 : Ent Tryz.prog 104 := ⟨_, _, Tryz.func104, by kernel_rfl, rfl⟩
theorem el3 : el Tryz.prog 3 1 8 := .mk (by kernel_rfl)
theorem zc2 : zc Tryz.prog 2 [.int .i64 0] := (by kernel_rfl : ((Tryz.prog.info? 2).bind (·.zero)).map (fun v => v.cells.toList) = some [.int .i64 0])
theorem el2 : el Tryz.prog 2 1 8 := .mk (by kernel_rfl)
def Fen.Rt.newG (x : Rt) (g : Int) : Rt := { x with gen := g, ps := none, cs := 0, st := [], pv := none, cv := 0, va := [] }
theorem Fen.Rt.In.newG {x : Rt} (h : x.In) (g : Int) : (x.newG g).In := ⟨h.u, sl_nil1 _, sl_nil1 _, h.c⟩
theorem Fen.Rt.Is.seen1 {x : Rt} {t : T} (h : x.Is t) {g : Int} (hg : x.gen < g) : (x.newG g).Is (Fen.seen t g) := by
  have hg2 : t.gen < g := by rw [← h.gn]; exact hg
  unfold Fen.seen
  rw [if_pos hg2]
  exact ⟨h.us, rfl, rfl, rfl, h.cl⟩
theorem Fen.Rt.Is.seen0 {x : Rt} {t : T} (h : x.Is t) {g : Int} (hg : ¬ x.gen < g) : x.Is (Fen.seen t g) := by
  have hg2 : ¬ t.gen < g := by rw [← h.gn]; exact hg
  unfold Fen.seen
  rw [if_neg hg2]
  exact h
theorem Fen.Rt.Is.len {x : Rt} {t : T} (h : x.Is t) : x.va.length = x.st.length := by rw [h.va, h.st, List.length_map, List.length_map]
theorem Fen.Rt.Is.hit {x : Rt} {t : T} (h : x.Is t) {j : Nat} {s v : Int} (hs : x.st[j]? = some s) (hv : x.va[j]? = some v) (hI : ∀ (i : Nat) a, i < j → x.st[i]? = some a → a ≠ s) : Fen.look t.dn s = some v := by
  rw [h.st, List.getElem?_map, Option.map_eq_some_iff] at hs
  rw [h.va, List.getElem?_map, Option.map_eq_some_iff] at hv
  obtain ⟨q, hq, rfl⟩ := hs
  obtain ⟨q2, hq2, rfl⟩ := hv
  rw [hq] at hq2; cases hq2
  unfold Fen.look
  obtain ⟨hlt, rfl⟩ := List.getElem?_eq_some_iff.1 hq
  rw [List.find?_eq_some_iff_getElem.2 ⟨by simp, j, hlt, rfl, fun i hi => ?_⟩]
  · rfl
  · have := hI i (t.dn[i]'(by omega)).1 hi (by rw [h.st, List.getElem?_map, List.getElem?_eq_getElem (by omega)]; rfl)
    simpa using this
theorem Fen.Rt.Is.miss {x : Rt} {t : T} (h : x.Is t) {s : Int} (hI : ∀ (i : Nat) a, i < x.st.length → x.st[i]? = some a → a ≠ s) : Fen.look t.dn s = none := by
  unfold Fen.look
  rw [List.find?_eq_none.2 fun q hq => ?_]
  · rfl
  · obtain ⟨i, hi⟩ := List.getElem?_of_mem hq
    have e : x.st[i]? = some q.1 := by rw [h.st, List.getElem?_map, hi]; rfl
    have := hI i q.1 (List.getElem?_eq_some_iff.1 e).1 e
    simpa using this
theorem Fen.Rt.Is.setU {x : Rt} {t : T} (h : x.Is t) {p : Option Addr} {c : Nat} {us : List U} {H : PH} : (x.setU p c us H).Is { t with us := us } := ⟨rfl, h.gn, h.st, h.va, h.cl⟩
def Fen.Rt.add (x : Rt) (s v : Int) (p : Option Addr) (c : Nat) (H : PH) (q : Option Addr) (d : Nat) (G : PH) : Rt := { x with ps := p, cs := c, st := x.st ++ [s], HS := H, pv := q, cv := d, va := x.va ++ [v], HV := G }
theorem Fen.Rt.Is.add {x : Rt} {t : T} (h : x.Is t) {s v : Int} {p : Option Addr} {c : Nat} {H : PH} {q : Option Addr} {d : Nat} {G : PH} : (x.add s v p c H q d G).Is { t with dn := t.dn ++ [(s, v)] } :=
  ⟨h.us, h.gn, by show x.st ++ [s] = _; rw [h.st, List.map_append]; rfl, by show x.va ++ [v] = _; rw [h.va, List.map_append]; rfl, h.cl⟩
theorem Fen.Rt.In.add {x : Rt} (h : x.In) {s v : Int} {p : Option Addr} {c : Nat} {H : PH} {q : Option Addr} {d : Nat} {G : PH} (h1 : Sl H p c 1 (iz (x.st ++ [s]))) (h2 : Sl G q d 1 (iz (x.va ++ [v]))) : (x.add s v p c H q d G).In := ⟨h.u, h1, h2, h.c⟩
theorem exec_err0 {job : Bool} {us : List U} {cs : List Cl} {c : Cm} (h : ¬ (execP job us cs c).2.1 = 0) : (execP job us cs c).2.2 = 0 := by
  revert h
  unfold execP
  repeat' split
  all_goals first | (intro _; rfl) | (intro h; exact absurd rfl h)
set_option maxRecDepth 100000 in
set_option maxHeartbeats 6400000 in
theorem rdo_ct (m : Md) (H1 : PH) (hM : m.In H1) (x : Rt) (mach : Int) (hx : x.In) (t : T) (hxt : x.Is t) (g st : Int) (c : Cm) (hT : TI m mach t) (hb : t.us.length ≤ 900000) (hd : t.dn.length ≤ 900000) : Ct Tryz.prog 62 [.agg [.slice m.psi m.si.length m.csi, .slice m.pfe m.fe.length m.cfe, .slice m.prk m.rk.length m.crk, .slice m.pmc m.mc.length m.cmc, .slice m.pln m.ln.length m.cln, .slice m.pis m.is.length m.cis, .int .i64 m.da, .int .i64 m.sl, .int .i64 m.re, .int .i64 m.fa, .slice m.prl m.rl.length m.crl].toArray, .agg [.int .i64 mach, .slice x.pu x.us.length x.cu, .int .i64 x.gen, .slice x.ps x.st.length x.cs, .slice x.pv x.va.length x.cv, .slice x.pc x.cl.length x.cc].toArray, .int .i64 g, .int .i64 st, .agg [.int .i64 c.kd, .int .i64 c.it, .int .i64 c.rp, .int .i64 c.va].toArray] [H1, x.HU, x.HS, x.HV, x.HC] (fun v Hs => ∃ y : Rt, v = .tuple [.agg [.int .i64 mach, .slice y.pu y.us.length y.cu, .int .i64 y.gen, .slice y.ps y.st.length y.cs, .slice y.pv y.va.length y.cv, .slice y.pc y.cl.length y.cc].toArray, .int .i64 (doP (kdOf m c.it) mach t g st c).2.1, .int .i64 (doP (kdOf m c.it) mach t g st c).2.2].toArray ∧ y.In ∧ y.Is (doP (kdOf m c.it) mach t g st c).1 ∧ Hs = [H1, y.HU, y.HS, y.HV, y.HC]) := by
  refine Ct.body Tryz.func62 rfl Tryz.ntmps62 rfl ?_
  intro E F
  obtain ⟨hSu, hSs, hSv, hSc⟩ := id hx
  have hmu := hSu.len_le
  have hms := hSs.len_le
  have hmv := hSv.len_le
  have hmc := hSc.len_le
  simp only [List.length_map, iz_len, maxLen] at hmu hms hmv hmc
  refine W.seq (W.region ?_)
  refine RL.e (Eff.box 105 _ rfl rfl) rfl ?_
  rintro _ _ ⟨b5, rfl, rfl⟩
  refine RL.e (Eff.box 106 _ rfl rfl) rfl ?_
  rintro _ _ ⟨b6, rfl, rfl⟩
  refine RL.e (Eff.box 109 _ rfl rfl) rfl ?_
  rintro _ _ ⟨b9, rfl, rfl⟩
  refine RL.e (Eff.alloc 110 zc59) rfl ?_
  rintro _ _ ⟨b10, rfl, rfl⟩
  refine RL.q (Yld.assign rfl) rfl (RL.q (Yld.assign rfl) rfl (RL.nil (N.next ?_)))
  refine W.keep (.of [2, 3, 5, 6, 9, 10] rfl) (.of [0, 1, 2, 3, 4, 5, 105, 106, 109, 110] rfl) ?_
  refine W.seq ?_
  refine W.seq (W.region ?_)
  refine RL.q (Yld.move rfl) rfl ?_
  refine RL.q (Yld.bin rfl rfl BinV.lss) rfl ?_
  refine RL.q (Yld.move rfl) rfl ?_
  refine' RL.or (t := 18) (d := 21) 3 rfl (.of [2, 3, 5, 6, 9, 10, 16, 17] rfl) (.of [0, 1, 2, 3, 4, 5, 105, 106, 109, 110] rfl) ?_ ?_ ?_
  rotate_left 1
  ·
   intro hg18
   refine RL.gq rfl rfl (Yld.move rfl) rfl ?_
   refine RL.gq rfl rfl (Yld.bin rfl rfl BinV.lss) rfl ?_
   refine RL.q Yld.pk rfl ?_
   exact RL.nil (N.meet (.to rfl) (.to rfl))
  ·
   intro hg18
   refine RL.gskip rfl rfl rfl rfl ?_
   refine RL.gskip rfl rfl rfl rfl ?_
   refine RL.q Yld.pk rfl ?_
   exact RL.nil (N.meet (.to rfl) (.to rfl))
  refine RL.q (Yld.move rfl) rfl ?_
  refine' RL.or (t := 22) (d := 27) 5 rfl (.of [2, 3, 5, 6, 9, 10, 16, 17, 21] rfl) (.of [0, 1, 2, 3, 4, 5, 105, 106, 109, 110] rfl) ?_ ?_ ?_
  rotate_left 1
  ·
   intro hg22
   refine RL.gq rfl rfl (Yld.ldW 105 Tryz.underlying29 sz29 rfl rfl rfl rfl) rfl ?_
   refine RL.gq rfl rfl (Yld.ldW 109 Tryz.underlying36 sz36 rfl rfl rfl rfl) rfl ?_
   refine RL.ge rfl rfl (Eff.call ent103 [1] [1] (.cons rfl (.cons rfl .nil)) (rfits_ct m H1 hM c) rfl rfl rfl rfl (by rintro _ _ ⟨_, rfl⟩; rfl)) rfl ?_
   rintro _ _ ⟨_, ⟨rfl, rfl⟩, rfl⟩
   refine RL.gq rfl rfl Yld.nt rfl ?_
   refine RL.q Yld.pk rfl ?_
   exact RL.nil (N.meet (.to rfl) (.to rfl))
  ·
   intro hg22
   refine RL.gskip rfl rfl rfl rfl ?_
   refine RL.gskip rfl rfl rfl rfl ?_
   refine RL.gskip rfl rfl rfl rfl ?_
   refine RL.gskip rfl rfl rfl rfl ?_
   refine RL.q Yld.pk rfl ?_
   exact RL.nil (N.meet (.to rfl) (.to rfl))
  refine RL.q (Yld.move rfl) rfl ?_
  refine' RL.or (t := 28) (d := 32) 4 rfl (.of [2, 3, 5, 6, 9, 10, 16, 17, 21, 27] rfl) (.of [0, 1, 2, 3, 4, 5, 105, 106, 109, 110] rfl) ?_ ?_ ?_
  rotate_left 1
  ·
   intro hg28
   refine RL.gq rfl rfl (Yld.fieldAddr fo36_3 rfl) rfl ?_
   refine RL.gq rfl rfl (Yld.ld 109 Tryz.underlying2 rfl rfl rfl rfl) rfl ?_
   refine RL.gq rfl rfl (Yld.bin rfl rfl BinV.lss) rfl ?_
   refine RL.q Yld.pk rfl ?_
   exact RL.nil (N.meet (.to rfl) (.to rfl))
  ·
   intro hg28
   refine RL.gskip rfl rfl rfl rfl ?_
   refine RL.gskip rfl rfl rfl rfl ?_
   refine RL.gskip rfl rfl rfl rfl ?_
   refine RL.q Yld.pk rfl ?_
   exact RL.nil (N.meet (.to rfl) (.to rfl))
  refine RL.q (Yld.move rfl) rfl ?_
  refine' RL.or (t := 33) (d := 37) 4 rfl (.of [2, 3, 5, 6, 9, 10, 16, 17, 21, 27, 32] rfl) (.of [0, 1, 2, 3, 4, 5, 105, 106, 109, 110] rfl) ?_ ?_ ?_
  rotate_left 1
  ·
   intro hg33
   refine RL.gq rfl rfl (Yld.fieldAddr fo36_3 rfl) rfl ?_
   refine RL.gq rfl rfl (Yld.ld 109 Tryz.underlying2 rfl rfl rfl rfl) rfl ?_
   refine RL.gq rfl rfl (Yld.bin rfl rfl BinV.gtr) rfl ?_
   refine RL.q Yld.pk rfl ?_
   exact RL.nil (N.meet (.to rfl) (.to rfl))
  ·
   intro hg33
   refine RL.gskip rfl rfl rfl rfl ?_
   refine RL.gskip rfl rfl rfl rfl ?_
   refine RL.gskip rfl rfl rfl rfl ?_
   refine RL.q Yld.pk rfl ?_
   exact RL.nil (N.meet (.to rfl) (.to rfl))
  refine RL.q (Yld.move rfl) rfl ?_
  refine' RL.or (t := 38) (d := 55) 17 rfl (.of [2, 3, 5, 6, 9, 10, 16, 17, 21, 27, 32, 37] rfl) (.of [0, 1, 2, 3, 4, 5, 105, 106, 109, 110] rfl) ?_ ?_ ?_
  rotate_left 1
  ·
   intro hg38
   refine RL.gq rfl rfl (Yld.fieldAddr fo36_0 rfl) rfl ?_
   refine RL.gq rfl rfl (Yld.ld 109 Tryz.underlying3 rfl rfl rfl rfl) rfl ?_
   refine RL.gq rfl rfl (Yld.bin rfl rfl BinV.eql) rfl ?_
   refine RL.gq rfl rfl (Yld.move rfl) rfl ?_
   refine' RL.and (t := 42) (d := 54) 12 rfl (.of [2, 3, 5, 6, 9, 10, 16, 17, 21, 27, 32, 37, 38, 39, 40, 41] rfl) (.of [0, 1, 2, 3, 4, 5, 105, 106, 109, 110] rfl) ?_ ?_ ?_
   rotate_left 1
   ·
    intro hg42
    refine RL.gq rfl rfl (Yld.fieldAddr fo36_2 rfl) rfl ?_
    refine RL.gq rfl rfl (Yld.ld 109 Tryz.underlying3 rfl rfl rfl rfl) rfl ?_
    refine RL.gq rfl rfl (Yld.bin rfl rfl BinV.lss) rfl ?_
    refine RL.gq rfl rfl (Yld.move rfl) rfl ?_
    refine' RL.or (t := 46) (d := 53) 7 rfl (.of [2, 3, 5, 6, 9, 10, 16, 17, 21, 27, 32, 37, 38, 39, 40, 41, 42, 43, 44, 45] rfl) (.of [0, 1, 2, 3, 4, 5, 105, 106, 109, 110] rfl) ?_ ?_ ?_
    rotate_left 1
    ·
     intro hg46
     refine RL.gq rfl rfl (Yld.fieldAddr fo36_2 rfl) rfl ?_
     refine RL.gq rfl rfl (Yld.ld 109 Tryz.underlying3 rfl rfl rfl rfl) rfl ?_
     refine RL.gq rfl rfl (Yld.bin rfl rfl (by first | exact BinV.rem (by omega) (by omega) | exact BinV.remW (by omega))) rfl ?_
     refine RL.gq rfl rfl (Yld.fieldAddr fo59_0 rfl) rfl ?_
     refine RL.gq rfl rfl (Yld.ld 106 Tryz.underlying3 rfl rfl rfl rfl) rfl ?_
     refine RL.gq rfl rfl (Yld.bin rfl rfl BinV.neq) rfl ?_
     refine RL.gq rfl rfl Yld.pk rfl ?_
     exact RL.nil (N.meet (.to rfl) (.to rfl))
    ·
     intro hg46
     refine RL.gskip rfl rfl rfl rfl ?_
     refine RL.gskip rfl rfl rfl rfl ?_
     refine RL.gskip rfl rfl rfl rfl ?_
     refine RL.gskip rfl rfl rfl rfl ?_
     refine RL.gskip rfl rfl rfl rfl ?_
     refine RL.gskip rfl rfl rfl rfl ?_
     refine RL.gq rfl rfl Yld.pk rfl ?_
     exact RL.nil (N.meet (.to rfl) (.to rfl))
    refine RL.gq rfl rfl Yld.pk rfl ?_
    exact RL.nil (N.meet (.to rfl) (.to rfl))
   ·
    intro hg42
    refine RL.gskip rfl rfl rfl rfl ?_
    refine RL.gskip rfl rfl rfl rfl ?_
    refine RL.gskip rfl rfl rfl rfl ?_
    refine RL.gskip rfl rfl rfl rfl ?_
    refine RL.gskipU rfl rfl rfl ?_
    refine RL.gskipU rfl rfl rfl ?_
    refine RL.gskipU rfl rfl rfl ?_
    refine RL.gskipU rfl rfl rfl ?_
    refine RL.gskipU rfl rfl rfl ?_
    refine RL.gskipU rfl rfl rfl ?_
    refine RL.gskip rfl rfl rfl rfl ?_
    refine RL.gq rfl rfl Yld.pk rfl ?_
    exact RL.nil (N.meet (.to rfl) (.to rfl))
   refine RL.q Yld.pk rfl ?_
   exact RL.nil (N.meet (.to rfl) (.to rfl))
  ·
   intro hg38
   refine RL.gskip rfl rfl rfl rfl ?_
   refine RL.gskip rfl rfl rfl rfl ?_
   refine RL.gskip rfl rfl rfl rfl ?_
   refine RL.gskip rfl rfl rfl rfl ?_
   refine RL.gskipU rfl rfl rfl ?_
   refine RL.gskipU rfl rfl rfl ?_
   refine RL.gskipU rfl rfl rfl ?_
   refine RL.gskipU rfl rfl rfl ?_
   refine RL.gskipU rfl rfl rfl ?_
   refine RL.gskipU rfl rfl rfl ?_
   refine RL.gskipU rfl rfl rfl ?_
   refine RL.gskipU rfl rfl rfl ?_
   refine RL.gskipU rfl rfl rfl ?_
   refine RL.gskipU rfl rfl rfl ?_
   refine RL.gskipU rfl rfl rfl ?_
   refine RL.gskip rfl rfl rfl rfl ?_
   refine RL.q Yld.pk rfl ?_
   exact RL.nil (N.meet (.to rfl) (.to rfl))
  refine RL.nil (N.next ?_)
  refine W.keep (.of [2, 3, 5, 6, 9, 10, 55] rfl) (.of [0, 1, 2, 3, 4, 5, 105, 106, 109, 110] rfl) ?_
  refine W.cond rfl (fun hc55 => ?_) (fun hc55 => ?_)
  ·
   have hdp : (doP (kdOf m c.it) mach t g st c) = (t, 1, 0) := by
     unfold doP
     refine if_pos fun h => ?_
     obtain ⟨h1, h2, h3, h4, h5, h6⟩ := h
     simp only [Bool.or_eq_true, Bool.and_eq_true, decide_eq_true_eq, ne_eq] at hc55
     rcases hc55 with ((((h | h) | h) | h) | h) | ⟨h, h7⟩
     · omega
     · omega
     · exact h h3
     · omega
     · omega
     · obtain ⟨h8, h9⟩ := h6 h
       omega
   refine W.seq (W.region ?_)
   refine RL.q (Yld.ldW 106 Tryz.underlying59 sz59 rfl rfl rfl rfl) rfl ?_
   refine RL.e0 (Eff.storeS (c := 110) _ sz59 rfl rfl rfl rfl rfl rfl rfl (by (try simp only [putAt, List.take, List.drop, List.nil_append, List.cons_append, List.append_nil, List.length_cons, List.length_nil, Nat.add_zero, Nat.zero_add, Nat.reduceAdd]); rfl)) ?_
   rintro _ _ rfl
   refine RL.q (Yld.assign rfl) rfl (RL.q (Yld.assign rfl) rfl (RL.nil (N.next ?_)))
   refine W.keep (.of [10, 11, 12] rfl) (.of [0, 1, 2, 3, 4, 5, 105, 106, 109, 110] rfl) ?_
   refine W.ret ?_
   refine N.then_ret ?_
   exact N.retBy [1, 2, 3, 4, 5] (.cons (by first | exact .cell (c := 110) rfl rfl (fun w hs => run_loadVarA Tryz.underlying59 rfl sz59 rfl (fun j u hj => by rw [Nat.zero_add, PH.sub.cell hs (by first | exact single_self _ _ | exact pset_self _ _ _ | assumption)]; exact hj))) (.cons (.tmp rfl) (.cons (.tmp rfl) .nil))) rfl rfl rfl rfl ⟨x, by rw [hdp]; rfl, hx, by rw [hdp]; exact hxt, rfl⟩
  ·
   have hok : 1 ≤ g ∧ 1 ≤ st ∧ Fits (kdOf m c.it) mach c := by
     simp only [Bool.or_eq_false_iff, Bool.and_eq_false_iff, Bool.not_eq_false', decide_eq_false_iff_not, decide_eq_true_eq, ne_eq, Classical.not_not] at hc55
     obtain ⟨⟨⟨⟨⟨h1, h2⟩, h3⟩, h4⟩, h5⟩, h6⟩ := hc55
     exact ⟨by omega, by omega, h3, by omega, by omega, fun h => by omega⟩
   refine W.skip ?_
   refine N.next ?_
   refine W.seq ?_
   refine W.seq (W.region ?_)
   refine RL.q (Yld.move rfl) rfl ?_
   refine RL.q (Yld.fieldAddr fo59_2 rfl) rfl ?_
   refine RL.q (Yld.ld 106 Tryz.underlying3 rfl rfl rfl rfl) rfl ?_
   refine RL.q (Yld.bin rfl rfl BinV.lss) rfl ?_
   refine RL.nil (N.next ?_)
   refine W.keep (.of [2, 3, 5, 6, 9, 10, 60] rfl) (.of [0, 1, 2, 3, 4, 5, 105, 106, 109, 110] rfl) ?_
   first | refine W.condD rfl (fun hc60 => ?_) (fun hc60 => ?_) | (refine W.cond rfl (fun hc60 => ?_) (fun hc60 => ?_) <;> try simp only [Bool.or_eq_true, Bool.and_eq_true, Bool.not_eq_true', Bool.not_eq_false', decide_eq_true_eq, Bool.or_eq_false_iff, Bool.and_eq_false_iff, decide_eq_false_iff_not, beq_iff_eq, beq_eq_false_iff_ne, ne_eq, Decidable.not_not] at hc60)
   ·
    have hdp : (doP (kdOf m c.it) mach t g st c) = (t, 12, 0) := by
      unfold doP
      rw [if_neg (fun h => h hok)]; exact if_pos (by rw [← hxt.gn]; exact hc60)
    refine W.seq (W.region ?_)
    refine RL.q (Yld.ldW 106 Tryz.underlying59 sz59 rfl rfl rfl rfl) rfl ?_
    refine RL.e0 (Eff.storeS (c := 110) _ sz59 rfl rfl rfl rfl rfl rfl rfl (by (try simp only [putAt, List.take, List.drop, List.nil_append, List.cons_append, List.append_nil, List.length_cons, List.length_nil, Nat.add_zero, Nat.zero_add, Nat.reduceAdd]); rfl)) ?_
    rintro _ _ rfl
    refine RL.q (Yld.assign rfl) rfl (RL.q (Yld.assign rfl) rfl (RL.nil (N.next ?_)))
    refine W.keep (.of [10, 11, 12] rfl) (.of [0, 1, 2, 3, 4, 5, 105, 106, 109, 110] rfl) ?_
    refine W.ret ?_
    refine N.then_ret ?_
    exact N.retBy [1, 2, 3, 4, 5] (.cons (by first | exact .cell (c := 110) rfl rfl (fun w hs => run_loadVarA Tryz.underlying59 rfl sz59 rfl (fun j u hj => by rw [Nat.zero_add, PH.sub.cell hs (by first | exact single_self _ _ | exact pset_self _ _ _ | assumption)]; exact hj))) (.cons (.tmp rfl) (.cons (.tmp rfl) .nil))) rfl rfl rfl rfl ⟨x, by rw [hdp]; rfl, hx, by rw [hdp]; exact hxt, rfl⟩
   ·
    have hgn : ¬ g < t.gen := by rw [← hxt.gn]; exact hc60
    refine W.skip ?_
    refine N.next ?_
    refine W.cutK (ι := Rt) (fun y => (y.In ∧ y.Is (Fen.seen t g) ∧ (1 ≤ g ∧ 1 ≤ st ∧ Fits (kdOf m c.it) mach c) ∧ ¬ g < t.gen)) (fun y => []) (fun y => [(2, y.HU), (3, y.HS), (4, y.HV), (5, y.HC), (106, single b6 (.cells [.int .i64 mach, .slice y.pu y.us.length y.cu, .int .i64 y.gen, .slice y.ps y.st.length y.cs, .slice y.pv y.va.length y.cv, .slice y.pc y.cl.length y.cc].toArray 59 (0, 0)))]) (.of [3, 5, 6, 9, 10] rfl) (.of [0, 1, 105, 109, 110] rfl) ?_ ?_
    ·
     refine W.seq (W.region ?_)
     refine RL.q (Yld.move rfl) rfl ?_
     refine RL.q (Yld.fieldAddr fo59_2 rfl) rfl ?_
     refine RL.q (Yld.ld 106 Tryz.underlying3 rfl rfl rfl rfl) rfl ?_
     refine RL.q (Yld.bin rfl rfl BinV.gtr) rfl ?_
     refine RL.nil (N.next ?_)
     refine W.keep (.of [2, 3, 5, 6, 9, 10, 65] rfl) (.of [0, 1, 2, 3, 4, 5, 105, 106, 109, 110] rfl) ?_
     first | refine W.condD rfl (fun hc65 => ?_) (fun hc65 => ?_) | (refine W.cond rfl (fun hc65 => ?_) (fun hc65 => ?_) <;> try simp only [Bool.or_eq_true, Bool.and_eq_true, Bool.not_eq_true', Bool.not_eq_false', decide_eq_true_eq, Bool.or_eq_false_iff, Bool.and_eq_false_iff, decide_eq_false_iff_not, beq_iff_eq, beq_eq_false_iff_ne, ne_eq, Decidable.not_not] at hc65)
     ·
      refine W.region ?_
      refine RL.q (Yld.move rfl) rfl ?_
      refine RL.q (Yld.fieldAddr fo59_2 rfl) rfl ?_
      refine RL.e0 (Eff.storeS (c := 106) _ sz3 rfl rfl rfl rfl rfl rfl rfl (by (try simp only [putAt, List.take, List.drop, List.nil_append, List.cons_append, List.append_nil, List.length_cons, List.length_nil, Nat.add_zero, Nat.zero_add, Nat.reduceAdd]); rfl)) ?_
      rintro _ _ rfl
      refine RL.q (Yld.fieldAddr fo59_3 rfl) rfl ?_
      refine RL.e0 (Eff.storeS (c := 106) _ sz55 rfl rfl rfl rfl rfl rfl rfl (by (try simp only [putAt, List.take, List.drop, List.nil_append, List.cons_append, List.append_nil, List.length_cons, List.length_nil, Nat.add_zero, Nat.zero_add, Nat.reduceAdd]); rfl)) ?_
      rintro _ _ rfl
      refine RL.q (Yld.fieldAddr fo59_4 rfl) rfl ?_
      refine RL.e0 (Eff.storeS (c := 106) _ sz56 rfl rfl rfl rfl rfl rfl rfl (by (try simp only [putAt, List.take, List.drop, List.nil_append, List.cons_append, List.append_nil, List.length_cons, List.length_nil, Nat.add_zero, Nat.zero_add, Nat.reduceAdd]); rfl)) ?_
      rintro _ _ rfl
      refine RL.nil ?_
      exact N.famK (x.newG g) ⟨hx.newG g, hxt.seen1 hc65, hok, hgn⟩ .nil (.to rfl) (.to rfl) (.to rfl)
     ·
      refine W.skip ?_
      exact N.famK x ⟨hx, hxt.seen0 hc65, hok, hgn⟩ .nil (.to rfl) (.to rfl) (.to rfl)
    rintro y ⟨hy, hys, hok, hgn⟩
    refine W.keep (.of [3, 5, 6, 9, 10] rfl) (.of [2, 3, 4, 5, 106, 0, 1, 105, 109, 110] rfl) ?_
    obtain ⟨hSu, hSs, hSv, hSc⟩ := id hy
    have hmu := hSu.len_le
    have hms := hSs.len_le
    have hmv := hSv.len_le
    simp only [List.length_map, iz_len, maxLen] at hmu hms hmv
    have hdl : (Fen.seen t g).dn.length ≤ t.dn.length := by unfold Fen.seen; split; exact Nat.zero_le _; exact Nat.le_refl _
    have hsl : y.st.length = (Fen.seen t g).dn.length := by rw [hys.st, List.length_map]
    have hvl := hys.len
    refine W.seq ?_
    refine W.seq (W.region ?_)
    refine RL.q (Yld.assign rfl) rfl (RL.nil (N.next ?_))
    refine W.block ?_
    refine W.loopK (ι := Nat) (fun j => (j ≤ y.st.length ∧ ∀ (i : Nat) a, i < j → y.st[i]? = some a → a ≠ st)) (fun j => [(13, .int .i64 (j : Nat))]) (fun j => []) (fun j => y.st.length - j) (.of [3, 5, 6, 9, 10] rfl) (.of [0, 1, 2, 3, 4, 5, 105, 106, 109, 110] rfl) 0 ?_ ?_ ?_ ?_
    · exact ⟨Nat.zero_le _, fun _ _ h => absurd h (Nat.not_lt_zero _)⟩
    · exact (.as rfl (by first | rfl | (simp; done) | (congr 1; simp; done) | (congr 1; omega)) .nil)
    · exact .nil
    rintro j ⟨hj, hI⟩
    refine W.keep (.of [13, 3, 5, 6, 9, 10] rfl) (.of [0, 1, 2, 3, 4, 5, 105, 106, 109, 110] rfl) ?_
    refine W.seq ?_
    refine W.seq (W.region ?_)
    refine RL.q (Yld.move rfl) rfl ?_
    refine RL.q (Yld.fieldAddr fo59_3 rfl) rfl ?_
    refine RL.q (Yld.ld 106 Tryz.underlying55 rfl rfl rfl rfl) rfl ?_
    refine RL.q (Yld.lenSl Tryz.underlying55 rfl) rfl ?_
    refine RL.q (Yld.bin rfl rfl BinV.lss) rfl ?_
    refine RL.nil (N.next ?_)
    refine W.keep (.of [3, 5, 6, 9, 10, 13, 74] rfl) (.of [0, 1, 2, 3, 4, 5, 105, 106, 109, 110] rfl) ?_
    first | refine W.condD rfl (fun hc74 => ?_) (fun hc74 => ?_) | (refine W.cond rfl (fun hc74 => ?_) (fun hc74 => ?_) <;> try simp only [Bool.or_eq_true, Bool.and_eq_true, Bool.not_eq_true', Bool.not_eq_false', decide_eq_true_eq, Bool.or_eq_false_iff, Bool.and_eq_false_iff, decide_eq_false_iff_not, beq_iff_eq, beq_eq_false_iff_ne, ne_eq, Decidable.not_not] at hc74)
    ·
     obtain ⟨a, ha⟩ : ∃ a, y.st[j]? = some a := ⟨_, List.getElem?_eq_getElem (by omega)⟩
     have hla := iz_get ha
     obtain ⟨v, hv2⟩ : ∃ v, y.va[j]? = some v := ⟨_, List.getElem?_eq_getElem (by have := hys.len; omega)⟩
     have hlv := iz_get hv2
     refine W.skip ?_
     refine N.next ?_
     refine W.seq ?_
     refine W.block ?_
     refine W.seq (W.region ?_)
     refine RL.q (Yld.fieldAddr fo59_3 rfl) rfl ?_
     refine RL.q (Yld.ld 106 Tryz.underlying55 rfl rfl rfl rfl) rfl ?_
     refine RL.q (Yld.move rfl) rfl ?_
     refine RL.q (Yld.ixr Tryz.underlying55 sz3 rfl rfl) rfl ?_
     refine RL.q (by first | exact (by first | exact Yld.loadRow1 (cl := 1) Tryz.underlying3 rfl rfl rfl (by first | assumption | exact Own.sl (by assumption)) (by assumption) | exact Yld.loadRow1 (cl := 2) Tryz.underlying3 rfl rfl rfl (by first | assumption | exact Own.sl (by assumption)) (by assumption) | exact Yld.loadRow1 (cl := 3) Tryz.underlying3 rfl rfl rfl (by first | assumption | exact Own.sl (by assumption)) (by assumption) | exact Yld.loadRow1 (cl := 4) Tryz.underlying3 rfl rfl rfl (by first | assumption | exact Own.sl (by assumption)) (by assumption) | exact Yld.loadRow1 (cl := 5) Tryz.underlying3 rfl rfl rfl (by first | assumption | exact Own.sl (by assumption)) (by assumption) | exact Yld.loadRow1 (cl := 105) Tryz.underlying3 rfl rfl rfl (by first | assumption | exact Own.sl (by assumption)) (by assumption) | exact Yld.loadRow1 (cl := 106) Tryz.underlying3 rfl rfl rfl (by first | assumption | exact Own.sl (by assumption)) (by assumption) | exact Yld.loadRow1 (cl := 109) Tryz.underlying3 rfl rfl rfl (by first | assumption | exact Own.sl (by assumption)) (by assumption) | exact Yld.loadRow1 (cl := 110) Tryz.underlying3 rfl rfl rfl (by first | assumption | exact Own.sl (by assumption)) (by assumption)) | exact (by first | exact Yld.lrF 1 0 Tryz.underlying3 rfl rfl rfl rfl | exact Yld.lrF 2 0 Tryz.underlying3 rfl rfl rfl rfl | exact Yld.lrF 3 0 Tryz.underlying3 rfl rfl rfl rfl | exact Yld.lrF 4 0 Tryz.underlying3 rfl rfl rfl rfl | exact Yld.lrF 5 0 Tryz.underlying3 rfl rfl rfl rfl | exact Yld.lrF 105 0 Tryz.underlying3 rfl rfl rfl rfl | exact Yld.lrF 106 0 Tryz.underlying3 rfl rfl rfl rfl | exact Yld.lrF 109 0 Tryz.underlying3 rfl rfl rfl rfl | exact Yld.lrF 110 0 Tryz.underlying3 rfl rfl rfl rfl)) rfl ?_
     refine RL.q (Yld.move rfl) rfl ?_
     refine RL.q (Yld.bin rfl rfl BinV.eql) rfl ?_
     refine RL.nil (N.next ?_)
     refine W.keep (.of [3, 5, 6, 9, 10, 13, 83] rfl) (.of [0, 1, 2, 3, 4, 5, 105, 106, 109, 110] rfl) ?_
     first | refine W.condD rfl (fun hc83 => ?_) (fun hc83 => ?_) | (refine W.cond rfl (fun hc83 => ?_) (fun hc83 => ?_) <;> try simp only [Bool.or_eq_true, Bool.and_eq_true, Bool.not_eq_true', Bool.not_eq_false', decide_eq_true_eq, Bool.or_eq_false_iff, Bool.and_eq_false_iff, decide_eq_false_iff_not, beq_iff_eq, beq_eq_false_iff_ne, ne_eq, Decidable.not_not] at hc83)
     ·
      have hlk := hys.hit (by rw [ha, show a = st from hc83]) hv2 hI
      have hdp : (doP (kdOf m c.it) mach t g st c) = (Fen.seen t g, 0, v) := by
        unfold doP
        rw [if_neg (fun h => h hok), if_neg hgn, hlk]
      refine W.seq ?_
      refine W.draw (.q 0 (.q 1 (.q 2 (.q 3 (.q 4 (.q 5 (.one 6 (.q 7 (.q 8 .done))))))))) (.of [0, 1, 2, 3, 4, 5, 105, 106, 109] rfl) mix (by kernel_rfl) (by kernel_rfl) ?_
      refine DL.q rfl (Yld.ldW 106 Tryz.underlying59 sz59 rfl rfl rfl rfl) rfl ?_
      refine DL.q rfl (Yld.fieldAddr fo59_4 rfl) rfl ?_
      refine DL.q rfl (Yld.ld 106 Tryz.underlying56 rfl rfl rfl rfl) rfl ?_
      refine DL.q rfl (Yld.move rfl) rfl ?_
      refine DL.q rfl (Yld.ixr Tryz.underlying56 sz2 rfl rfl) rfl ?_
      refine DL.q rfl (by first | exact (by first | exact Yld.loadRow1 (cl := 1) Tryz.underlying2 rfl rfl rfl (by first | assumption | exact Own.sl (by assumption)) (by assumption) | exact Yld.loadRow1 (cl := 2) Tryz.underlying2 rfl rfl rfl (by first | assumption | exact Own.sl (by assumption)) (by assumption) | exact Yld.loadRow1 (cl := 3) Tryz.underlying2 rfl rfl rfl (by first | assumption | exact Own.sl (by assumption)) (by assumption) | exact Yld.loadRow1 (cl := 4) Tryz.underlying2 rfl rfl rfl (by first | assumption | exact Own.sl (by assumption)) (by assumption) | exact Yld.loadRow1 (cl := 5) Tryz.underlying2 rfl rfl rfl (by first | assumption | exact Own.sl (by assumption)) (by assumption) | exact Yld.loadRow1 (cl := 105) Tryz.underlying2 rfl rfl rfl (by first | assumption | exact Own.sl (by assumption)) (by assumption) | exact Yld.loadRow1 (cl := 106) Tryz.underlying2 rfl rfl rfl (by first | assumption | exact Own.sl (by assumption)) (by assumption) | exact Yld.loadRow1 (cl := 109) Tryz.underlying2 rfl rfl rfl (by first | assumption | exact Own.sl (by assumption)) (by assumption) | exact Yld.loadRow1 (cl := 110) Tryz.underlying2 rfl rfl rfl (by first | assumption | exact Own.sl (by assumption)) (by assumption)) | exact (by first | exact Yld.lrF 1 0 Tryz.underlying2 rfl rfl rfl rfl | exact Yld.lrF 2 0 Tryz.underlying2 rfl rfl rfl rfl | exact Yld.lrF 3 0 Tryz.underlying2 rfl rfl rfl rfl | exact Yld.lrF 4 0 Tryz.underlying2 rfl rfl rfl rfl | exact Yld.lrF 5 0 Tryz.underlying2 rfl rfl rfl rfl | exact Yld.lrF 105 0 Tryz.underlying2 rfl rfl rfl rfl | exact Yld.lrF 106 0 Tryz.underlying2 rfl rfl rfl rfl | exact Yld.lrF 109 0 Tryz.underlying2 rfl rfl rfl rfl | exact Yld.lrF 110 0 Tryz.underlying2 rfl rfl rfl rfl)) rfl ?_
      refine DL.one0 rfl (Eff.storeS (c := 110) _ sz59 rfl rfl rfl rfl rfl rfl rfl (by (try simp only [putAt, List.take, List.drop, List.nil_append, List.cons_append, List.append_nil, List.length_cons, List.length_nil, Nat.add_zero, Nat.zero_add, Nat.reduceAdd]); rfl)) (by rintro _ _ rfl; repeat (first | exact .nil | refine .cons rfl ?_)) ?_
      rintro _ _ rfl
      refine DL.q rfl (Yld.assign rfl) rfl ?_
      refine DL.q rfl (Yld.assign rfl) rfl ?_
      refine DL.done ?_
      refine N.next ?_
      refine W.keep (.of [10, 11, 12] rfl) (.of [0, 1, 2, 3, 4, 5, 105, 106, 109, 110] rfl) ?_
      refine W.ret ?_
      refine N.block_ret ?_
      refine N.then_ret ?_
      refine N.then_ret ?_
      refine N.block_ret ?_
      refine N.then_ret ?_
      exact N.retBy [1, 2, 3, 4, 5] (.cons (by first | exact .cell (c := 110) rfl rfl (fun w hs => run_loadVarA Tryz.underlying59 rfl sz59 rfl (fun j u hj => by rw [Nat.zero_add, PH.sub.cell hs (by first | exact single_self _ _ | exact pset_self _ _ _ | assumption)]; exact hj))) (.cons (.tmp rfl) (.cons (.tmp rfl) .nil))) rfl rfl rfl rfl ⟨y, by rw [hdp]; rfl, hy, by rw [hdp]; exact hys, rfl⟩
     ·
      refine W.skip ?_
      refine N.block_normal ?_
      refine N.next ?_
      refine W.region ?_
      refine RL.q (Yld.move rfl) rfl ?_
      refine RL.q (Yld.bin rfl rfl (by first | exact BinV.add (by omega) (by omega) | exact BinV.addW)) rfl ?_
      refine RL.q (Yld.assign rfl) rfl (RL.nil ?_)
      exact N.famK (j + 1) ⟨⟨by omega, fun q b hq hb3 => (Nat.lt_succ_iff_lt_or_eq.1 hq).elim (fun h => hI q b h hb3) (fun e => by subst e; rw [ha] at hb3; cases hb3; exact hc83)⟩, by omega⟩ (.as rfl (by first | rfl | (simp; done) | (congr 1; simp; done) | (congr 1; omega)) .nil) (.to rfl) .nil (.to rfl)
    ·
     have hlk := hys.miss fun i a hi ha => hI i a (by omega) ha
     have hb2 : y.us.length ≤ 900000 := by rw [hys.us, seen_us]; exact hb
     have hI2 : Inv (kdOf m) mach y.us := by rw [hys.us]; exact (seen_ti hT g).inv
     have hey : (execP (decide (kdOf m c.it = 2)) y.us y.cl c) = (execP (decide (kdOf m c.it = 2)) (Fen.seen t g).us (Fen.seen t g).cs c) := by rw [hys.us, hys.cl]
     refine W.exit ?_
     refine N.then_exit ?_
     refine N.then_exit ?_
     refine N.block_eq ?_
     refine N.next ?_
     refine W.seq (W.region ?_)
     refine RL.q (Yld.ldW 105 Tryz.underlying29 sz29 rfl rfl rfl rfl) rfl ?_
     refine RL.q (Yld.ldW 106 Tryz.underlying59 sz59 rfl rfl rfl rfl) rfl ?_
     refine RL.q (Yld.ldW 109 Tryz.underlying36 sz36 rfl rfl rfl rfl) rfl ?_
     refine RL.e (Eff.call ent104 [1, 2, 5] [1, 2, 5] (.cons rfl (.cons rfl (.cons rfl .nil))) (rexecute_ct m H1 hM y mach hy c hI2 hok.2.2 hb2) rfl rfl rfl rfl (by rintro _ _ ⟨_, _, _, _, _, rfl⟩; rfl)) rfl ?_
     rintro _ _ ⟨_, ⟨He, pe, ce, rfl, hSe, rfl⟩, rfl⟩
     rw [hey] at hSe ⊢
     refine RL.q (Yld.move rfl) rfl ?_
     refine RL.q (Yld.extract rfl rfl) rfl ?_
     refine RL.q (Yld.extract rfl rfl) rfl ?_
     refine RL.q (Yld.extract rfl rfl) rfl ?_
     refine RL.e0 (Eff.storeS (c := 106) _ sz59 rfl rfl rfl rfl rfl rfl rfl (by (try simp only [putAt, List.take, List.drop, List.nil_append, List.cons_append, List.append_nil, List.length_cons, List.length_nil, Nat.add_zero, Nat.zero_add, Nat.reduceAdd]); rfl)) ?_
     rintro _ _ rfl
     refine RL.q (Yld.assign rfl) rfl (RL.q (Yld.assign rfl) rfl (RL.nil (N.next ?_)))
     refine W.keep (.of [3, 6, 10, 14, 15] rfl) (.of [0, 1, 2, 3, 4, 5, 105, 106, 109, 110] rfl) ?_
     refine W.seq ?_
     refine W.seq (W.region ?_)
     refine RL.q (Yld.move rfl) rfl ?_
     refine RL.q (Yld.bin rfl rfl BinV.eql) rfl ?_
     refine RL.nil (N.next ?_)
     first | refine W.condD rfl (fun hc99 => ?_) (fun hc99 => ?_) | (refine W.cond rfl (fun hc99 => ?_) (fun hc99 => ?_) <;> try simp only [Bool.or_eq_true, Bool.and_eq_true, Bool.not_eq_true', Bool.not_eq_false', decide_eq_true_eq, Bool.or_eq_false_iff, Bool.and_eq_false_iff, decide_eq_false_iff_not, beq_iff_eq, beq_eq_false_iff_ne, ne_eq, Decidable.not_not] at hc99)
     ·
      have hdp : (doP (kdOf m c.it) mach t g st c) = ({ Fen.seen t g with us := (execP (decide (kdOf m c.it = 2)) (Fen.seen t g).us (Fen.seen t g).cs c).1, dn := (Fen.seen t g).dn ++ [(st, (execP (decide (kdOf m c.it = 2)) (Fen.seen t g).us (Fen.seen t g).cs c).2.2)] }, 0, (execP (decide (kdOf m c.it = 2)) (Fen.seen t g).us (Fen.seen t g).cs c).2.2) := by
        unfold doP
        rw [if_neg (fun h => h hok), if_neg hgn, hlk]
        exact if_pos hc99
      refine W.seq (W.region ?_)
      refine RL.e (Eff.buildSlice 200 Tryz.underlying55 sz3 zc3 rfl rfl .nil rfl) rfl ?_
      rintro _ _ ⟨b100, rfl, rfl⟩
      refine RL.q (Yld.fieldAddr fo59_3 rfl) rfl ?_
      refine RL.q (Yld.ld 106 Tryz.underlying55 rfl rfl rfl rfl) rfl ?_
      refine RL.e (Eff.appendE (tc := 200) (sc := 3) (ms := y.st) (ls := ([] : List Int)) (fun z : Int => [Value.int .i64 z]) Tryz.underlying55 el3 rfl rfl rfl rfl (iz_none rfl) rfl hSs rfl (iz_one1 _) (by decide) (by simp; omega) (by simp [maxLen]; omega)) rfl ?_
      rintro _ _ ⟨H1, p1, c1, rfl, hO1, rfl⟩
      refine RL.q (Yld.move rfl) rfl ?_
      refine RL.e (Eff.buildSlice 205 Tryz.underlying55 sz3 zc3 rfl rfl (.cons rfl rfl .nil) rfl) rfl ?_
      rintro _ _ ⟨b105, rfl, rfl⟩
      refine RL.e (Eff.appendE (tc := 200) (sc := 205) (ms := [st]) (fun z : Int => [Value.int .i64 z]) Tryz.underlying55 el3 rfl rfl rfl rfl hO1 rfl (iz_single rfl) rfl (iz_one1 _) (by decide) (by simp; omega) (by simp [maxLen]; omega)) rfl ?_
      rintro _ _ ⟨H2, p2, c2, rfl, hO2, rfl⟩
      refine RL.q (Yld.fieldAddr fo59_3 rfl) rfl ?_
      refine RL.e0 (Eff.storeS (c := 106) _ sz55 rfl rfl rfl rfl rfl rfl rfl (by (try simp only [putAt, List.take, List.drop, List.nil_append, List.cons_append, List.append_nil, List.length_cons, List.length_nil, Nat.add_zero, Nat.zero_add, Nat.reduceAdd]); rfl)) ?_
      rintro _ _ rfl
      refine RL.nil (N.next ?_)
      refine W.keep (.of [6, 10, 14, 15] rfl) (.of [0, 1, 2, 3, 4, 5, 105, 106, 109, 110, 200, 205] rfl) ?_
      refine W.region ?_
      refine RL.e (Eff.buildSlice 208 Tryz.underlying56 sz2 zc2 rfl rfl .nil rfl) rfl ?_
      rintro _ _ ⟨b108, rfl, rfl⟩
      refine RL.q (Yld.fieldAddr fo59_4 rfl) rfl ?_
      refine RL.q (Yld.ld 106 Tryz.underlying56 rfl rfl rfl rfl) rfl ?_
      refine RL.e (Eff.appendE (tc := 208) (sc := 4) (ms := y.va) (ls := ([] : List Int)) (fun z : Int => [Value.int .i64 z]) Tryz.underlying56 el2 rfl rfl rfl rfl (iz_none rfl) rfl hSv rfl (iz_one1 _) (by decide) (by simp; omega) (by simp [maxLen]; omega)) rfl ?_
      rintro _ _ ⟨H3, p3, c3, rfl, hO3, rfl⟩
      refine RL.q (Yld.move rfl) rfl ?_
      refine RL.e (Eff.buildSlice 213 Tryz.underlying56 sz2 zc2 rfl rfl (.cons rfl rfl .nil) rfl) rfl ?_
      rintro _ _ ⟨b113, rfl, rfl⟩
      refine RL.e (Eff.appendE (tc := 208) (sc := 213) (ms := [(execP (decide (kdOf m c.it = 2)) (Fen.seen t g).us (Fen.seen t g).cs c).2.2]) (fun z : Int => [Value.int .i64 z]) Tryz.underlying56 el2 rfl rfl rfl rfl hO3 rfl (iz_single rfl) rfl (iz_one1 _) (by decide) (by simp; omega) (by simp [maxLen]; omega)) rfl ?_
      rintro _ _ ⟨H4, p4, c4, rfl, hO4, rfl⟩
      refine RL.q (Yld.fieldAddr fo59_4 rfl) rfl ?_
      refine RL.e0 (Eff.storeS (c := 106) _ sz56 rfl rfl rfl rfl rfl rfl rfl (by (try simp only [putAt, List.take, List.drop, List.nil_append, List.cons_append, List.append_nil, List.length_cons, List.length_nil, Nat.add_zero, Nat.zero_add, Nat.reduceAdd]); rfl)) ?_
      rintro _ _ rfl
      refine RL.nil (N.next ?_)
      refine W.keep (.of [6, 10, 14, 15] rfl) (.of [0, 1, 2, 3, 4, 5, 105, 106, 109, 110, 200, 205, 208, 213] rfl) ?_
      refine W.seq (W.region ?_)
      refine RL.q (Yld.ldW 106 Tryz.underlying59 sz59 rfl rfl rfl rfl) rfl ?_
      refine RL.q (Yld.move rfl) rfl (RL.q (Yld.move rfl) rfl ?_)
      refine RL.e0 (Eff.storeS (c := 110) _ sz59 rfl rfl rfl rfl rfl rfl rfl (by (try simp only [putAt, List.take, List.drop, List.nil_append, List.cons_append, List.append_nil, List.length_cons, List.length_nil, Nat.add_zero, Nat.zero_add, Nat.reduceAdd]); rfl)) ?_
      rintro _ _ rfl
      refine RL.q (Yld.assign rfl) rfl (RL.q (Yld.assign rfl) rfl (RL.nil (N.next ?_)))
      refine W.keep (.of [10, 11, 12] rfl) (.of [0, 1, 2, 3, 4, 5, 105, 106, 109, 110, 200, 205, 208, 213] rfl) ?_
      refine W.ret ?_
      exact N.retBy [1, 2, 200, 208, 5] (.cons (by first | exact .cell (c := 110) rfl rfl (fun w hs => run_loadVarA Tryz.underlying59 rfl sz59 rfl (fun j u hj => by rw [Nat.zero_add, PH.sub.cell hs (by first | exact single_self _ _ | exact pset_self _ _ _ | assumption)]; exact hj))) (.cons (.tmp rfl) (.cons (.tmp rfl) .nil))) rfl rfl rfl rfl ⟨(y.setU pe ce (execP (decide (kdOf m c.it = 2)) (Fen.seen t g).us (Fen.seen t g).cs c).1 He).add st (execP (decide (kdOf m c.it = 2)) (Fen.seen t g).us (Fen.seen t g).cs c).2.2 p2 c2 H2 p4 c4 H4, by rw [hdp, hc99]; rfl, (hy.setU hSe).add hO2.sl hO4.sl, by rw [hdp]; exact hys.setU.add, rfl⟩
     ·
      have hdp : (doP (kdOf m c.it) mach t g st c) = ({ Fen.seen t g with us := (execP (decide (kdOf m c.it = 2)) (Fen.seen t g).us (Fen.seen t g).cs c).1 }, (execP (decide (kdOf m c.it = 2)) (Fen.seen t g).us (Fen.seen t g).cs c).2.1, 0) := by
        unfold doP
        rw [if_neg (fun h => h hok), if_neg hgn, hlk]
        exact if_neg hc99
      have hv0 : (execP (decide (kdOf m c.it = 2)) (Fen.seen t g).us (Fen.seen t g).cs c).2.2 = 0 := exec_err0 hc99
      refine W.skip ?_
      refine N.next ?_
      refine W.seq (W.region ?_)
      refine RL.q (Yld.ldW 106 Tryz.underlying59 sz59 rfl rfl rfl rfl) rfl ?_
      refine RL.q (Yld.move rfl) rfl (RL.q (Yld.move rfl) rfl ?_)
      refine RL.e0 (Eff.storeS (c := 110) _ sz59 rfl rfl rfl rfl rfl rfl rfl (by (try simp only [putAt, List.take, List.drop, List.nil_append, List.cons_append, List.append_nil, List.length_cons, List.length_nil, Nat.add_zero, Nat.zero_add, Nat.reduceAdd]); rfl)) ?_
      rintro _ _ rfl
      refine RL.q (Yld.assign rfl) rfl (RL.q (Yld.assign rfl) rfl (RL.nil (N.next ?_)))
      refine W.keep (.of [10, 11, 12] rfl) (.of [0, 1, 2, 3, 4, 5, 105, 106, 109, 110] rfl) ?_
      refine W.ret ?_
      exact N.retBy [1, 2, 3, 4, 5] (.cons (by first | exact .cell (c := 110) rfl rfl (fun w hs => run_loadVarA Tryz.underlying59 rfl sz59 rfl (fun j u hj => by rw [Nat.zero_add, PH.sub.cell hs (by first | exact single_self _ _ | exact pset_self _ _ _ | assumption)]; exact hj))) (.cons (.tmp rfl) (.cons (.tmp rfl) .nil))) rfl rfl rfl rfl ⟨y.setU pe ce (execP (decide (kdOf m c.it = 2)) (Fen.seen t g).us (Fen.seen t g).cs c).1 He, by rw [hdp, ← hv0]; rfl, hy.setU hSe, by rw [hdp]; exact hys.setU, rfl⟩
end Go.Proofs.YtboapdcmaeojgaaGreatDoor
namespace Go.Proofs.YtboapdcmaeojgaaGreatDoor
open SL Cat Fen
set_option linter.unusedVariables false
set_option linter.unusedSimpArgs false
def Fen.Rt.setC (x : Rt) (p : Option Addr) (n : Nat) (cl : List Cl) (H : PH) : Rt := { x with pc := p, cc := n, cl := cl, HC := H }
theorem Fen.Rt.In.setC {x : Rt} (h : x.In) {p : Option Addr} {c : Nat} {l : List Cl} {H : PH} (hS : Sl H p c 4 (l.map Cl.c)) : (x.setC p c l H).In := ⟨h.u, h.s, h.v, hS⟩
theorem Fen.Rt.Is.setC {x : Rt} {t : T} (h : x.Is t) {p : Option Addr} {c : Nat} {l : List Cl} {H : PH} : (x.setC p c l H).Is { t with cs := l } := ⟨h.us, h.gn, h.st, h.va, rfl⟩
theorem fvU_fnd {us : List U} {it : Int} {u : U} (h : fvU us it = (u, true)) : ∃ i, fnd us it = some i ∧ us[i]? = some u := fndU_get (fvU_t h)
set_option maxRecDepth 100000 in
set_option maxHeartbeats 3200000 in
theorem rbegin_ct (m : Md) (H1 : PH) (hM : m.In H1) (x : Rt) (mach : Int) (hx : x.In) (t : T) (hxt : x.Is t) (c : Cl) (hb : t.cs.length ≤ 900000) : Ct Tryz.prog 63 [.agg [.slice m.psi m.si.length m.csi, .slice m.pfe m.fe.length m.cfe, .slice m.prk m.rk.length m.crk, .slice m.pmc m.mc.length m.cmc, .slice m.pln m.ln.length m.cln, .slice m.pis m.is.length m.cis, .int .i64 m.da, .int .i64 m.sl, .int .i64 m.re, .int .i64 m.fa, .slice m.prl m.rl.length m.crl].toArray, .agg [.int .i64 mach, .slice x.pu x.us.length x.cu, .int .i64 x.gen, .slice x.ps x.st.length x.cs, .slice x.pv x.va.length x.cv, .slice x.pc x.cl.length x.cc].toArray, .agg [.int .i64 c.it, .int .i64 c.cl, .int .i64 c.nu, .int .i64 c.va].toArray] [H1, x.HU, x.HS, x.HV, x.HC] (fun v Hs => ∃ y : Rt, v = .tuple [.agg [.int .i64 mach, .slice y.pu y.us.length y.cu, .int .i64 y.gen, .slice y.ps y.st.length y.cs, .slice y.pv y.va.length y.cv, .slice y.pc y.cl.length y.cc].toArray, .int .i64 (beginP (kdOf m c.it) t c).2].toArray ∧ y.In ∧ y.Is (beginP (kdOf m c.it) t c).1 ∧ Hs = [H1, y.HU, y.HS, y.HV, y.HC]) := by
  refine Ct.body Tryz.func63 rfl Tryz.ntmps63 rfl ?_
  intro E F
  obtain ⟨hSu, hSs, hSv, hSc⟩ := id hx
  have hmu := hSu.len_le
  have hms := hSs.len_le
  have hmv := hSv.len_le
  have hmc := hSc.len_le
  simp only [List.length_map, iz_len, maxLen] at hmu hms hmv hmc
  have hcl : x.cl.length = t.cs.length := by rw [hxt.cl]
  refine W.seq (W.region ?_)
  refine RL.e (Eff.box 103 _ rfl rfl) rfl ?_
  rintro _ _ ⟨b3, rfl, rfl⟩
  refine RL.e (Eff.box 104 _ rfl rfl) rfl ?_
  rintro _ _ ⟨b4, rfl, rfl⟩
  refine RL.e (Eff.box 105 _ rfl rfl) rfl ?_
  rintro _ _ ⟨b5, rfl, rfl⟩
  refine RL.e (Eff.alloc 106 zc59) rfl ?_
  rintro _ _ ⟨b6, rfl, rfl⟩
  refine RL.q (Yld.assign rfl) rfl (RL.nil (N.next ?_))
  refine W.keep (.of [3, 4, 5, 6] rfl) (.of [0, 1, 2, 3, 4, 5, 103, 104, 105, 106] rfl) ?_
  refine W.seq ?_
  refine W.seq (W.region ?_)
  refine RL.q (Yld.fieldAddr fo38_1 rfl) rfl ?_
  refine RL.q (Yld.ld 105 Tryz.underlying3 rfl rfl rfl rfl) rfl ?_
  refine RL.q (Yld.bin rfl rfl BinV.lss) rfl ?_
  refine RL.q (Yld.move rfl) rfl ?_
  refine' RL.or (t := 14) (d := 18) 4 rfl (.of [3, 4, 5, 6, 11, 12, 13] rfl) (.of [0, 1, 2, 3, 4, 5, 103, 104, 105, 106] rfl) ?_ ?_ ?_
  rotate_left 1
  ·
   intro hg14
   refine RL.gq rfl rfl (Yld.fieldAddr fo38_2 rfl) rfl ?_
   refine RL.gq rfl rfl (Yld.ld 105 Tryz.underlying3 rfl rfl rfl rfl) rfl ?_
   refine RL.gq rfl rfl (Yld.bin rfl rfl BinV.lss) rfl ?_
   refine RL.q Yld.pk rfl ?_
   exact RL.nil (N.meet (.to rfl) (.to rfl))
  ·
   intro hg14
   refine RL.gskip rfl rfl rfl rfl ?_
   refine RL.gskip rfl rfl rfl rfl ?_
   refine RL.gskip rfl rfl rfl rfl ?_
   refine RL.q Yld.pk rfl ?_
   exact RL.nil (N.meet (.to rfl) (.to rfl))
  refine RL.q (Yld.move rfl) rfl ?_
  refine' RL.or (t := 19) (d := 25) 6 rfl (.of [3, 4, 5, 6, 11, 12, 13, 18] rfl) (.of [0, 1, 2, 3, 4, 5, 103, 104, 105, 106] rfl) ?_ ?_ ?_
  rotate_left 1
  ·
   intro hg19
   refine RL.gq rfl rfl (Yld.ldW 103 Tryz.underlying29 sz29 rfl rfl rfl rfl) rfl ?_
   refine RL.gq rfl rfl (Yld.fieldAddr fo38_0 rfl) rfl ?_
   refine RL.gq rfl rfl (Yld.ld 105 Tryz.underlying3 rfl rfl rfl rfl) rfl ?_
   refine RL.ge rfl rfl (Eff.call ent47 [1] [1] (.cons rfl (.cons rfl .nil)) (rkind_ct m H1 hM c.it) rfl rfl rfl rfl (by rintro _ _ ⟨_, rfl⟩; rfl)) rfl ?_
   rintro _ _ ⟨_, ⟨rfl, rfl⟩, rfl⟩
   refine RL.gq rfl rfl (Yld.bin rfl rfl BinV.neq) rfl ?_
   refine RL.q Yld.pk rfl ?_
   exact RL.nil (N.meet (.to rfl) (.to rfl))
  ·
   intro hg19
   refine RL.gskip rfl rfl rfl rfl ?_
   refine RL.gskip rfl rfl rfl rfl ?_
   refine RL.gskip rfl rfl rfl rfl ?_
   refine RL.gskip rfl rfl rfl rfl ?_
   refine RL.gskip rfl rfl rfl rfl ?_
   refine RL.q Yld.pk rfl ?_
   exact RL.nil (N.meet (.to rfl) (.to rfl))
  refine RL.nil (N.next ?_)
  refine W.keep (.of [4, 5, 6, 25] rfl) (.of [0, 1, 2, 3, 4, 5, 103, 104, 105, 106] rfl) ?_
  refine W.cond rfl (fun hc25 => ?_) (fun hc25 => ?_)
  ·
   have hbp : (beginP (kdOf m c.it) t c) = (t, 1) := by
     unfold beginP
     refine if_pos fun h => ?_
     simp only [Bool.or_eq_true, decide_eq_true_eq, ne_eq] at hc25
     omega
   refine W.seq (W.region ?_)
   refine RL.q (Yld.ldW 104 Tryz.underlying59 sz59 rfl rfl rfl rfl) rfl ?_
   refine RL.e0 (Eff.storeS (c := 106) _ sz59 rfl rfl rfl rfl rfl rfl rfl (by (try simp only [putAt, List.take, List.drop, List.nil_append, List.cons_append, List.append_nil, List.length_cons, List.length_nil, Nat.add_zero, Nat.zero_add, Nat.reduceAdd]); rfl)) ?_
   rintro _ _ rfl
   refine RL.q (Yld.assign rfl) rfl (RL.nil (N.next ?_))
   refine W.keep (.of [6, 7] rfl) (.of [0, 1, 2, 3, 4, 5, 103, 104, 105, 106] rfl) ?_
   refine W.ret ?_
   refine N.then_ret ?_
   exact N.retBy [1, 2, 3, 4, 5] (.cons (by first | exact .cell (c := 106) rfl rfl (fun w hs => run_loadVarA Tryz.underlying59 rfl sz59 rfl (fun j u hj => by rw [Nat.zero_add, PH.sub.cell hs (by first | exact single_self _ _ | exact pset_self _ _ _ | assumption)]; exact hj))) (.cons (.tmp rfl) .nil)) rfl rfl rfl rfl ⟨x, by rw [hbp]; rfl, hx, by rw [hbp]; exact hxt, rfl⟩
  ·
   have hok : 1 ≤ c.cl ∧ 1 ≤ c.nu ∧ kdOf m c.it = 1 := by
     simp only [Bool.or_eq_false_iff, decide_eq_false_iff_not, ne_eq] at hc25
     omega
   refine W.skip ?_
   refine N.next ?_
   refine W.seq (W.region ?_)
   refine RL.q (Yld.ldW 104 Tryz.underlying59 sz59 rfl rfl rfl rfl) rfl ?_
   refine RL.q (Yld.fieldAddr fo38_0 rfl) rfl ?_
   refine RL.q (Yld.ld 105 Tryz.underlying3 rfl rfl rfl rfl) rfl ?_
   refine RL.e (Eff.call ent52 [2] [2] (.cons rfl (.cons rfl .nil)) (rfind_ct x mach hx c.it) rfl rfl rfl rfl (by rintro _ _ ⟨_, rfl⟩; rfl)) rfl ?_
   rintro _ _ ⟨_, ⟨rfl, rfl⟩, rfl⟩
   obtain ⟨⟨u, ub⟩, hfu⟩ : ∃ q, fvU x.us c.it = q := ⟨_, rfl⟩
   rw [hfu]
   refine RL.q (Yld.move rfl) rfl ?_
   refine RL.q (Yld.extract rfl rfl) rfl ?_
   refine RL.q (Yld.extract rfl rfl) rfl ?_
   refine RL.e (Eff.alloc 108 zc48) rfl ?_
   rintro _ _ ⟨b8, rfl, rfl⟩
   refine RL.e0 (Eff.storeS (c := 108) _ sz48 rfl rfl rfl rfl rfl rfl rfl (by (try simp only [putAt, List.take, List.drop, List.nil_append, List.cons_append, List.append_nil, List.length_cons, List.length_nil, Nat.add_zero, Nat.zero_add, Nat.reduceAdd]); rfl)) ?_
   rintro _ _ rfl
   refine RL.q (Yld.assign rfl) rfl (RL.nil (N.next ?_))
   refine W.keep (.of [4, 5, 6, 8, 9] rfl) (.of [0, 1, 2, 3, 4, 5, 103, 104, 105, 106, 108] rfl) ?_
   refine W.seq ?_
   refine W.seq (W.region ?_)
   refine RL.q (Yld.move rfl) rfl (RL.q Yld.nt rfl (RL.nil (N.next ?_)))
   refine W.cond rfl (fun hc35 => ?_) (fun hc35 => ?_)
   ·
    rw [Bool.not_eq_true'] at hc35
    have hfn := fndU_none.1 (fvU_f (hfu.trans (congrArg (Prod.mk u) (show ub = false from hc35))))
    rw [hxt.us] at hfn
    have hbp : (beginP (kdOf m c.it) t c) = (t, 6) := by
      unfold beginP
      rw [if_neg (fun h => h hok), hfn]
    refine W.seq (W.region ?_)
    refine RL.q (Yld.ldW 104 Tryz.underlying59 sz59 rfl rfl rfl rfl) rfl ?_
    refine RL.e0 (Eff.storeS (c := 106) _ sz59 rfl rfl rfl rfl rfl rfl rfl (by (try simp only [putAt, List.take, List.drop, List.nil_append, List.cons_append, List.append_nil, List.length_cons, List.length_nil, Nat.add_zero, Nat.zero_add, Nat.reduceAdd]); rfl)) ?_
    rintro _ _ rfl
    refine RL.q (Yld.assign rfl) rfl (RL.nil (N.next ?_))
    refine W.keep (.of [6, 7] rfl) (.of [0, 1, 2, 3, 4, 5, 103, 104, 105, 106, 108] rfl) ?_
    refine W.ret ?_
    refine N.then_ret ?_
    exact N.retBy [1, 2, 3, 4, 5] (.cons (by first | exact .cell (c := 106) rfl rfl (fun w hs => run_loadVarA Tryz.underlying59 rfl sz59 rfl (fun j u hj => by rw [Nat.zero_add, PH.sub.cell hs (by first | exact single_self _ _ | exact pset_self _ _ _ | assumption)]; exact hj))) (.cons (.tmp rfl) .nil)) rfl rfl rfl rfl ⟨x, by rw [hbp]; rfl, hx, by rw [hbp]; exact hxt, rfl⟩
   ·
    rw [Bool.not_eq_false'] at hc35
    obtain ⟨i, hfn, hti⟩ := fvU_fnd (hfu.trans (congrArg (Prod.mk u) (show ub = true from hc35)))
    rw [hxt.us] at hfn hti
    refine W.skip ?_
    refine N.next ?_
    refine W.seq ?_
    refine W.seq (W.region ?_)
    refine RL.q (Yld.fieldAddr fo48_2 rfl) rfl ?_
    refine RL.q (Yld.ld 108 Tryz.underlying3 rfl rfl rfl rfl) rfl ?_
    refine RL.q (Yld.bin rfl rfl BinV.eql) rfl ?_
    refine RL.nil (N.next ?_)
    refine W.keep (.of [4, 5, 6, 39] rfl) (.of [0, 1, 2, 3, 4, 5, 103, 104, 105, 106, 108] rfl) ?_
    first | refine W.condD rfl (fun hc39 => ?_) (fun hc39 => ?_) | (refine W.cond rfl (fun hc39 => ?_) (fun hc39 => ?_) <;> try simp only [Bool.or_eq_true, Bool.and_eq_true, Bool.not_eq_true', Bool.not_eq_false', decide_eq_true_eq, Bool.or_eq_false_iff, Bool.and_eq_false_iff, decide_eq_false_iff_not, beq_iff_eq, beq_eq_false_iff_ne, ne_eq, Decidable.not_not] at hc39)
    ·
     have hbp : (beginP (kdOf m c.it) t c) = (t, 9) := by
       unfold beginP
       rw [if_neg (fun h => h hok), hfn]
       show (if stOf t.us i = 1 then _ else _) = _
       rw [stOf_get hti, if_pos hc39]
     refine W.seq (W.region ?_)
     refine RL.q (Yld.ldW 104 Tryz.underlying59 sz59 rfl rfl rfl rfl) rfl ?_
     refine RL.e0 (Eff.storeS (c := 106) _ sz59 rfl rfl rfl rfl rfl rfl rfl (by (try simp only [putAt, List.take, List.drop, List.nil_append, List.cons_append, List.append_nil, List.length_cons, List.length_nil, Nat.add_zero, Nat.zero_add, Nat.reduceAdd]); rfl)) ?_
     rintro _ _ rfl
     refine RL.q (Yld.assign rfl) rfl (RL.nil (N.next ?_))
     refine W.keep (.of [6, 7] rfl) (.of [0, 1, 2, 3, 4, 5, 103, 104, 105, 106, 108] rfl) ?_
     refine W.ret ?_
     refine N.then_ret ?_
     exact N.retBy [1, 2, 3, 4, 5] (.cons (by first | exact .cell (c := 106) rfl rfl (fun w hs => run_loadVarA Tryz.underlying59 rfl sz59 rfl (fun j u hj => by rw [Nat.zero_add, PH.sub.cell hs (by first | exact single_self _ _ | exact pset_self _ _ _ | assumption)]; exact hj))) (.cons (.tmp rfl) .nil)) rfl rfl rfl rfl ⟨x, by rw [hbp]; rfl, hx, by rw [hbp]; exact hxt, rfl⟩
    ·
     refine W.skip ?_
     refine N.next ?_
     refine W.seq ?_
     refine W.seq (W.region ?_)
     refine RL.q (Yld.assign rfl) rfl (RL.nil (N.next ?_))
     refine W.block ?_
     refine W.loopK (ι := Nat) (fun j => (j ≤ x.cl.length ∧ ∀ (i : Nat) a, i < j → x.cl[i]? = some a → sameCl c a = false)) (fun j => [(10, .int .i64 (j : Nat))]) (fun j => []) (fun j => x.cl.length - j) (.of [4, 5, 6] rfl) (.of [0, 1, 2, 3, 4, 5, 103, 104, 105, 106, 108] rfl) 0 ?_ ?_ ?_ ?_
     · exact ⟨Nat.zero_le _, fun _ _ h => absurd h (Nat.not_lt_zero _)⟩
     · exact (.as rfl (by first | rfl | (simp; done) | (congr 1; simp; done) | (congr 1; omega)) .nil)
     · exact .nil
     rintro j ⟨hj, hI⟩
     refine W.keep (.of [10, 4, 5, 6] rfl) (.of [0, 1, 2, 3, 4, 5, 103, 104, 105, 106, 108] rfl) ?_
     refine W.seq ?_
     refine W.seq (W.region ?_)
     refine RL.q (Yld.move rfl) rfl ?_
     refine RL.q (Yld.fieldAddr fo59_5 rfl) rfl ?_
     refine RL.q (Yld.ld 104 Tryz.underlying57 rfl rfl rfl rfl) rfl ?_
     refine RL.q (Yld.lenSl Tryz.underlying57 rfl) rfl ?_
     refine RL.q (Yld.bin rfl rfl BinV.lss) rfl ?_
     refine RL.nil (N.next ?_)
     refine W.keep (.of [4, 5, 6, 10, 45] rfl) (.of [0, 1, 2, 3, 4, 5, 103, 104, 105, 106, 108] rfl) ?_
     first | refine W.condD rfl (fun hc45 => ?_) (fun hc45 => ?_) | (refine W.cond rfl (fun hc45 => ?_) (fun hc45 => ?_) <;> try simp only [Bool.or_eq_true, Bool.and_eq_true, Bool.not_eq_true', Bool.not_eq_false', decide_eq_true_eq, Bool.or_eq_false_iff, Bool.and_eq_false_iff, decide_eq_false_iff_not, beq_iff_eq, beq_eq_false_iff_ne, ne_eq, Decidable.not_not] at hc45)
     ·
      obtain ⟨a, ha⟩ : ∃ a, x.cl[j]? = some a := ⟨_, List.getElem?_eq_getElem (show j < x.cl.length by first | omega | (simp only [List.length_map] at *; omega))⟩
      have hla : (x.cl.map Cl.c)[j]? = some a.c := by simp [ha]
      refine W.skip ?_
      refine N.next ?_
      refine W.seq ?_
      refine W.block ?_
      refine W.seq ?_
      refine W.draw (.q 0 (.q 1 (.q 2 (.q 3 (.q 4 (.q 5 (.q 6 (.q 7 (.q 8 (.q 9 (.q 10 (.q 11 (.q 12 (.q 13 (.q 14 (.q 15 (.q 16 (.q 17 (.q 18 (.q 19 (.q 20 (.q 21 (.q 22 (.q 23 (.q 24 (.q 25 (.q 26 (.q 27 (.q 28 (.q 29 (.q 30 .done))))))))))))))))))))))))))))))) (.of [0, 1, 2, 3, 4, 5, 103, 104, 105, 106, 108] rfl) mix (by kernel_rfl) (by kernel_rfl) ?_
      refine DL.q rfl (Yld.fieldAddr fo59_5 rfl) rfl ?_
      refine DL.q rfl (Yld.ld 104 Tryz.underlying57 rfl rfl rfl rfl) rfl ?_
      refine DL.q rfl (Yld.move rfl) rfl ?_
      refine DL.q rfl (Yld.ixr Tryz.underlying57 sz38 rfl rfl) rfl ?_
      refine DL.q rfl (Yld.fieldAddr fo38_0 rfl) rfl ?_
      refine DL.q rfl (by first | exact (by first | exact Yld.loadRow1 (cl := 1) Tryz.underlying3 rfl rfl rfl (by first | assumption | exact Own.sl (by assumption)) (by assumption) | exact Yld.loadRow1 (cl := 2) Tryz.underlying3 rfl rfl rfl (by first | assumption | exact Own.sl (by assumption)) (by assumption) | exact Yld.loadRow1 (cl := 3) Tryz.underlying3 rfl rfl rfl (by first | assumption | exact Own.sl (by assumption)) (by assumption) | exact Yld.loadRow1 (cl := 4) Tryz.underlying3 rfl rfl rfl (by first | assumption | exact Own.sl (by assumption)) (by assumption) | exact Yld.loadRow1 (cl := 5) Tryz.underlying3 rfl rfl rfl (by first | assumption | exact Own.sl (by assumption)) (by assumption) | exact Yld.loadRow1 (cl := 103) Tryz.underlying3 rfl rfl rfl (by first | assumption | exact Own.sl (by assumption)) (by assumption) | exact Yld.loadRow1 (cl := 104) Tryz.underlying3 rfl rfl rfl (by first | assumption | exact Own.sl (by assumption)) (by assumption) | exact Yld.loadRow1 (cl := 105) Tryz.underlying3 rfl rfl rfl (by first | assumption | exact Own.sl (by assumption)) (by assumption) | exact Yld.loadRow1 (cl := 106) Tryz.underlying3 rfl rfl rfl (by first | assumption | exact Own.sl (by assumption)) (by assumption) | exact Yld.loadRow1 (cl := 108) Tryz.underlying3 rfl rfl rfl (by first | assumption | exact Own.sl (by assumption)) (by assumption)) | exact (by first | exact Yld.lrF 1 0 Tryz.underlying3 rfl rfl rfl rfl | exact Yld.lrF 2 0 Tryz.underlying3 rfl rfl rfl rfl | exact Yld.lrF 3 0 Tryz.underlying3 rfl rfl rfl rfl | exact Yld.lrF 4 0 Tryz.underlying3 rfl rfl rfl rfl | exact Yld.lrF 5 0 Tryz.underlying3 rfl rfl rfl rfl | exact Yld.lrF 103 0 Tryz.underlying3 rfl rfl rfl rfl | exact Yld.lrF 104 0 Tryz.underlying3 rfl rfl rfl rfl | exact Yld.lrF 105 0 Tryz.underlying3 rfl rfl rfl rfl | exact Yld.lrF 106 0 Tryz.underlying3 rfl rfl rfl rfl | exact Yld.lrF 108 0 Tryz.underlying3 rfl rfl rfl rfl)) rfl ?_
      refine DL.q rfl (Yld.fieldAddr fo38_0 rfl) rfl ?_
      refine DL.q rfl (Yld.ld 105 Tryz.underlying3 rfl rfl rfl rfl) rfl ?_
      refine DL.q rfl (Yld.bin rfl rfl BinV.eql) rfl ?_
      refine DL.q rfl (Yld.move rfl) rfl ?_
      refine' DL.and (t := 57) (d := 67) 10 rfl (.of [4, 5, 6, 10, 45, 48, 49, 50, 51, 52, 53, 54, 55, 56] rfl) (.of [0, 1, 2, 3, 4, 5, 103, 104, 105, 106, 108] rfl) ?_ ?_ ?_
      rotate_left 1
      ·
       intro hg57
       refine DL.gq rfl rfl rfl (Yld.fieldAddr fo59_5 rfl) rfl ?_
       refine DL.gq rfl rfl rfl (Yld.ld 104 Tryz.underlying57 rfl rfl rfl rfl) rfl ?_
       refine DL.gq rfl rfl rfl (Yld.move rfl) rfl ?_
       refine DL.gq rfl rfl rfl (Yld.ixr Tryz.underlying57 sz38 rfl rfl) rfl ?_
       refine DL.gq rfl rfl rfl (Yld.fieldAddr fo38_1 rfl) rfl ?_
       refine DL.gq rfl rfl rfl (by first | exact Yld.lrF 1 1 Tryz.underlying3 rfl rfl rfl rfl | exact Yld.lrF 2 1 Tryz.underlying3 rfl rfl rfl rfl | exact Yld.lrF 3 1 Tryz.underlying3 rfl rfl rfl rfl | exact Yld.lrF 4 1 Tryz.underlying3 rfl rfl rfl rfl | exact Yld.lrF 5 1 Tryz.underlying3 rfl rfl rfl rfl | exact Yld.lrF 103 1 Tryz.underlying3 rfl rfl rfl rfl | exact Yld.lrF 104 1 Tryz.underlying3 rfl rfl rfl rfl | exact Yld.lrF 105 1 Tryz.underlying3 rfl rfl rfl rfl | exact Yld.lrF 106 1 Tryz.underlying3 rfl rfl rfl rfl | exact Yld.lrF 108 1 Tryz.underlying3 rfl rfl rfl rfl) rfl ?_
       refine DL.gq rfl rfl rfl (Yld.fieldAddr fo38_1 rfl) rfl ?_
       refine DL.gq rfl rfl rfl (Yld.ld 105 Tryz.underlying3 rfl rfl rfl rfl) rfl ?_
       refine DL.gq rfl rfl rfl (Yld.bin rfl rfl BinV.eql) rfl ?_
       refine DL.q rfl Yld.pk rfl ?_
       exact DL.meet (.to rfl) (.to rfl)
      ·
       intro hg57
       refine DL.gskip rfl rfl rfl rfl rfl ?_
       refine DL.gskip rfl rfl rfl rfl rfl ?_
       refine DL.gskip rfl rfl rfl rfl rfl ?_
       refine DL.gskip rfl rfl rfl rfl rfl ?_
       refine DL.gskip rfl rfl rfl rfl rfl ?_
       refine DL.gskip rfl rfl rfl rfl rfl ?_
       refine DL.gskip rfl rfl rfl rfl rfl ?_
       refine DL.gskip rfl rfl rfl rfl rfl ?_
       refine DL.gskip rfl rfl rfl rfl rfl ?_
       refine DL.q rfl Yld.pk rfl ?_
       exact DL.meet (.to rfl) (.to rfl)
      refine DL.q rfl (Yld.move rfl) rfl ?_
      refine' DL.and (t := 68) (d := 78) 10 rfl (.of [4, 5, 6, 10, 45, 48, 49, 50, 51, 52, 53, 54, 55, 56, 67] rfl) (.of [0, 1, 2, 3, 4, 5, 103, 104, 105, 106, 108] rfl) ?_ ?_ ?_
      rotate_left 1
      ·
       intro hg68
       refine DL.gq rfl rfl rfl (Yld.fieldAddr fo59_5 rfl) rfl ?_
       refine DL.gq rfl rfl rfl (Yld.ld 104 Tryz.underlying57 rfl rfl rfl rfl) rfl ?_
       refine DL.gq rfl rfl rfl (Yld.move rfl) rfl ?_
       refine DL.gq rfl rfl rfl (Yld.ixr Tryz.underlying57 sz38 rfl rfl) rfl ?_
       refine DL.gq rfl rfl rfl (Yld.fieldAddr fo38_2 rfl) rfl ?_
       refine DL.gq rfl rfl rfl (by first | exact Yld.lrF 1 2 Tryz.underlying3 rfl rfl rfl rfl | exact Yld.lrF 2 2 Tryz.underlying3 rfl rfl rfl rfl | exact Yld.lrF 3 2 Tryz.underlying3 rfl rfl rfl rfl | exact Yld.lrF 4 2 Tryz.underlying3 rfl rfl rfl rfl | exact Yld.lrF 5 2 Tryz.underlying3 rfl rfl rfl rfl | exact Yld.lrF 103 2 Tryz.underlying3 rfl rfl rfl rfl | exact Yld.lrF 104 2 Tryz.underlying3 rfl rfl rfl rfl | exact Yld.lrF 105 2 Tryz.underlying3 rfl rfl rfl rfl | exact Yld.lrF 106 2 Tryz.underlying3 rfl rfl rfl rfl | exact Yld.lrF 108 2 Tryz.underlying3 rfl rfl rfl rfl) rfl ?_
       refine DL.gq rfl rfl rfl (Yld.fieldAddr fo38_2 rfl) rfl ?_
       refine DL.gq rfl rfl rfl (Yld.ld 105 Tryz.underlying3 rfl rfl rfl rfl) rfl ?_
       refine DL.gq rfl rfl rfl (Yld.bin rfl rfl BinV.eql) rfl ?_
       refine DL.q rfl Yld.pk rfl ?_
       exact DL.meet (.to rfl) (.to rfl)
      ·
       intro hg68
       refine DL.gskip rfl rfl rfl rfl rfl ?_
       refine DL.gskip rfl rfl rfl rfl rfl ?_
       refine DL.gskip rfl rfl rfl rfl rfl ?_
       refine DL.gskip rfl rfl rfl rfl rfl ?_
       refine DL.gskip rfl rfl rfl rfl rfl ?_
       refine DL.gskip rfl rfl rfl rfl rfl ?_
       refine DL.gskip rfl rfl rfl rfl rfl ?_
       refine DL.gskip rfl rfl rfl rfl rfl ?_
       refine DL.gskip rfl rfl rfl rfl rfl ?_
       refine DL.q rfl Yld.pk rfl ?_
       exact DL.meet (.to rfl) (.to rfl)
      refine DL.done ?_
      refine N.next ?_
      refine W.keep (.of [4, 5, 6, 10, 78] rfl) (.of [0, 1, 2, 3, 4, 5, 103, 104, 105, 106, 108] rfl) ?_
      refine W.cond rfl (fun hc78 => ?_) (fun hc78 => ?_)
      ·
       have hsc : sameCl c a = true := by unfold sameCl; rw [← Bool.and_assoc]; exact hc78
       have hany : t.cs.any (sameCl c) = true := List.any_eq_true.2 ⟨a, by rw [← hxt.cl]; exact List.mem_of_getElem? ha, hsc⟩
       have hbp : (beginP (kdOf m c.it) t c) = (t, 0) := by
         unfold beginP
         rw [if_neg (fun h => h hok), hfn]
         show (if stOf t.us i = 1 then _ else _) = _
         rw [stOf_get hti, if_neg hc39, if_pos hany]
       refine W.seq (W.region ?_)
       refine RL.q (Yld.ldW 104 Tryz.underlying59 sz59 rfl rfl rfl rfl) rfl ?_
       refine RL.e0 (Eff.storeS (c := 106) _ sz59 rfl rfl rfl rfl rfl rfl rfl (by (try simp only [putAt, List.take, List.drop, List.nil_append, List.cons_append, List.append_nil, List.length_cons, List.length_nil, Nat.add_zero, Nat.zero_add, Nat.reduceAdd]); rfl)) ?_
       rintro _ _ rfl
       refine RL.q (Yld.assign rfl) rfl (RL.nil (N.next ?_))
       refine W.keep (.of [6, 7] rfl) (.of [0, 1, 2, 3, 4, 5, 103, 104, 105, 106, 108] rfl) ?_
       refine W.ret ?_
       refine N.block_ret ?_
       refine N.then_ret ?_
       refine N.then_ret ?_
       refine N.block_ret ?_
       refine N.then_ret ?_
       exact N.retBy [1, 2, 3, 4, 5] (.cons (by first | exact .cell (c := 106) rfl rfl (fun w hs => run_loadVarA Tryz.underlying59 rfl sz59 rfl (fun j u hj => by rw [Nat.zero_add, PH.sub.cell hs (by first | exact single_self _ _ | exact pset_self _ _ _ | assumption)]; exact hj))) (.cons (.tmp rfl) .nil)) rfl rfl rfl rfl ⟨x, by rw [hbp]; rfl, hx, by rw [hbp]; exact hxt, rfl⟩
      ·
       have hsc : sameCl c a = false := by unfold sameCl; rw [← Bool.and_assoc]; exact hc78
       refine W.skip ?_
       refine N.block_normal ?_
       refine N.next ?_
       refine W.region ?_
       refine RL.q (Yld.move rfl) rfl ?_
       refine RL.q (Yld.bin rfl rfl (by first | exact BinV.add (by omega) (by omega) | exact BinV.addW)) rfl ?_
       refine RL.q (Yld.assign rfl) rfl (RL.nil ?_)
       exact N.famK (j + 1) ⟨⟨by omega, fun q b hq hb3 => (Nat.lt_succ_iff_lt_or_eq.1 hq).elim (fun h => hI q b h hb3) (fun e => by subst e; rw [ha] at hb3; cases hb3; exact hsc)⟩, by omega⟩ (.as rfl (by first | rfl | (simp; done) | (congr 1; simp; done) | (congr 1; omega)) .nil) (.to rfl) .nil (.to rfl)
     ·
      have hany : ¬ t.cs.any (sameCl c) = true := fun h => by
        obtain ⟨a, ha, hsa⟩ := List.any_eq_true.1 h
        rw [← hxt.cl] at ha
        obtain ⟨i2, hi2⟩ := List.getElem?_of_mem ha
        rw [hI i2 a (by have := (List.getElem?_eq_some_iff.1 hi2).1; omega) hi2] at hsa
        cases hsa
      have hbp : (beginP (kdOf m c.it) t c) = ({ t with cs := t.cs ++ [c] }, 0) := by
        unfold beginP
        rw [if_neg (fun h => h hok), hfn]
        show (if stOf t.us i = 1 then _ else _) = _
        rw [stOf_get hti, if_neg hc39, if_neg hany]
      refine W.exit ?_
      refine N.then_exit ?_
      refine N.then_exit ?_
      refine N.block_eq ?_
      refine N.next ?_
      refine W.seq ?_
      refine W.draw (.q 1 (.q 4 (.three 0 (.two 2 (.two 3 (.one 5 (.one 6 (.q 7 (.one 8 .done)))) 5 (.one 3 (.one 6 (.q 7 (.one 8 .done))))) 5 (.one 2 (.one 3 (.one 6 (.q 7 (.one 8 .done)))))) 2 (.two 0 (.two 3 (.one 5 (.one 6 (.q 7 (.one 8 .done)))) 5 (.one 3 (.one 6 (.q 7 (.one 8 .done))))) 5 (.one 0 (.one 3 (.one 6 (.q 7 (.one 8 .done)))))) 5 (.two 0 (.one 2 (.one 3 (.one 6 (.q 7 (.one 8 .done))))) 2 (.one 0 (.one 3 (.one 6 (.q 7 (.one 8 .done))))))))) (.of [0, 1, 2, 3, 4, 5, 103, 105, 106, 108] rfl) mix (by kernel_rfl) (by kernel_rfl) ?_
      refine DL.q rfl (Yld.fieldAddr fo59_5 rfl) rfl ?_
      refine DL.q rfl (Yld.ldW 105 Tryz.underlying38 sz38 rfl rfl rfl rfl) rfl ?_
      refine DL.three ?_ ?_ ?_
      ·
       refine DL.one rfl (Eff.buildSlice 180 Tryz.underlying57 sz38 zc38 rfl rfl .nil rfl) rfl (by rintro _ _ ⟨b80, rfl, rfl⟩; repeat (first | exact .nil | refine .cons rfl ?_)) ?_
       rintro _ _ ⟨b80, rfl, rfl⟩
       refine DL.two ?_ ?_
       ·
        refine DL.one rfl (Yld.eff (Yld.ld 104 Tryz.underlying57 rfl rfl rfl rfl)) rfl (by rintro _ _ ⟨rfl, rfl⟩; repeat (first | exact .nil | refine .cons rfl ?_)) ?_
        rintro _ _ ⟨rfl, rfl⟩
        refine DL.two ?_ ?_
        ·
         refine DL.one rfl (Eff.appendE (tc := 180) (sc := 5) (ms := x.cl) (ls := ([] : List Cl)) Cl.c Tryz.underlying57 el38 rfl rfl rfl rfl (Own.none0 rfl : Own _ _ 0 38 4 (([] : List Cl).map Cl.c)) rfl hSc rfl (fun a _ => Cl.one a) (by decide) (by simp; omega) (by simp [maxLen]; omega)) rfl (by rintro _ _ ⟨G1, p1, c1, rfl, hO1, rfl⟩; repeat (first | exact .nil | refine .cons rfl ?_)) ?_
         rintro _ _ ⟨G1, p1, c1, rfl, hO1, rfl⟩
         refine DL.one rfl (Eff.buildSlice 185 Tryz.underlying57 sz38 zc38 rfl rfl (.cons rfl rfl .nil) rfl) rfl (by rintro _ _ ⟨b85, rfl, rfl⟩; repeat (first | exact .nil | refine .cons rfl ?_)) ?_
         rintro _ _ ⟨b85, rfl, rfl⟩
         refine DL.one rfl (Eff.appendE (tc := 180) (sc := 185) (ms := [c]) Cl.c Tryz.underlying57 el38 rfl rfl rfl rfl hO1 rfl (Own.one (l := c.c) rfl (Cl.one c) rfl).sl rfl (fun a _ => Cl.one a) (by decide) (by simp; omega) (by simp [maxLen]; omega)) rfl (by rintro _ _ ⟨H2, p2, c2, rfl, hO2, rfl⟩; repeat (first | exact .nil | refine .cons rfl ?_)) ?_
         rintro _ _ ⟨H2, p2, c2, rfl, hO2, rfl⟩
         refine DL.q rfl (Yld.fieldAddr fo59_5 rfl) rfl ?_
         refine DL.one0 rfl (Eff.storeS (c := 104) _ sz57 rfl rfl rfl rfl rfl rfl rfl (by (try simp only [putAt, List.take, List.drop, List.nil_append, List.cons_append, List.append_nil, List.length_cons, List.length_nil, Nat.add_zero, Nat.zero_add, Nat.reduceAdd]); rfl)) (by rintro _ _ rfl; repeat (first | exact .nil | refine .cons rfl ?_)) ?_
         rintro _ _ rfl
         refine DL.done ?_
         refine N.next ?_
         refine W.keep (.of [4, 6] rfl) (.of [0, 1, 2, 3, 4, 5, 103, 104, 105, 106, 108, 180, 185] rfl) ?_
         refine W.seq (W.region ?_)
         refine RL.q (Yld.ldW 104 Tryz.underlying59 sz59 rfl rfl rfl rfl) rfl ?_
         refine RL.e0 (Eff.storeS (c := 106) _ sz59 rfl rfl rfl rfl rfl rfl rfl (by (try simp only [putAt, List.take, List.drop, List.nil_append, List.cons_append, List.append_nil, List.length_cons, List.length_nil, Nat.add_zero, Nat.zero_add, Nat.reduceAdd]); rfl)) ?_
         rintro _ _ rfl
         refine RL.q (Yld.assign rfl) rfl (RL.nil (N.next ?_))
         refine W.ret ?_
         exact N.retBy [1, 2, 3, 4, 180] (.cons (by first | exact .cell (c := 106) rfl rfl (fun w hs => run_loadVarA Tryz.underlying59 rfl sz59 rfl (fun j u hj => by rw [Nat.zero_add, PH.sub.cell hs (by first | exact single_self _ _ | exact pset_self _ _ _ | assumption)]; exact hj))) (.cons (.tmp rfl) .nil)) rfl rfl rfl rfl ⟨x.setC p2 c2 (x.cl ++ [c]) H2, by rw [hbp]; rfl, hx.setC hO2.sl, by rw [hbp, ← hxt.cl]; exact hxt.setC, rfl⟩
        ·
         refine DL.one rfl (Eff.buildSlice 185 Tryz.underlying57 sz38 zc38 rfl rfl (.cons rfl rfl .nil) rfl) rfl (by rintro _ _ ⟨b85, rfl, rfl⟩; repeat (first | exact .nil | refine .cons rfl ?_)) ?_
         rintro _ _ ⟨b85, rfl, rfl⟩
         refine DL.one rfl (Eff.appendE (tc := 180) (sc := 5) (ms := x.cl) (ls := ([] : List Cl)) Cl.c Tryz.underlying57 el38 rfl rfl rfl rfl (Own.none0 rfl : Own _ _ 0 38 4 (([] : List Cl).map Cl.c)) rfl hSc rfl (fun a _ => Cl.one a) (by decide) (by simp; omega) (by simp [maxLen]; omega)) rfl (by rintro _ _ ⟨G1, p1, c1, rfl, hO1, rfl⟩; repeat (first | exact .nil | refine .cons rfl ?_)) ?_
         rintro _ _ ⟨G1, p1, c1, rfl, hO1, rfl⟩
         refine DL.one rfl (Eff.appendE (tc := 180) (sc := 185) (ms := [c]) Cl.c Tryz.underlying57 el38 rfl rfl rfl rfl hO1 rfl (Own.one (l := c.c) rfl (Cl.one c) rfl).sl rfl (fun a _ => Cl.one a) (by decide) (by simp; omega) (by simp [maxLen]; omega)) rfl (by rintro _ _ ⟨H2, p2, c2, rfl, hO2, rfl⟩; repeat (first | exact .nil | refine .cons rfl ?_)) ?_
         rintro _ _ ⟨H2, p2, c2, rfl, hO2, rfl⟩
         refine DL.q rfl (Yld.fieldAddr fo59_5 rfl) rfl ?_
         refine DL.one0 rfl (Eff.storeS (c := 104) _ sz57 rfl rfl rfl rfl rfl rfl rfl (by (try simp only [putAt, List.take, List.drop, List.nil_append, List.cons_append, List.append_nil, List.length_cons, List.length_nil, Nat.add_zero, Nat.zero_add, Nat.reduceAdd]); rfl)) (by rintro _ _ rfl; repeat (first | exact .nil | refine .cons rfl ?_)) ?_
         rintro _ _ rfl
         refine DL.done ?_
         refine N.next ?_
         refine W.keep (.of [4, 6] rfl) (.of [0, 1, 2, 3, 4, 5, 103, 104, 105, 106, 108, 180, 185] rfl) ?_
         refine W.seq (W.region ?_)
         refine RL.q (Yld.ldW 104 Tryz.underlying59 sz59 rfl rfl rfl rfl) rfl ?_
         refine RL.e0 (Eff.storeS (c := 106) _ sz59 rfl rfl rfl rfl rfl rfl rfl (by (try simp only [putAt, List.take, List.drop, List.nil_append, List.cons_append, List.append_nil, List.length_cons, List.length_nil, Nat.add_zero, Nat.zero_add, Nat.reduceAdd]); rfl)) ?_
         rintro _ _ rfl
         refine RL.q (Yld.assign rfl) rfl (RL.nil (N.next ?_))
         refine W.ret ?_
         exact N.retBy [1, 2, 3, 4, 180] (.cons (by first | exact .cell (c := 106) rfl rfl (fun w hs => run_loadVarA Tryz.underlying59 rfl sz59 rfl (fun j u hj => by rw [Nat.zero_add, PH.sub.cell hs (by first | exact single_self _ _ | exact pset_self _ _ _ | assumption)]; exact hj))) (.cons (.tmp rfl) .nil)) rfl rfl rfl rfl ⟨x.setC p2 c2 (x.cl ++ [c]) H2, by rw [hbp]; rfl, hx.setC hO2.sl, by rw [hbp, ← hxt.cl]; exact hxt.setC, rfl⟩
       ·
        refine DL.one rfl (Eff.buildSlice 185 Tryz.underlying57 sz38 zc38 rfl rfl (.cons rfl rfl .nil) rfl) rfl (by rintro _ _ ⟨b85, rfl, rfl⟩; repeat (first | exact .nil | refine .cons rfl ?_)) ?_
        rintro _ _ ⟨b85, rfl, rfl⟩
        refine DL.one rfl (Yld.eff (Yld.ld 104 Tryz.underlying57 rfl rfl rfl rfl)) rfl (by rintro _ _ ⟨rfl, rfl⟩; repeat (first | exact .nil | refine .cons rfl ?_)) ?_
        rintro _ _ ⟨rfl, rfl⟩
        refine DL.one rfl (Eff.appendE (tc := 180) (sc := 5) (ms := x.cl) (ls := ([] : List Cl)) Cl.c Tryz.underlying57 el38 rfl rfl rfl rfl (Own.none0 rfl : Own _ _ 0 38 4 (([] : List Cl).map Cl.c)) rfl hSc rfl (fun a _ => Cl.one a) (by decide) (by simp; omega) (by simp [maxLen]; omega)) rfl (by rintro _ _ ⟨G1, p1, c1, rfl, hO1, rfl⟩; repeat (first | exact .nil | refine .cons rfl ?_)) ?_
        rintro _ _ ⟨G1, p1, c1, rfl, hO1, rfl⟩
        refine DL.one rfl (Eff.appendE (tc := 180) (sc := 185) (ms := [c]) Cl.c Tryz.underlying57 el38 rfl rfl rfl rfl hO1 rfl (Own.one (l := c.c) rfl (Cl.one c) rfl).sl rfl (fun a _ => Cl.one a) (by decide) (by simp; omega) (by simp [maxLen]; omega)) rfl (by rintro _ _ ⟨H2, p2, c2, rfl, hO2, rfl⟩; repeat (first | exact .nil | refine .cons rfl ?_)) ?_
        rintro _ _ ⟨H2, p2, c2, rfl, hO2, rfl⟩
        refine DL.q rfl (Yld.fieldAddr fo59_5 rfl) rfl ?_
        refine DL.one0 rfl (Eff.storeS (c := 104) _ sz57 rfl rfl rfl rfl rfl rfl rfl (by (try simp only [putAt, List.take, List.drop, List.nil_append, List.cons_append, List.append_nil, List.length_cons, List.length_nil, Nat.add_zero, Nat.zero_add, Nat.reduceAdd]); rfl)) (by rintro _ _ rfl; repeat (first | exact .nil | refine .cons rfl ?_)) ?_
        rintro _ _ rfl
        refine DL.done ?_
        refine N.next ?_
        refine W.keep (.of [4, 6] rfl) (.of [0, 1, 2, 3, 4, 5, 103, 104, 105, 106, 108, 180, 185] rfl) ?_
        refine W.seq (W.region ?_)
        refine RL.q (Yld.ldW 104 Tryz.underlying59 sz59 rfl rfl rfl rfl) rfl ?_
        refine RL.e0 (Eff.storeS (c := 106) _ sz59 rfl rfl rfl rfl rfl rfl rfl (by (try simp only [putAt, List.take, List.drop, List.nil_append, List.cons_append, List.append_nil, List.length_cons, List.length_nil, Nat.add_zero, Nat.zero_add, Nat.reduceAdd]); rfl)) ?_
        rintro _ _ rfl
        refine RL.q (Yld.assign rfl) rfl (RL.nil (N.next ?_))
        refine W.ret ?_
        exact N.retBy [1, 2, 3, 4, 180] (.cons (by first | exact .cell (c := 106) rfl rfl (fun w hs => run_loadVarA Tryz.underlying59 rfl sz59 rfl (fun j u hj => by rw [Nat.zero_add, PH.sub.cell hs (by first | exact single_self _ _ | exact pset_self _ _ _ | assumption)]; exact hj))) (.cons (.tmp rfl) .nil)) rfl rfl rfl rfl ⟨x.setC p2 c2 (x.cl ++ [c]) H2, by rw [hbp]; rfl, hx.setC hO2.sl, by rw [hbp, ← hxt.cl]; exact hxt.setC, rfl⟩
      ·
       refine DL.one rfl (Yld.eff (Yld.ld 104 Tryz.underlying57 rfl rfl rfl rfl)) rfl (by rintro _ _ ⟨rfl, rfl⟩; repeat (first | exact .nil | refine .cons rfl ?_)) ?_
       rintro _ _ ⟨rfl, rfl⟩
       refine DL.two ?_ ?_
       ·
        refine DL.one rfl (Eff.buildSlice 180 Tryz.underlying57 sz38 zc38 rfl rfl .nil rfl) rfl (by rintro _ _ ⟨b80, rfl, rfl⟩; repeat (first | exact .nil | refine .cons rfl ?_)) ?_
        rintro _ _ ⟨b80, rfl, rfl⟩
        refine DL.two ?_ ?_
        ·
         refine DL.one rfl (Eff.appendE (tc := 180) (sc := 5) (ms := x.cl) (ls := ([] : List Cl)) Cl.c Tryz.underlying57 el38 rfl rfl rfl rfl (Own.none0 rfl : Own _ _ 0 38 4 (([] : List Cl).map Cl.c)) rfl hSc rfl (fun a _ => Cl.one a) (by decide) (by simp; omega) (by simp [maxLen]; omega)) rfl (by rintro _ _ ⟨G1, p1, c1, rfl, hO1, rfl⟩; repeat (first | exact .nil | refine .cons rfl ?_)) ?_
         rintro _ _ ⟨G1, p1, c1, rfl, hO1, rfl⟩
         refine DL.one rfl (Eff.buildSlice 185 Tryz.underlying57 sz38 zc38 rfl rfl (.cons rfl rfl .nil) rfl) rfl (by rintro _ _ ⟨b85, rfl, rfl⟩; repeat (first | exact .nil | refine .cons rfl ?_)) ?_
         rintro _ _ ⟨b85, rfl, rfl⟩
         refine DL.one rfl (Eff.appendE (tc := 180) (sc := 185) (ms := [c]) Cl.c Tryz.underlying57 el38 rfl rfl rfl rfl hO1 rfl (Own.one (l := c.c) rfl (Cl.one c) rfl).sl rfl (fun a _ => Cl.one a) (by decide) (by simp; omega) (by simp [maxLen]; omega)) rfl (by rintro _ _ ⟨H2, p2, c2, rfl, hO2, rfl⟩; repeat (first | exact .nil | refine .cons rfl ?_)) ?_
         rintro _ _ ⟨H2, p2, c2, rfl, hO2, rfl⟩
         refine DL.q rfl (Yld.fieldAddr fo59_5 rfl) rfl ?_
         refine DL.one0 rfl (Eff.storeS (c := 104) _ sz57 rfl rfl rfl rfl rfl rfl rfl (by (try simp only [putAt, List.take, List.drop, List.nil_append, List.cons_append, List.append_nil, List.length_cons, List.length_nil, Nat.add_zero, Nat.zero_add, Nat.reduceAdd]); rfl)) (by rintro _ _ rfl; repeat (first | exact .nil | refine .cons rfl ?_)) ?_
         rintro _ _ rfl
         refine DL.done ?_
         refine N.next ?_
         refine W.keep (.of [4, 6] rfl) (.of [0, 1, 2, 3, 4, 5, 103, 104, 105, 106, 108, 180, 185] rfl) ?_
         refine W.seq (W.region ?_)
         refine RL.q (Yld.ldW 104 Tryz.underlying59 sz59 rfl rfl rfl rfl) rfl ?_
         refine RL.e0 (Eff.storeS (c := 106) _ sz59 rfl rfl rfl rfl rfl rfl rfl (by (try simp only [putAt, List.take, List.drop, List.nil_append, List.cons_append, List.append_nil, List.length_cons, List.length_nil, Nat.add_zero, Nat.zero_add, Nat.reduceAdd]); rfl)) ?_
         rintro _ _ rfl
         refine RL.q (Yld.assign rfl) rfl (RL.nil (N.next ?_))
         refine W.ret ?_
         exact N.retBy [1, 2, 3, 4, 180] (.cons (by first | exact .cell (c := 106) rfl rfl (fun w hs => run_loadVarA Tryz.underlying59 rfl sz59 rfl (fun j u hj => by rw [Nat.zero_add, PH.sub.cell hs (by first | exact single_self _ _ | exact pset_self _ _ _ | assumption)]; exact hj))) (.cons (.tmp rfl) .nil)) rfl rfl rfl rfl ⟨x.setC p2 c2 (x.cl ++ [c]) H2, by rw [hbp]; rfl, hx.setC hO2.sl, by rw [hbp, ← hxt.cl]; exact hxt.setC, rfl⟩
        ·
         refine DL.one rfl (Eff.buildSlice 185 Tryz.underlying57 sz38 zc38 rfl rfl (.cons rfl rfl .nil) rfl) rfl (by rintro _ _ ⟨b85, rfl, rfl⟩; repeat (first | exact .nil | refine .cons rfl ?_)) ?_
         rintro _ _ ⟨b85, rfl, rfl⟩
         refine DL.one rfl (Eff.appendE (tc := 180) (sc := 5) (ms := x.cl) (ls := ([] : List Cl)) Cl.c Tryz.underlying57 el38 rfl rfl rfl rfl (Own.none0 rfl : Own _ _ 0 38 4 (([] : List Cl).map Cl.c)) rfl hSc rfl (fun a _ => Cl.one a) (by decide) (by simp; omega) (by simp [maxLen]; omega)) rfl (by rintro _ _ ⟨G1, p1, c1, rfl, hO1, rfl⟩; repeat (first | exact .nil | refine .cons rfl ?_)) ?_
         rintro _ _ ⟨G1, p1, c1, rfl, hO1, rfl⟩
         refine DL.one rfl (Eff.appendE (tc := 180) (sc := 185) (ms := [c]) Cl.c Tryz.underlying57 el38 rfl rfl rfl rfl hO1 rfl (Own.one (l := c.c) rfl (Cl.one c) rfl).sl rfl (fun a _ => Cl.one a) (by decide) (by simp; omega) (by simp [maxLen]; omega)) rfl (by rintro _ _ ⟨H2, p2, c2, rfl, hO2, rfl⟩; repeat (first | exact .nil | refine .cons rfl ?_)) ?_
         rintro _ _ ⟨H2, p2, c2, rfl, hO2, rfl⟩
         refine DL.q rfl (Yld.fieldAddr fo59_5 rfl) rfl ?_
         refine DL.one0 rfl (Eff.storeS (c := 104) _ sz57 rfl rfl rfl rfl rfl rfl rfl (by (try simp only [putAt, List.take, List.drop, List.nil_append, List.cons_append, List.append_nil, List.length_cons, List.length_nil, Nat.add_zero, Nat.zero_add, Nat.reduceAdd]); rfl)) (by rintro _ _ rfl; repeat (first | exact .nil | refine .cons rfl ?_)) ?_
         rintro _ _ rfl
         refine DL.done ?_
         refine N.next ?_
         refine W.keep (.of [4, 6] rfl) (.of [0, 1, 2, 3, 4, 5, 103, 104, 105, 106, 108, 180, 185] rfl) ?_
         refine W.seq (W.region ?_)
         refine RL.q (Yld.ldW 104 Tryz.underlying59 sz59 rfl rfl rfl rfl) rfl ?_
         refine RL.e0 (Eff.storeS (c := 106) _ sz59 rfl rfl rfl rfl rfl rfl rfl (by (try simp only [putAt, List.take, List.drop, List.nil_append, List.cons_append, List.append_nil, List.length_cons, List.length_nil, Nat.add_zero, Nat.zero_add, Nat.reduceAdd]); rfl)) ?_
         rintro _ _ rfl
         refine RL.q (Yld.assign rfl) rfl (RL.nil (N.next ?_))
         refine W.ret ?_
         exact N.retBy [1, 2, 3, 4, 180] (.cons (by first | exact .cell (c := 106) rfl rfl (fun w hs => run_loadVarA Tryz.underlying59 rfl sz59 rfl (fun j u hj => by rw [Nat.zero_add, PH.sub.cell hs (by first | exact single_self _ _ | exact pset_self _ _ _ | assumption)]; exact hj))) (.cons (.tmp rfl) .nil)) rfl rfl rfl rfl ⟨x.setC p2 c2 (x.cl ++ [c]) H2, by rw [hbp]; rfl, hx.setC hO2.sl, by rw [hbp, ← hxt.cl]; exact hxt.setC, rfl⟩
       ·
        refine DL.one rfl (Eff.buildSlice 185 Tryz.underlying57 sz38 zc38 rfl rfl (.cons rfl rfl .nil) rfl) rfl (by rintro _ _ ⟨b85, rfl, rfl⟩; repeat (first | exact .nil | refine .cons rfl ?_)) ?_
        rintro _ _ ⟨b85, rfl, rfl⟩
        refine DL.one rfl (Eff.buildSlice 180 Tryz.underlying57 sz38 zc38 rfl rfl .nil rfl) rfl (by rintro _ _ ⟨b80, rfl, rfl⟩; repeat (first | exact .nil | refine .cons rfl ?_)) ?_
        rintro _ _ ⟨b80, rfl, rfl⟩
        refine DL.one rfl (Eff.appendE (tc := 180) (sc := 5) (ms := x.cl) (ls := ([] : List Cl)) Cl.c Tryz.underlying57 el38 rfl rfl rfl rfl (Own.none0 rfl : Own _ _ 0 38 4 (([] : List Cl).map Cl.c)) rfl hSc rfl (fun a _ => Cl.one a) (by decide) (by simp; omega) (by simp [maxLen]; omega)) rfl (by rintro _ _ ⟨G1, p1, c1, rfl, hO1, rfl⟩; repeat (first | exact .nil | refine .cons rfl ?_)) ?_
        rintro _ _ ⟨G1, p1, c1, rfl, hO1, rfl⟩
        refine DL.one rfl (Eff.appendE (tc := 180) (sc := 185) (ms := [c]) Cl.c Tryz.underlying57 el38 rfl rfl rfl rfl hO1 rfl (Own.one (l := c.c) rfl (Cl.one c) rfl).sl rfl (fun a _ => Cl.one a) (by decide) (by simp; omega) (by simp [maxLen]; omega)) rfl (by rintro _ _ ⟨H2, p2, c2, rfl, hO2, rfl⟩; repeat (first | exact .nil | refine .cons rfl ?_)) ?_
        rintro _ _ ⟨H2, p2, c2, rfl, hO2, rfl⟩
        refine DL.q rfl (Yld.fieldAddr fo59_5 rfl) rfl ?_
        refine DL.one0 rfl (Eff.storeS (c := 104) _ sz57 rfl rfl rfl rfl rfl rfl rfl (by (try simp only [putAt, List.take, List.drop, List.nil_append, List.cons_append, List.append_nil, List.length_cons, List.length_nil, Nat.add_zero, Nat.zero_add, Nat.reduceAdd]); rfl)) (by rintro _ _ rfl; repeat (first | exact .nil | refine .cons rfl ?_)) ?_
        rintro _ _ rfl
        refine DL.done ?_
        refine N.next ?_
        refine W.keep (.of [4, 6] rfl) (.of [0, 1, 2, 3, 4, 5, 103, 104, 105, 106, 108, 180, 185] rfl) ?_
        refine W.seq (W.region ?_)
        refine RL.q (Yld.ldW 104 Tryz.underlying59 sz59 rfl rfl rfl rfl) rfl ?_
        refine RL.e0 (Eff.storeS (c := 106) _ sz59 rfl rfl rfl rfl rfl rfl rfl (by (try simp only [putAt, List.take, List.drop, List.nil_append, List.cons_append, List.append_nil, List.length_cons, List.length_nil, Nat.add_zero, Nat.zero_add, Nat.reduceAdd]); rfl)) ?_
        rintro _ _ rfl
        refine RL.q (Yld.assign rfl) rfl (RL.nil (N.next ?_))
        refine W.ret ?_
        exact N.retBy [1, 2, 3, 4, 180] (.cons (by first | exact .cell (c := 106) rfl rfl (fun w hs => run_loadVarA Tryz.underlying59 rfl sz59 rfl (fun j u hj => by rw [Nat.zero_add, PH.sub.cell hs (by first | exact single_self _ _ | exact pset_self _ _ _ | assumption)]; exact hj))) (.cons (.tmp rfl) .nil)) rfl rfl rfl rfl ⟨x.setC p2 c2 (x.cl ++ [c]) H2, by rw [hbp]; rfl, hx.setC hO2.sl, by rw [hbp, ← hxt.cl]; exact hxt.setC, rfl⟩
      ·
       refine DL.one rfl (Eff.buildSlice 185 Tryz.underlying57 sz38 zc38 rfl rfl (.cons rfl rfl .nil) rfl) rfl (by rintro _ _ ⟨b85, rfl, rfl⟩; repeat (first | exact .nil | refine .cons rfl ?_)) ?_
       rintro _ _ ⟨b85, rfl, rfl⟩
       refine DL.two ?_ ?_
       ·
        refine DL.one rfl (Eff.buildSlice 180 Tryz.underlying57 sz38 zc38 rfl rfl .nil rfl) rfl (by rintro _ _ ⟨b80, rfl, rfl⟩; repeat (first | exact .nil | refine .cons rfl ?_)) ?_
        rintro _ _ ⟨b80, rfl, rfl⟩
        refine DL.one rfl (Yld.eff (Yld.ld 104 Tryz.underlying57 rfl rfl rfl rfl)) rfl (by rintro _ _ ⟨rfl, rfl⟩; repeat (first | exact .nil | refine .cons rfl ?_)) ?_
        rintro _ _ ⟨rfl, rfl⟩
        refine DL.one rfl (Eff.appendE (tc := 180) (sc := 5) (ms := x.cl) (ls := ([] : List Cl)) Cl.c Tryz.underlying57 el38 rfl rfl rfl rfl (Own.none0 rfl : Own _ _ 0 38 4 (([] : List Cl).map Cl.c)) rfl hSc rfl (fun a _ => Cl.one a) (by decide) (by simp; omega) (by simp [maxLen]; omega)) rfl (by rintro _ _ ⟨G1, p1, c1, rfl, hO1, rfl⟩; repeat (first | exact .nil | refine .cons rfl ?_)) ?_
        rintro _ _ ⟨G1, p1, c1, rfl, hO1, rfl⟩
        refine DL.one rfl (Eff.appendE (tc := 180) (sc := 185) (ms := [c]) Cl.c Tryz.underlying57 el38 rfl rfl rfl rfl hO1 rfl (Own.one (l := c.c) rfl (Cl.one c) rfl).sl rfl (fun a _ => Cl.one a) (by decide) (by simp; omega) (by simp [maxLen]; omega)) rfl (by rintro _ _ ⟨H2, p2, c2, rfl, hO2, rfl⟩; repeat (first | exact .nil | refine .cons rfl ?_)) ?_
        rintro _ _ ⟨H2, p2, c2, rfl, hO2, rfl⟩
        refine DL.q rfl (Yld.fieldAddr fo59_5 rfl) rfl ?_
        refine DL.one0 rfl (Eff.storeS (c := 104) _ sz57 rfl rfl rfl rfl rfl rfl rfl (by (try simp only [putAt, List.take, List.drop, List.nil_append, List.cons_append, List.append_nil, List.length_cons, List.length_nil, Nat.add_zero, Nat.zero_add, Nat.reduceAdd]); rfl)) (by rintro _ _ rfl; repeat (first | exact .nil | refine .cons rfl ?_)) ?_
        rintro _ _ rfl
        refine DL.done ?_
        refine N.next ?_
        refine W.keep (.of [4, 6] rfl) (.of [0, 1, 2, 3, 4, 5, 103, 104, 105, 106, 108, 180, 185] rfl) ?_
        refine W.seq (W.region ?_)
        refine RL.q (Yld.ldW 104 Tryz.underlying59 sz59 rfl rfl rfl rfl) rfl ?_
        refine RL.e0 (Eff.storeS (c := 106) _ sz59 rfl rfl rfl rfl rfl rfl rfl (by (try simp only [putAt, List.take, List.drop, List.nil_append, List.cons_append, List.append_nil, List.length_cons, List.length_nil, Nat.add_zero, Nat.zero_add, Nat.reduceAdd]); rfl)) ?_
        rintro _ _ rfl
        refine RL.q (Yld.assign rfl) rfl (RL.nil (N.next ?_))
        refine W.ret ?_
        exact N.retBy [1, 2, 3, 4, 180] (.cons (by first | exact .cell (c := 106) rfl rfl (fun w hs => run_loadVarA Tryz.underlying59 rfl sz59 rfl (fun j u hj => by rw [Nat.zero_add, PH.sub.cell hs (by first | exact single_self _ _ | exact pset_self _ _ _ | assumption)]; exact hj))) (.cons (.tmp rfl) .nil)) rfl rfl rfl rfl ⟨x.setC p2 c2 (x.cl ++ [c]) H2, by rw [hbp]; rfl, hx.setC hO2.sl, by rw [hbp, ← hxt.cl]; exact hxt.setC, rfl⟩
       ·
        refine DL.one rfl (Yld.eff (Yld.ld 104 Tryz.underlying57 rfl rfl rfl rfl)) rfl (by rintro _ _ ⟨rfl, rfl⟩; repeat (first | exact .nil | refine .cons rfl ?_)) ?_
        rintro _ _ ⟨rfl, rfl⟩
        refine DL.one rfl (Eff.buildSlice 180 Tryz.underlying57 sz38 zc38 rfl rfl .nil rfl) rfl (by rintro _ _ ⟨b80, rfl, rfl⟩; repeat (first | exact .nil | refine .cons rfl ?_)) ?_
        rintro _ _ ⟨b80, rfl, rfl⟩
        refine DL.one rfl (Eff.appendE (tc := 180) (sc := 5) (ms := x.cl) (ls := ([] : List Cl)) Cl.c Tryz.underlying57 el38 rfl rfl rfl rfl (Own.none0 rfl : Own _ _ 0 38 4 (([] : List Cl).map Cl.c)) rfl hSc rfl (fun a _ => Cl.one a) (by decide) (by simp; omega) (by simp [maxLen]; omega)) rfl (by rintro _ _ ⟨G1, p1, c1, rfl, hO1, rfl⟩; repeat (first | exact .nil | refine .cons rfl ?_)) ?_
        rintro _ _ ⟨G1, p1, c1, rfl, hO1, rfl⟩
        refine DL.one rfl (Eff.appendE (tc := 180) (sc := 185) (ms := [c]) Cl.c Tryz.underlying57 el38 rfl rfl rfl rfl hO1 rfl (Own.one (l := c.c) rfl (Cl.one c) rfl).sl rfl (fun a _ => Cl.one a) (by decide) (by simp; omega) (by simp [maxLen]; omega)) rfl (by rintro _ _ ⟨H2, p2, c2, rfl, hO2, rfl⟩; repeat (first | exact .nil | refine .cons rfl ?_)) ?_
        rintro _ _ ⟨H2, p2, c2, rfl, hO2, rfl⟩
        refine DL.q rfl (Yld.fieldAddr fo59_5 rfl) rfl ?_
        refine DL.one0 rfl (Eff.storeS (c := 104) _ sz57 rfl rfl rfl rfl rfl rfl rfl (by (try simp only [putAt, List.take, List.drop, List.nil_append, List.cons_append, List.append_nil, List.length_cons, List.length_nil, Nat.add_zero, Nat.zero_add, Nat.reduceAdd]); rfl)) (by rintro _ _ rfl; repeat (first | exact .nil | refine .cons rfl ?_)) ?_
        rintro _ _ rfl
        refine DL.done ?_
        refine N.next ?_
        refine W.keep (.of [4, 6] rfl) (.of [0, 1, 2, 3, 4, 5, 103, 104, 105, 106, 108, 180, 185] rfl) ?_
        refine W.seq (W.region ?_)
        refine RL.q (Yld.ldW 104 Tryz.underlying59 sz59 rfl rfl rfl rfl) rfl ?_
        refine RL.e0 (Eff.storeS (c := 106) _ sz59 rfl rfl rfl rfl rfl rfl rfl (by (try simp only [putAt, List.take, List.drop, List.nil_append, List.cons_append, List.append_nil, List.length_cons, List.length_nil, Nat.add_zero, Nat.zero_add, Nat.reduceAdd]); rfl)) ?_
        rintro _ _ rfl
        refine RL.q (Yld.assign rfl) rfl (RL.nil (N.next ?_))
        refine W.ret ?_
        exact N.retBy [1, 2, 3, 4, 180] (.cons (by first | exact .cell (c := 106) rfl rfl (fun w hs => run_loadVarA Tryz.underlying59 rfl sz59 rfl (fun j u hj => by rw [Nat.zero_add, PH.sub.cell hs (by first | exact single_self _ _ | exact pset_self _ _ _ | assumption)]; exact hj))) (.cons (.tmp rfl) .nil)) rfl rfl rfl rfl ⟨x.setC p2 c2 (x.cl ++ [c]) H2, by rw [hbp]; rfl, hx.setC hO2.sl, by rw [hbp, ← hxt.cl]; exact hxt.setC, rfl⟩
set_option maxRecDepth 100000 in
set_option maxHeartbeats 3200000 in
theorem rtick_ct (m : Md) (H1 : PH) (hM : m.In H1) (x : Rt) (mach : Int) (hx : x.In) (t : T) (hxt : x.Is t) (hb : t.us.length ≤ 900000) : Ct Tryz.prog 64 [.agg [.slice m.psi m.si.length m.csi, .slice m.pfe m.fe.length m.cfe, .slice m.prk m.rk.length m.crk, .slice m.pmc m.mc.length m.cmc, .slice m.pln m.ln.length m.cln, .slice m.pis m.is.length m.cis, .int .i64 m.da, .int .i64 m.sl, .int .i64 m.re, .int .i64 m.fa, .slice m.prl m.rl.length m.crl].toArray, .agg [.int .i64 mach, .slice x.pu x.us.length x.cu, .int .i64 x.gen, .slice x.ps x.st.length x.cs, .slice x.pv x.va.length x.cv, .slice x.pc x.cl.length x.cc].toArray] [H1, x.HU, x.HS, x.HV, x.HC] (fun v Hs => ∃ y : Rt, v = .tuple [.agg [.int .i64 mach, .slice y.pu y.us.length y.cu, .int .i64 y.gen, .slice y.ps y.st.length y.cs, .slice y.pv y.va.length y.cv, .slice y.pc y.cl.length y.cc].toArray, .slice x.pc x.cl.length x.cc].toArray ∧ y.In ∧ y.Is (tickP (kdOf m) t) ∧ Hs = [H1, y.HU, y.HS, y.HV, y.HC, x.HC]) := by
  refine Ct.body Tryz.func64 rfl Tryz.ntmps64 rfl ?_
  intro E F
  obtain ⟨hSu, hSs, hSv, hSc⟩ := id hx
  have hmu := hSu.len_le
  have hms := hSs.len_le
  have hmv := hSv.len_le
  have hmc := hSc.len_le
  simp only [List.length_map, iz_len, maxLen] at hmu hms hmv hmc
  have hul : x.us.length = t.us.length := by rw [hxt.us]
  refine W.seq ?_
  refine W.imp (Imp.empty _ 160) ?_
  refine W.region ?_
  refine RL.e (Eff.box 102 _ rfl rfl) rfl ?_
  rintro _ _ ⟨b2, rfl, rfl⟩
  refine RL.e (Eff.box 103 _ rfl rfl) rfl ?_
  rintro _ _ ⟨b3, rfl, rfl⟩
  refine RL.e (Eff.alloc 104 zc59) rfl ?_
  rintro _ _ ⟨b4, rfl, rfl⟩
  refine RL.q (Yld.assign rfl) rfl (RL.nil (N.next ?_))
  refine W.seq (W.region ?_)
  refine RL.e (Eff.buildSlice 109 Tryz.underlying41 sz48 zc48 rfl rfl .nil rfl) rfl ?_
  rintro _ _ ⟨b9, rfl, rfl⟩
  refine RL.q (Yld.fieldAddr fo59_1 rfl) rfl ?_
  refine RL.q (Yld.ld 103 Tryz.underlying41 rfl rfl rfl rfl) rfl ?_
  refine RL.e (Eff.appendE (tc := 109) (sc := 2) (ms := x.us) (ls := ([] : List U)) U.c Tryz.underlying41 el48 rfl rfl rfl rfl (Own.none0 rfl : Own _ _ 0 48 5 (([] : List U).map U.c)) rfl hSu rfl (fun a _ => U.one a) (by decide) (by simp; omega) (by simp [maxLen]; omega)) rfl ?_
  rintro _ _ ⟨G1, p1, c1, rfl, hO1, rfl⟩
  simp only [List.nil_append] at hO1 ⊢
  refine RL.q (Yld.assign rfl) rfl (RL.nil (N.next ?_))
  refine W.keep (.of [2, 3, 4, 6] rfl) (.of [0, 1, 2, 3, 4, 5, 102, 103, 104, 109, 160] rfl) ?_
  refine W.seq ?_
  refine W.seq (W.region ?_)
  refine RL.q (Yld.assign rfl) rfl (RL.nil (N.next ?_))
  refine W.block ?_
  refine W.loopK (ι := UI) (fun z => (z.j ≤ x.us.length ∧ Own z.H p1 c1 48 5 ((blend (tickU (kdOf m)) x.us z.j).map U.c))) (fun z => [(7, .int .i64 (z.j : Nat))]) (fun z => [(109, z.H)]) (fun z => x.us.length - z.j) (.of [2, 3, 4, 6] rfl) (.of [0, 1, 2, 3, 4, 5, 102, 103, 104, 160] rfl) ⟨0, G1⟩ ?_ ?_ ?_ ?_
  · exact ⟨Nat.zero_le _, by rw [blend_zero]; exact hO1⟩
  · exact (.as rfl (by first | rfl | (simp; done) | (congr 1; simp; done) | (congr 1; omega)) .nil)
  · exact (.to rfl)
  rintro z ⟨hj, hO⟩
  refine W.keep (.of [7, 2, 3, 4, 6] rfl) (.of [109, 0, 1, 2, 3, 4, 5, 102, 103, 104, 160] rfl) ?_
  refine W.seq ?_
  refine W.seq (W.region ?_)
  refine RL.q (Yld.move rfl) rfl (RL.q (Yld.move rfl) rfl ?_)
  refine RL.q (Yld.lenSl Tryz.underlying41 rfl) rfl ?_
  refine RL.q (Yld.bin rfl rfl BinV.lss) rfl ?_
  refine RL.nil (N.next ?_)
  first | refine W.condD rfl (fun hc16 => ?_) (fun hc16 => ?_) | (refine W.cond rfl (fun hc16 => ?_) (fun hc16 => ?_) <;> try simp only [Bool.or_eq_true, Bool.and_eq_true, Bool.not_eq_true', Bool.not_eq_false', decide_eq_true_eq, Bool.or_eq_false_iff, Bool.and_eq_false_iff, decide_eq_false_iff_not, beq_iff_eq, beq_eq_false_iff_ne, ne_eq, Decidable.not_not] at hc16)
  ·
   obtain ⟨u, hu⟩ : ∃ u, x.us[z.j]? = some u := ⟨_, List.getElem?_eq_getElem (by omega)⟩
   have hlu := uz_get (blend_get (f := tickU (kdOf m)) hu)
   have hbl := blend_len (tickU (kdOf m)) x.us z.j
   refine W.skip ?_
   refine N.next ?_
   refine W.keep (.of [2, 3, 4, 6, 7] rfl) (.of [0, 1, 2, 3, 4, 5, 102, 103, 104, 109, 160] rfl) ?_
   refine W.seq ?_
   refine W.block ?_
   refine W.seq ?_
   refine W.draw (.q 0 (.q 1 (.q 2 (.q 3 (.q 4 (.q 5 (.one 6 (.q 7 (.q 8 (.q 9 (.q 10 (.q 11 (.q 12 (.q 13 (.q 14 (.q 15 .done)))))))))))))))) (.of [0, 2, 3, 4, 5, 102, 103, 104, 109, 160] rfl) mix (by kernel_rfl) (by kernel_rfl) ?_
   refine DL.q rfl (Yld.ldW 102 Tryz.underlying29 sz29 rfl rfl rfl rfl) rfl ?_
   refine DL.q rfl (Yld.move rfl) rfl ?_
   refine DL.q rfl (Yld.move rfl) rfl ?_
   refine DL.q rfl (Yld.ixr Tryz.underlying41 sz48 rfl rfl) rfl ?_
   refine DL.q rfl (Yld.fieldAddr fo48_0 rfl) rfl ?_
   refine DL.q rfl (by first | exact (by first | exact Yld.loadRow1 (cl := 1) Tryz.underlying3 rfl rfl rfl (by first | assumption | exact Own.sl (by assumption)) (by assumption) | exact Yld.loadRow1 (cl := 2) Tryz.underlying3 rfl rfl rfl (by first | assumption | exact Own.sl (by assumption)) (by assumption) | exact Yld.loadRow1 (cl := 3) Tryz.underlying3 rfl rfl rfl (by first | assumption | exact Own.sl (by assumption)) (by assumption) | exact Yld.loadRow1 (cl := 4) Tryz.underlying3 rfl rfl rfl (by first | assumption | exact Own.sl (by assumption)) (by assumption) | exact Yld.loadRow1 (cl := 5) Tryz.underlying3 rfl rfl rfl (by first | assumption | exact Own.sl (by assumption)) (by assumption) | exact Yld.loadRow1 (cl := 102) Tryz.underlying3 rfl rfl rfl (by first | assumption | exact Own.sl (by assumption)) (by assumption) | exact Yld.loadRow1 (cl := 103) Tryz.underlying3 rfl rfl rfl (by first | assumption | exact Own.sl (by assumption)) (by assumption) | exact Yld.loadRow1 (cl := 104) Tryz.underlying3 rfl rfl rfl (by first | assumption | exact Own.sl (by assumption)) (by assumption) | exact Yld.loadRow1 (cl := 160) Tryz.underlying3 rfl rfl rfl (by first | assumption | exact Own.sl (by assumption)) (by assumption) | exact Yld.loadRow1 (cl := 109) Tryz.underlying3 rfl rfl rfl (by first | assumption | exact Own.sl (by assumption)) (by assumption)) | exact (by first | exact Yld.lrF 1 0 Tryz.underlying3 rfl rfl rfl rfl | exact Yld.lrF 2 0 Tryz.underlying3 rfl rfl rfl rfl | exact Yld.lrF 3 0 Tryz.underlying3 rfl rfl rfl rfl | exact Yld.lrF 4 0 Tryz.underlying3 rfl rfl rfl rfl | exact Yld.lrF 5 0 Tryz.underlying3 rfl rfl rfl rfl | exact Yld.lrF 102 0 Tryz.underlying3 rfl rfl rfl rfl | exact Yld.lrF 103 0 Tryz.underlying3 rfl rfl rfl rfl | exact Yld.lrF 104 0 Tryz.underlying3 rfl rfl rfl rfl | exact Yld.lrF 160 0 Tryz.underlying3 rfl rfl rfl rfl | exact Yld.lrF 109 0 Tryz.underlying3 rfl rfl rfl rfl)) rfl ?_
   refine DL.one rfl (Eff.call ent47 [1] [1] (.cons rfl (.cons rfl .nil)) (rkind_ct m H1 hM u.it) rfl rfl rfl rfl (by rintro _ _ ⟨_, rfl⟩; rfl)) rfl (by rintro _ _ ⟨_, ⟨rfl, rfl⟩, rfl⟩; repeat (first | exact .nil | refine .cons rfl ?_)) ?_
   rintro _ _ ⟨_, ⟨rfl, rfl⟩, rfl⟩
   refine DL.q rfl (Yld.bin rfl rfl BinV.eql) rfl ?_
   refine DL.q rfl (Yld.move rfl) rfl ?_
   refine' DL.and (t := 27) (d := 34) 7 rfl (.of [2, 3, 4, 6, 7, 19, 20, 21, 22, 23, 24, 25, 26] rfl) (.of [0, 1, 2, 3, 4, 5, 102, 103, 104, 109, 160] rfl) ?_ ?_ ?_
   rotate_left 1
   ·
    intro hg27
    refine DL.gq rfl rfl rfl (Yld.move rfl) rfl ?_
    refine DL.gq rfl rfl rfl (Yld.move rfl) rfl ?_
    refine DL.gq rfl rfl rfl (Yld.ixr Tryz.underlying41 sz48 rfl rfl) rfl ?_
    refine DL.gq rfl rfl rfl (Yld.fieldAddr fo48_2 rfl) rfl ?_
    refine DL.gq rfl rfl rfl (by first | exact Yld.lrF 1 2 Tryz.underlying3 rfl rfl rfl rfl | exact Yld.lrF 2 2 Tryz.underlying3 rfl rfl rfl rfl | exact Yld.lrF 3 2 Tryz.underlying3 rfl rfl rfl rfl | exact Yld.lrF 4 2 Tryz.underlying3 rfl rfl rfl rfl | exact Yld.lrF 5 2 Tryz.underlying3 rfl rfl rfl rfl | exact Yld.lrF 102 2 Tryz.underlying3 rfl rfl rfl rfl | exact Yld.lrF 103 2 Tryz.underlying3 rfl rfl rfl rfl | exact Yld.lrF 104 2 Tryz.underlying3 rfl rfl rfl rfl | exact Yld.lrF 160 2 Tryz.underlying3 rfl rfl rfl rfl | exact Yld.lrF 109 2 Tryz.underlying3 rfl rfl rfl rfl) rfl ?_
    refine DL.gq rfl rfl rfl (Yld.bin rfl rfl BinV.eql) rfl ?_
    refine DL.q rfl Yld.pk rfl ?_
    exact DL.meet (.to rfl) (.to rfl)
   ·
    intro hg27
    refine DL.gskip rfl rfl rfl rfl rfl ?_
    refine DL.gskip rfl rfl rfl rfl rfl ?_
    refine DL.gskip rfl rfl rfl rfl rfl ?_
    refine DL.gskip rfl rfl rfl rfl rfl ?_
    refine DL.gskip rfl rfl rfl rfl rfl ?_
    refine DL.gskip rfl rfl rfl rfl rfl ?_
    refine DL.q rfl Yld.pk rfl ?_
    exact DL.meet (.to rfl) (.to rfl)
   refine DL.done ?_
   refine N.next ?_
   refine W.keep (.of [2, 3, 4, 6, 7, 34] rfl) (.of [0, 1, 2, 3, 4, 5, 102, 103, 104, 109, 160] rfl) ?_
   refine W.cond rfl (fun hc34 => ?_) (fun hc34 => ?_)
   ·
    have htk : tickU (kdOf m) u = { u with va := w64 (u.va + 1) } := by
      simp only [Bool.and_eq_true, decide_eq_true_eq] at hc34
      unfold tickU; exact if_pos hc34
    refine W.region ?_
    refine RL.q (Yld.move rfl) rfl (RL.q (Yld.move rfl) rfl ?_)
    refine RL.q (Yld.ixr Tryz.underlying41 sz48 rfl rfl) rfl ?_
    refine RL.q (Yld.fieldAddr fo48_3 rfl) rfl ?_
    refine RL.q (by first | exact Yld.lrF 1 3 Tryz.underlying2 rfl rfl rfl rfl | exact Yld.lrF 2 3 Tryz.underlying2 rfl rfl rfl rfl | exact Yld.lrF 3 3 Tryz.underlying2 rfl rfl rfl rfl | exact Yld.lrF 4 3 Tryz.underlying2 rfl rfl rfl rfl | exact Yld.lrF 5 3 Tryz.underlying2 rfl rfl rfl rfl | exact Yld.lrF 102 3 Tryz.underlying2 rfl rfl rfl rfl | exact Yld.lrF 103 3 Tryz.underlying2 rfl rfl rfl rfl | exact Yld.lrF 104 3 Tryz.underlying2 rfl rfl rfl rfl | exact Yld.lrF 160 3 Tryz.underlying2 rfl rfl rfl rfl | exact Yld.lrF 109 3 Tryz.underlying2 rfl rfl rfl rfl) rfl ?_
    refine RL.q (Yld.bin rfl rfl (by first | exact BinV.add (by omega) (by omega) | exact BinV.addW)) rfl ?_
    refine RL.q (Yld.ixr Tryz.underlying41 sz48 rfl rfl) rfl ?_
    refine RL.q (Yld.fieldAddr fo48_3 rfl) rfl ?_
    refine RL.e0 (Eff.storeRow (tc := 109) (j := 3) sz2 rfl rfl rfl hO hlu rfl rfl rfl rfl rfl) ?_
    rintro _ _ ⟨Hb, hOb, rfl⟩
    replace hOb : Own Hb p1 c1 48 5 ((blend (tickU (kdOf m)) x.us (z.j + 1)).map U.c) := by rw [← blend_set hu, List.map_set, htk]; exact hOb
    refine RL.nil ?_
    refine N.block_normal ?_
    refine N.next ?_
    refine W.keep (.of [2, 3, 4, 6, 7] rfl) (.of [0, 1, 2, 3, 4, 5, 102, 103, 104, 109, 160] rfl) ?_
    refine W.region ?_
    refine RL.q (Yld.move rfl) rfl ?_
    refine RL.q (Yld.bin rfl rfl (by first | exact BinV.add (by omega) (by omega) | exact BinV.addW)) rfl ?_
    refine RL.q (Yld.assign rfl) rfl (RL.nil ?_)
    exact N.famK ⟨z.j + 1, Hb⟩ ⟨⟨by dsimp only; omega, hOb⟩, by dsimp only; omega⟩ (.as rfl (by first | rfl | (simp; done) | (congr 1; simp; done) | (congr 1; omega)) .nil) (.to rfl) (.to rfl) (.to rfl)
   ·
    have htk : tickU (kdOf m) u = u := by
      unfold tickU
      refine if_neg fun h => ?_
      rw [decide_eq_true h.1, decide_eq_true h.2] at hc34; cases hc34
    refine W.skip ?_
    refine N.block_normal ?_
    refine N.next ?_
    refine W.region ?_
    refine RL.q (Yld.move rfl) rfl ?_
    refine RL.q (Yld.bin rfl rfl (by first | exact BinV.add (by omega) (by omega) | exact BinV.addW)) rfl ?_
    refine RL.q (Yld.assign rfl) rfl (RL.nil ?_)
    exact N.famK ⟨z.j + 1, z.H⟩ ⟨⟨by dsimp only; omega, by dsimp only; rw [blend_same hu htk]; exact hO⟩, by dsimp only; omega⟩ (.as rfl (by first | rfl | (simp; done) | (congr 1; simp; done) | (congr 1; omega)) .nil) (.to rfl) (.to rfl) (.to rfl)
  ·
   have hend : z.j = x.us.length := by omega
   rw [hend, blend_end] at hO
   refine W.exit ?_
   refine N.then_exit ?_
   refine N.then_exit ?_
   refine N.block_eq ?_
   refine N.next ?_
   refine W.keep (.of [3, 4, 6] rfl) (.of [0, 1, 2, 3, 4, 5, 102, 103, 104, 109, 160] rfl) ?_
   refine W.seq (W.region ?_)
   refine RL.q (Yld.fieldAddr fo59_5 rfl) rfl ?_
   refine RL.q (Yld.ld 103 Tryz.underlying57 rfl rfl rfl rfl) rfl ?_
   refine RL.q (Yld.assign rfl) rfl (RL.nil (N.next ?_))
   refine W.seq (W.region ?_)
   refine RL.q (Yld.move rfl) rfl ?_
   refine RL.q (Yld.fieldAddr fo59_1 rfl) rfl ?_
   refine RL.e0 (Eff.storeS (c := 103) _ sz41 rfl rfl rfl rfl rfl rfl rfl (by (try simp only [putAt, List.take, List.drop, List.nil_append, List.cons_append, List.append_nil, List.length_cons, List.length_nil, Nat.add_zero, Nat.zero_add, Nat.reduceAdd]); rfl)) ?_
   rintro _ _ rfl
   refine RL.q (Yld.fieldAddr fo59_5 rfl) rfl ?_
   refine RL.e0 (Eff.storeS (c := 103) _ sz57 rfl rfl rfl rfl rfl rfl rfl (by (try simp only [putAt, List.take, List.drop, List.nil_append, List.cons_append, List.append_nil, List.length_cons, List.length_nil, Nat.add_zero, Nat.zero_add, Nat.reduceAdd]); rfl)) ?_
   rintro _ _ rfl
   refine RL.nil (N.next ?_)
   refine W.keep (.of [3, 4, 8] rfl) (.of [0, 1, 2, 3, 4, 5, 102, 103, 104, 109, 160] rfl) ?_
   refine W.seq (W.region ?_)
   refine RL.q (Yld.ldW 103 Tryz.underlying59 sz59 rfl rfl rfl rfl) rfl ?_
   refine RL.q (Yld.move rfl) rfl ?_
   refine RL.e0 (Eff.storeS (c := 104) _ sz59 rfl rfl rfl rfl rfl rfl rfl (by (try simp only [putAt, List.take, List.drop, List.nil_append, List.cons_append, List.append_nil, List.length_cons, List.length_nil, Nat.add_zero, Nat.zero_add, Nat.reduceAdd]); rfl)) ?_
   rintro _ _ rfl
   refine RL.q (Yld.assign rfl) rfl (RL.nil (N.next ?_))
   refine W.keep (.of [4, 5] rfl) (.of [0, 1, 2, 3, 4, 5, 102, 103, 104, 109, 160] rfl) ?_
   refine W.ret ?_
   exact N.retBy [1, 109, 3, 4, 160, 5] (.cons (by first | exact .cell (c := 104) rfl rfl (fun w hs => run_loadVarA Tryz.underlying59 rfl sz59 rfl (fun j u hj => by rw [Nat.zero_add, PH.sub.cell hs (by first | exact single_self _ _ | exact pset_self _ _ _ | assumption)]; exact hj))) (.cons (.tmp rfl) .nil)) rfl rfl rfl rfl ⟨(x.setU p1 c1 (x.us.map (tickU (kdOf m))) z.H).setC none 0 [] emp, by unfold Rt.setC Rt.setU; simp only [List.length_map]; rfl, (hx.setU hO.sl).setC (Own.nil 38 4).sl, ⟨by show x.us.map _ = _; rw [hxt.us]; rfl, hxt.gn, hxt.st, hxt.va, rfl⟩, rfl⟩
end Go.Proofs.YtboapdcmaeojgaaGreatDoor
namespace Go.Proofs.YtboapdcmaeojgaaGreatDoor.Fen
open SL Cat
set_option linter.unusedVariables false
set_option linter.unusedSimpArgs false
structure SI (m : Md) (mach : Int) (k : Nat) (t : T) : Prop where
  ti : TI m mach t
  us : t.us.length ≤ 8 + k
  cs : t.cs.length ≤ k
  dn : t.dn.length ≤ k
def stepP (m : Md) (mach : Int) (t : T) (o : Opn) : T :=
  if o.kd = 0 then (doP (kdOf m o.c.it) mach t o.g o.s o.c).1 else if o.kd = 1 then (beginP (kdOf m o.cl.it) t o.cl).1 else if o.kd = 2 then tickP (kdOf m) t else if o.kd = 3 then { t with cs := [] } else t
def runP (m : Md) (mach : Int) (l : List Opn) : T := l.foldl (stepP m mach) (newT m mach)
theorem runP_take {m : Md} {mach : Int} {l : List Opn} {j : Nat} {o : Opn} (h : l[j]? = some o) : runP m mach (l.take (j + 1)) = stepP m mach (runP m mach (l.take j)) o := by
  unfold runP; rw [tsnoc h, List.foldl_append]; rfl
theorem seen_dn_le (t : T) (g : Int) : (seen t g).dn.length ≤ t.dn.length := by
  unfold seen; split
  · exact Nat.zero_le _
  · exact Nat.le_refl _
theorem do_dn_len {k mach : Int} {t : T} {g s : Int} {c : Cm} : (doP k mach t g s c).1.dn.length ≤ t.dn.length + 1 := by
  have h := seen_dn_le t g
  unfold doP
  split
  · exact Nat.le_succ _
  split
  · exact Nat.le_succ _
  split
  · exact Nat.le_succ_of_le h
  · simp only
    split
    · show ((seen t g).dn ++ [_]).length ≤ _
      rw [List.length_append]; exact Nat.succ_le_succ h
    · exact Nat.le_succ_of_le h
theorem begin_dn {k : Int} {t : T} {c : Cl} : (beginP k t c).1.dn = t.dn := by
  unfold beginP
  split
  · rfl
  split
  · rfl
  split
  · rfl
  · split <;> rfl
theorem SI.new {m : Md} (hv : MdV m) {mach : Int} (h1 : 1 ≤ mach) (h2 : mach ≤ m.mc.length) : SI m mach 0 (newT m mach) := ⟨new_ti hv h1 h2, Nat.le_trans (newN_le _) hv.n5, Nat.zero_le _, Nat.zero_le _⟩
theorem SI.do {m : Md} {mach : Int} {k : Nat} {t : T} (h : SI m mach k t) {g s : Int} {c : Cm} (hc : c.rp ≤ 9223372036854775807) : SI m mach (k + 1) (doP (kdOf m c.it) mach t g s c).1 := by
  have h1 := do_len (k := kdOf m c.it) (mach := mach) (t := t) (g := g) (s := s) (c := c)
  have h2 := do_cs (k := kdOf m c.it) (mach := mach) (t := t) (g := g) (s := s) (c := c)
  have h3 := do_dn_len (k := kdOf m c.it) (mach := mach) (t := t) (g := g) (s := s) (c := c)
  have := h.us; have := h.cs; have := h.dn
  exact ⟨do_ti h.ti hc, by omega, by rw [h2]; omega, by omega⟩
theorem SI.step {m : Md} {mach : Int} {k : Nat} {t : T} (h : SI m mach k t) {o : Opn} (hc : o.c.rp ≤ 9223372036854775807) : SI m mach (k + 1) (stepP m mach t o) := by
  have h1 := h.us; have h2 := h.cs; have h3 := h.dn
  unfold stepP
  split
  · exact h.do hc
  split
  · have := begin_len (k := kdOf m o.cl.it) (t := t) (c := o.cl)
    exact ⟨begin_ti h.ti, by rw [begin_us]; omega, by omega, by rw [begin_dn]; omega⟩
  split
  · exact ⟨tick_ti h.ti, by show (t.us.map _).length ≤ _; rw [List.length_map]; omega, Nat.zero_le _, by show t.dn.length ≤ _; omega⟩
  split
  · exact ⟨⟨h.ti.inv, h.ti.rng⟩, by show t.us.length ≤ _; omega, Nat.zero_le _, by show t.dn.length ≤ _; omega⟩
  · exact ⟨h.ti, by omega, by omega, by omega⟩
end Go.Proofs.YtboapdcmaeojgaaGreatDoor.Fen
namespace Go.Proofs.YtboapdcmaeojgaaGreatDoor
open SL Cat Fen
set_option linter.unusedVariables false
set_option linter.unusedSimpArgs false
theorem fo40_0 : fieldOff Tryz.prog 40 0 = some 0 := by kernel_rfl
theorem fo40_1 : fieldOff Tryz.prog 40 1 = some 1 := by kernel_rfl
theorem fo40_2 : fieldOff Tryz.prog 40 2 = some 2 := by kernel_rfl
theorem fo40_3 : fieldOff Tryz.prog 40 3 = some 3 := by kernel_rfl
theorem ent62 : Ent Tryz.prog 62 := ⟨_, _, Tryz.func62, by kernel_rfl, rfl⟩
theorem fo40_4 : fieldOff Tryz.prog 40 4 = some 7 := by kernel_rfl
theorem ent63 : Ent Tryz.prog 63 := ⟨_, _, Tryz.func63, by kernel_rfl, rfl⟩
theorem ent26 : Ent Tryz.prog 26 := ⟨_, _, Tryz.func26, by kernel_rfl, rfl⟩
theorem ent64 : Ent Tryz.prog 64 := ⟨_, _, Tryz.func64, by kernel_rfl, rfl⟩
theorem ent27 : Ent Tryz.prog 27 := ⟨_, _, Tryz.func27, by kernel_rfl, rfl⟩
theorem ent28 : Ent Tryz.prog 28 := ⟨_, _, Tryz.func28, by kernel_rfl, rfl⟩
set_option maxRecDepth 100000 in
set_option maxHeartbeats 1600000 in
theorem step_ct (m : Md) (H1 : PH) (hM : m.In H1) (mach : Int) (b : Nat) (t : T) (x : Tb) (hx : x.Is t) (y : Rt) (hy : y.In) (hyt : y.Is t) (o : Opn) (hv : MdV m) (k : Nat) (hk : k ≤ 1000) (hs : SI m mach k t) (hrp : o.c.rp ≤ 9223372036854775807) : Ct Tryz.prog 32 [.agg [.slice m.psi m.si.length m.csi, .slice m.pfe m.fe.length m.cfe, .slice m.prk m.rk.length m.crk, .slice m.pmc m.mc.length m.cmc, .slice m.pln m.ln.length m.cln, .slice m.pis m.is.length m.cis, .int .i64 m.da, .int .i64 m.sl, .int .i64 m.re, .int .i64 m.fa, .slice m.prl m.rl.length m.crl].toArray, .pointer (some ⟨b, 0, none⟩), .agg [.int .i64 mach, .slice y.pu y.us.length y.cu, .int .i64 y.gen, .slice y.ps y.st.length y.cs, .slice y.pv y.va.length y.cv, .slice y.pc y.cl.length y.cc].toArray, .agg o.cs.toArray] [H1, single b (.cells [.slice m.psi m.si.length m.csi, .slice m.pfe m.fe.length m.cfe, .slice m.prk m.rk.length m.crk, .slice m.pmc m.mc.length m.cmc, .slice m.pln m.ln.length m.cln, .slice m.pis m.is.length m.cis, .int .i64 m.da, .int .i64 m.sl, .int .i64 m.re, .int .i64 m.fa, .slice m.prl m.rl.length m.crl, .int .i64 mach, .slice x.pu x.nu x.cu, .slice x.pc x.nc x.cc, .int .i64 x.gen, .map (some x.d)].toArray 82 (0, 0)), x.HU, x.HC, single x.d (.map x.es x.ck), y.HU, y.HS, y.HV, y.HC] (fun v Hs => ∃ (x2 : Tb) (y2 : Rt) (bb : Bool), v = .tuple [.agg [.int .i64 mach, .slice y2.pu y2.us.length y2.cu, .int .i64 y2.gen, .slice y2.ps y2.st.length y2.cs, .slice y2.pv y2.va.length y2.cv, .slice y2.pc y2.cl.length y2.cc].toArray, .bool bb].toArray ∧ bb = true ∧ x2.Is (stepP m mach t o) ∧ y2.In ∧ y2.Is (stepP m mach t o) ∧ Hs = [H1, single b (.cells [.slice m.psi m.si.length m.csi, .slice m.pfe m.fe.length m.cfe, .slice m.prk m.rk.length m.crk, .slice m.pmc m.mc.length m.cmc, .slice m.pln m.ln.length m.cln, .slice m.pis m.is.length m.cis, .int .i64 m.da, .int .i64 m.sl, .int .i64 m.re, .int .i64 m.fa, .slice m.prl m.rl.length m.crl, .int .i64 mach, .slice x2.pu x2.nu x2.cu, .slice x2.pc x2.nc x2.cc, .int .i64 x2.gen, .map (some x2.d)].toArray 82 (0, 0)), x2.HU, x2.HC, single x2.d (.map x2.es x2.ck), y2.HU, y2.HS, y2.HV, y2.HC]) := by
  refine Ct.body Tryz.func32 rfl Tryz.ntmps32 rfl ?_
  intro E F
  have hk1 := hs.us
  have hk2 := hs.cs
  have hk3 := hs.dn
  refine W.seq (W.region ?_)
  refine RL.e (Eff.box 104 _ rfl rfl) rfl ?_
  rintro _ _ ⟨b4, rfl, rfl⟩
  refine RL.e (Eff.box 106 _ rfl rfl) rfl ?_
  rintro _ _ ⟨b6, rfl, rfl⟩
  refine RL.e (Eff.box 107 _ rfl rfl) rfl ?_
  rintro _ _ ⟨b7, rfl, rfl⟩
  refine RL.e (Eff.alloc 108 zc59) rfl ?_
  rintro _ _ ⟨b8, rfl, rfl⟩
  refine RL.q (Yld.assign rfl) rfl (RL.nil (N.next ?_))
  refine W.keep (.of [1, 4, 6, 7, 8] rfl) (.of [0, 1, 2, 3, 4, 5, 6, 7, 8, 9, 104, 106, 107, 108] rfl) ?_
  refine W.seq ?_
  refine W.seq (W.region ?_)
  refine RL.q (Yld.fieldAddr fo40_0 rfl) rfl ?_
  refine RL.q (Yld.ld 107 Tryz.underlying3 rfl rfl rfl rfl) rfl ?_
  refine RL.nil (N.next ?_)
  refine W.block ?_
  refine W.seq (W.region ?_)
  refine RL.q (Yld.bin rfl rfl BinV.eql) rfl ?_
  refine RL.q (Yld.assign rfl) rfl (RL.nil (N.next ?_))
  first | refine W.condD rfl (fun hc21 => ?_) (fun hc21 => ?_) | (refine W.cond rfl (fun hc21 => ?_) (fun hc21 => ?_) <;> try simp only [Bool.or_eq_true, Bool.and_eq_true, Bool.not_eq_true', Bool.not_eq_false', decide_eq_true_eq, Bool.or_eq_false_iff, Bool.and_eq_false_iff, decide_eq_false_iff_not, beq_iff_eq, beq_eq_false_iff_ne, ne_eq, Decidable.not_not] at hc21)
  ·
   have hst : (stepP m mach t o) = (doP (kdOf m o.c.it) mach t o.g o.s o.c).1 := by unfold stepP; rw [if_pos hc21]
   refine W.seq (W.region ?_)
   refine RL.q (Yld.ldW 104 Tryz.underlying29 sz29 rfl rfl rfl rfl) rfl ?_
   refine RL.q (Yld.ldW 106 Tryz.underlying59 sz59 rfl rfl rfl rfl) rfl ?_
   refine RL.q (Yld.fieldAddr fo40_1 rfl) rfl ?_
   refine RL.q (Yld.ld 107 Tryz.underlying3 rfl rfl rfl rfl) rfl ?_
   refine RL.q (Yld.fieldAddr fo40_2 rfl) rfl ?_
   refine RL.q (Yld.ld 107 Tryz.underlying3 rfl rfl rfl rfl) rfl ?_
   refine RL.q (Yld.fieldAddr fo40_3 rfl) rfl ?_
   refine RL.q (Yld.ldA 107 Tryz.underlying36 sz36 rfl rfl rfl rfl rfl) rfl ?_
   refine RL.e (Eff.call ent62 [1, 6, 7, 8, 9] [1, 6, 7, 8, 9] (.cons rfl (.cons rfl (.cons rfl (.cons rfl (.cons rfl .nil))))) (rdo_ct m H1 hM y mach hy t hyt o.g o.s o.c hs.ti (by omega) (by omega)) rfl rfl rfl rfl (by rintro _ _ ⟨_, _, _, _, _, rfl⟩; rfl)) rfl ?_
   rintro _ _ ⟨_, ⟨y2, rfl, hy2, hys2, rfl⟩, rfl⟩
   refine RL.q (Yld.move rfl) rfl ?_
   refine RL.q (Yld.extract rfl rfl) rfl ?_
   refine RL.q (Yld.extract rfl rfl) rfl ?_
   refine RL.q (Yld.extract rfl rfl) rfl ?_
   refine RL.e (Eff.alloc 110 zc59) rfl ?_
   rintro _ _ ⟨b10, rfl, rfl⟩
   refine RL.e0 (Eff.storeS (c := 110) _ sz59 rfl rfl rfl rfl rfl rfl rfl (by (try simp only [putAt, List.take, List.drop, List.nil_append, List.cons_append, List.append_nil, List.length_cons, List.length_nil, Nat.add_zero, Nat.zero_add, Nat.reduceAdd]); rfl)) ?_
   rintro _ _ rfl
   refine RL.q (Yld.assign rfl) rfl (RL.q (Yld.assign rfl) rfl (RL.nil (N.next ?_)))
   refine W.keep (.of [1, 7, 8, 10, 11, 12] rfl) (.of [0, 1, 2, 3, 4, 5, 6, 7, 8, 9, 104, 106, 107, 108, 110] rfl) ?_
   refine W.seq (W.region ?_)
   refine RL.q (Yld.move rfl) rfl ?_
   refine RL.q (Yld.fieldAddr fo40_1 rfl) rfl ?_
   refine RL.q (Yld.ld 107 Tryz.underlying3 rfl rfl rfl rfl) rfl ?_
   refine RL.q (Yld.fieldAddr fo40_2 rfl) rfl ?_
   refine RL.q (Yld.ld 107 Tryz.underlying3 rfl rfl rfl rfl) rfl ?_
   refine RL.q (Yld.fieldAddr fo40_3 rfl) rfl ?_
   refine RL.q (Yld.ldA 107 Tryz.underlying36 sz36 rfl rfl rfl rfl rfl) rfl ?_
   refine RL.e (Eff.call ent15 [1, 2, 3, 4, 5] [1, 2, 3, 4, 5] (.cons rfl (.cons rfl (.cons rfl (.cons rfl .nil)))) (do_ct m H1 hM mach b t x hx o.g o.s o.c hv hs.ti hrp (by omega)) rfl rfl rfl rfl (by rintro _ _ ⟨_, _, _, rfl⟩; rfl)) rfl ?_
   rintro _ _ ⟨_, ⟨x2, rfl, hx2, rfl⟩, rfl⟩
   refine RL.q (Yld.move rfl) rfl ?_
   refine RL.q (Yld.extract rfl rfl) rfl ?_
   refine RL.q (Yld.extract rfl rfl) rfl ?_
   refine RL.q (Yld.assign rfl) rfl (RL.q (Yld.assign rfl) rfl (RL.nil (N.next ?_)))
   refine W.keep (.of [8, 10, 11, 12, 13, 14] rfl) (.of [0, 1, 2, 3, 4, 5, 6, 7, 8, 9, 104, 106, 107, 108, 110] rfl) ?_
   refine W.seq (W.region ?_)
   refine RL.q (Yld.ldW 110 Tryz.underlying59 sz59 rfl rfl rfl rfl) rfl ?_
   refine RL.q (Yld.move rfl) rfl (RL.q (Yld.move rfl) rfl ?_)
   refine RL.q (Yld.bin rfl rfl BinV.eql) rfl ?_
   refine RL.q (Yld.move rfl) rfl ?_
   refine' RL.and (t := 51) (d := 55) 4 rfl (.of [8, 10, 11, 12, 13, 14, 47, 48, 49, 50] rfl) (.of [0, 1, 2, 3, 4, 5, 6, 7, 8, 9, 104, 106, 107, 108, 110] rfl) ?_ ?_ ?_
   rotate_left 1
   ·
    intro hg51
    refine RL.gq rfl rfl (Yld.move rfl) rfl ?_
    refine RL.gq rfl rfl (Yld.move rfl) rfl ?_
    refine RL.gq rfl rfl (Yld.bin rfl rfl BinV.eql) rfl ?_
    refine RL.q Yld.pk rfl ?_
    exact RL.nil (N.meet (.to rfl) (.to rfl))
   ·
    intro hg51
    refine RL.gskip rfl rfl rfl rfl ?_
    refine RL.gskip rfl rfl rfl rfl ?_
    refine RL.gskip rfl rfl rfl rfl ?_
    refine RL.q Yld.pk rfl ?_
    exact RL.nil (N.meet (.to rfl) (.to rfl))
   refine RL.e0 (Eff.storeS (c := 108) _ sz59 rfl rfl rfl rfl rfl rfl rfl (by (try simp only [putAt, List.take, List.drop, List.nil_append, List.cons_append, List.append_nil, List.length_cons, List.length_nil, Nat.add_zero, Nat.zero_add, Nat.reduceAdd]); rfl)) ?_
   rintro _ _ rfl
   refine RL.q (Yld.assign rfl) rfl (RL.nil (N.next ?_))
   refine W.keep (.of [8, 9] rfl) (.of [0, 1, 2, 3, 4, 5, 6, 7, 8, 9, 104, 106, 107, 108, 110] rfl) ?_
   refine W.ret ?_
   refine N.block_ret ?_
   refine N.then_ret ?_
   exact N.retBy [1, 2, 3, 4, 5, 6, 7, 8, 9] (.cons (by first | exact .cell (c := 108) rfl rfl (fun w hs => run_loadVarA Tryz.underlying59 rfl sz59 rfl (fun j u hj => by rw [Nat.zero_add, PH.sub.cell hs (by first | exact single_self _ _ | exact pset_self _ _ _ | assumption)]; exact hj))) (.cons (.tmp rfl) .nil)) rfl rfl rfl rfl ⟨x2, y2, _, rfl, by simp, by rw [hst]; exact hx2, hy2, by rw [hst]; exact hys2, rfl⟩
  ·
   refine W.seq (W.region ?_)
   refine RL.q (Yld.bin rfl rfl BinV.eql) rfl ?_
   refine RL.q (Yld.assign rfl) rfl (RL.nil (N.next ?_))
   refine W.keep (.of [1, 4, 6, 7, 8, 20, 56] rfl) (.of [0, 1, 2, 3, 4, 5, 6, 7, 8, 9, 104, 106, 107, 108] rfl) ?_
   first | refine W.condD rfl (fun hc56 => ?_) (fun hc56 => ?_) | (refine W.cond rfl (fun hc56 => ?_) (fun hc56 => ?_) <;> try simp only [Bool.or_eq_true, Bool.and_eq_true, Bool.not_eq_true', Bool.not_eq_false', decide_eq_true_eq, Bool.or_eq_false_iff, Bool.and_eq_false_iff, decide_eq_false_iff_not, beq_iff_eq, beq_eq_false_iff_ne, ne_eq, Decidable.not_not] at hc56)
   ·
    have hst : (stepP m mach t o) = (beginP (kdOf m o.cl.it) t o.cl).1 := by unfold stepP; rw [if_neg hc21, if_pos hc56]
    refine W.seq (W.region ?_)
    refine RL.q (Yld.ldW 104 Tryz.underlying29 sz29 rfl rfl rfl rfl) rfl ?_
    refine RL.q (Yld.ldW 106 Tryz.underlying59 sz59 rfl rfl rfl rfl) rfl ?_
    refine RL.q (Yld.fieldAddr fo40_4 rfl) rfl ?_
    refine RL.q (Yld.ldA 107 Tryz.underlying38 sz38 rfl rfl rfl rfl rfl) rfl ?_
    refine RL.e (Eff.call ent63 [1, 6, 7, 8, 9] [1, 6, 7, 8, 9] (.cons rfl (.cons rfl (.cons rfl .nil))) (rbegin_ct m H1 hM y mach hy t hyt o.cl (by omega)) rfl rfl rfl rfl (by rintro _ _ ⟨_, _, _, _, _, rfl⟩; rfl)) rfl ?_
    rintro _ _ ⟨_, ⟨y2, rfl, hy2, hys2, rfl⟩, rfl⟩
    refine RL.q (Yld.move rfl) rfl ?_
    refine RL.q (Yld.extract rfl rfl) rfl ?_
    refine RL.q (Yld.extract rfl rfl) rfl ?_
    refine RL.e (Eff.alloc 115 zc59) rfl ?_
    rintro _ _ ⟨b15, rfl, rfl⟩
    refine RL.e0 (Eff.storeS (c := 115) _ sz59 rfl rfl rfl rfl rfl rfl rfl (by (try simp only [putAt, List.take, List.drop, List.nil_append, List.cons_append, List.append_nil, List.length_cons, List.length_nil, Nat.add_zero, Nat.zero_add, Nat.reduceAdd]); rfl)) ?_
    rintro _ _ rfl
    refine RL.q (Yld.assign rfl) rfl (RL.nil (N.next ?_))
    refine W.keep (.of [1, 7, 8, 15, 16] rfl) (.of [0, 1, 2, 3, 4, 5, 6, 7, 8, 9, 104, 106, 107, 108, 115] rfl) ?_
    refine W.seq ?_
    refine W.draw (.q 0 (.q 1 (.q 2 (.q 3 (.q 5 (.one 4 (.q 6 (.one 7 (.q 8 .done))))))))) (.of [0, 6, 7, 8, 9, 104, 106, 107, 115] rfl) mix (by kernel_rfl) (by kernel_rfl) ?_
    refine DL.q rfl (Yld.ldW 115 Tryz.underlying59 sz59 rfl rfl rfl rfl) rfl ?_
    refine DL.q rfl (Yld.move rfl) rfl ?_
    refine DL.q rfl (Yld.fieldAddr fo40_4 rfl) rfl ?_
    refine DL.q rfl (Yld.ldA 107 Tryz.underlying38 sz38 rfl rfl rfl rfl rfl) rfl ?_
    refine DL.q rfl (Yld.move rfl) rfl ?_
    refine DL.one rfl (Eff.call ent26 [1, 2, 3, 4, 5] [1, 2, 3, 4, 5] (.cons rfl (.cons rfl .nil)) (begin_ct m H1 hM mach b t x hx o.cl (by omega)) rfl rfl rfl rfl (by rintro _ _ ⟨_, _, _, rfl⟩; rfl)) rfl (by rintro _ _ ⟨_, ⟨x2, rfl, hx2, rfl⟩, rfl⟩; repeat (first | exact .nil | refine .cons rfl ?_)) ?_
    rintro _ _ ⟨_, ⟨x2, rfl, hx2, rfl⟩, rfl⟩
    refine DL.q rfl (Yld.bin rfl rfl BinV.eql) rfl ?_
    refine DL.one0 rfl (Eff.storeS (c := 108) _ sz59 rfl rfl rfl rfl rfl rfl rfl (by (try simp only [putAt, List.take, List.drop, List.nil_append, List.cons_append, List.append_nil, List.length_cons, List.length_nil, Nat.add_zero, Nat.zero_add, Nat.reduceAdd]); rfl)) (by rintro _ _ rfl; repeat (first | exact .nil | refine .cons rfl ?_)) ?_
    rintro _ _ rfl
    refine DL.q rfl (Yld.assign rfl) rfl ?_
    refine DL.done ?_
    refine N.next ?_
    refine W.keep (.of [8, 9] rfl) (.of [0, 1, 2, 3, 4, 5, 6, 7, 8, 9, 104, 106, 107, 108, 115] rfl) ?_
    refine W.ret ?_
    refine N.block_ret ?_
    refine N.then_ret ?_
    exact N.retBy [1, 2, 3, 4, 5, 6, 7, 8, 9] (.cons (by first | exact .cell (c := 108) rfl rfl (fun w hs => run_loadVarA Tryz.underlying59 rfl sz59 rfl (fun j u hj => by rw [Nat.zero_add, PH.sub.cell hs (by first | exact single_self _ _ | exact pset_self _ _ _ | assumption)]; exact hj))) (.cons (.tmp rfl) .nil)) rfl rfl rfl rfl ⟨x2, y2, _, rfl, by simp, by rw [hst]; exact hx2, hy2, by rw [hst]; exact hys2, rfl⟩
   ·
    refine W.seq (W.region ?_)
    refine RL.q (Yld.bin rfl rfl BinV.eql) rfl ?_
    refine RL.q (Yld.assign rfl) rfl (RL.nil (N.next ?_))
    first | refine W.condD rfl (fun hc73 => ?_) (fun hc73 => ?_) | (refine W.cond rfl (fun hc73 => ?_) (fun hc73 => ?_) <;> try simp only [Bool.or_eq_true, Bool.and_eq_true, Bool.not_eq_true', Bool.not_eq_false', decide_eq_true_eq, Bool.or_eq_false_iff, Bool.and_eq_false_iff, decide_eq_false_iff_not, beq_iff_eq, beq_eq_false_iff_ne, ne_eq, Decidable.not_not] at hc73)
    ·
     have hst : (stepP m mach t o) = tickP (kdOf m) t := by unfold stepP; rw [if_neg hc21, if_neg hc56, if_pos hc73]
     refine W.seq (W.region ?_)
     refine RL.q (Yld.ldW 104 Tryz.underlying29 sz29 rfl rfl rfl rfl) rfl ?_
     refine RL.q (Yld.ldW 106 Tryz.underlying59 sz59 rfl rfl rfl rfl) rfl ?_
     refine RL.e (Eff.call ent64 [1, 6, 7, 8, 9] [1, 6, 7, 8, 9, 170] (.cons rfl (.cons rfl .nil)) (rtick_ct m H1 hM y mach hy t hyt (by omega)) rfl rfl rfl rfl (by rintro _ _ ⟨_, _, _, _, _, rfl⟩; rfl)) rfl ?_
     rintro _ _ ⟨_, ⟨y2, rfl, hy2, hys2, rfl⟩, rfl⟩
     refine RL.q (Yld.move rfl) rfl ?_
     refine RL.q (Yld.extract rfl rfl) rfl ?_
     refine RL.q (Yld.extract rfl rfl) rfl ?_
     refine RL.e (Eff.alloc 117 zc59) rfl ?_
     rintro _ _ ⟨b17, rfl, rfl⟩
     refine RL.e0 (Eff.storeS (c := 117) _ sz59 rfl rfl rfl rfl rfl rfl rfl (by (try simp only [putAt, List.take, List.drop, List.nil_append, List.cons_append, List.append_nil, List.length_cons, List.length_nil, Nat.add_zero, Nat.zero_add, Nat.reduceAdd]); rfl)) ?_
     rintro _ _ rfl
     refine RL.q (Yld.assign rfl) rfl (RL.nil (N.next ?_))
     refine W.keep (.of [1, 8, 17, 18] rfl) (.of [0, 1, 2, 3, 4, 5, 6, 7, 8, 9, 104, 106, 107, 108, 117, 170] rfl) ?_
     refine W.seq ?_
     refine W.draw (.q 0 (.q 1 (.q 3 (.one 2 (.one 4 (.one 5 (.q 6 .done))))))) (.of [0, 6, 7, 8, 9, 104, 106, 107, 117] rfl) mix (by kernel_rfl) (by kernel_rfl) ?_
     refine DL.q rfl (Yld.ldW 117 Tryz.underlying59 sz59 rfl rfl rfl rfl) rfl ?_
     refine DL.q rfl (Yld.move rfl) rfl ?_
     refine DL.q rfl (Yld.move rfl) rfl ?_
     refine DL.one rfl (Eff.call ent23 [1, 2, 3, 4, 5] [1, 2, 3, 4, 5, 171] (.cons rfl .nil) (tick_ct m H1 hM mach b t x hx) rfl rfl rfl rfl (by rintro _ _ ⟨_, _, _, rfl⟩; rfl)) rfl (by rintro _ _ ⟨_, ⟨x2, rfl, hx2, rfl⟩, rfl⟩; repeat (first | exact .nil | refine .cons rfl ?_)) ?_
     rintro _ _ ⟨_, ⟨x2, rfl, hx2, rfl⟩, rfl⟩
     refine DL.one rfl (Eff.call ent27 [171, 170] [171, 170] (.cons rfl (.cons rfl .nil)) (sameC_ct t.cs y.cl _ _ _ _ _ _ _ _ rfl rfl hx.oc.sl hy.c) rfl rfl rfl rfl (by rintro _ _ ⟨_, rfl⟩; rfl)) rfl (by rintro _ _ ⟨_, ⟨rfl, rfl⟩, rfl⟩; repeat (first | exact .nil | refine .cons rfl ?_)) ?_
     rintro _ _ ⟨_, ⟨rfl, rfl⟩, rfl⟩
     refine DL.one0 rfl (Eff.storeS (c := 108) _ sz59 rfl rfl rfl rfl rfl rfl rfl (by (try simp only [putAt, List.take, List.drop, List.nil_append, List.cons_append, List.append_nil, List.length_cons, List.length_nil, Nat.add_zero, Nat.zero_add, Nat.reduceAdd]); rfl)) (by rintro _ _ rfl; repeat (first | exact .nil | refine .cons rfl ?_)) ?_
     rintro _ _ rfl
     refine DL.q rfl (Yld.assign rfl) rfl ?_
     refine DL.done ?_
     refine N.next ?_
     refine W.keep (.of [8, 9] rfl) (.of [0, 1, 2, 3, 4, 5, 6, 7, 8, 9, 104, 106, 107, 108, 117, 170, 171] rfl) ?_
     refine W.ret ?_
     refine N.block_ret ?_
     refine N.then_ret ?_
     exact N.retBy [1, 2, 3, 4, 5, 6, 7, 8, 9] (.cons (by first | exact .cell (c := 108) rfl rfl (fun w hs => run_loadVarA Tryz.underlying59 rfl sz59 rfl (fun j u hj => by rw [Nat.zero_add, PH.sub.cell hs (by first | exact single_self _ _ | exact pset_self _ _ _ | assumption)]; exact hj))) (.cons (.tmp rfl) .nil)) rfl rfl rfl rfl ⟨x2, y2, _, rfl, by simp [hyt.cl], by rw [hst]; exact hx2, hy2, by rw [hst]; exact hys2, rfl⟩
    ·
     refine W.seq (W.region ?_)
     refine RL.q (Yld.bin rfl rfl BinV.eql) rfl ?_
     refine RL.q (Yld.assign rfl) rfl (RL.nil (N.next ?_))
     refine W.keep (.of [1, 6, 8, 86] rfl) (.of [0, 1, 2, 3, 4, 5, 6, 7, 8, 9, 104, 106, 107, 108] rfl) ?_
     first | refine W.condD rfl (fun hc86 => ?_) (fun hc86 => ?_) | (refine W.cond rfl (fun hc86 => ?_) (fun hc86 => ?_) <;> try simp only [Bool.or_eq_true, Bool.and_eq_true, Bool.not_eq_true', Bool.not_eq_false', decide_eq_true_eq, Bool.or_eq_false_iff, Bool.and_eq_false_iff, decide_eq_false_iff_not, beq_iff_eq, beq_eq_false_iff_ne, ne_eq, Decidable.not_not] at hc86)
     ·
      have hst : (stepP m mach t o) = { t with cs := [] } := by unfold stepP; rw [if_neg hc21, if_neg hc56, if_neg hc73, if_pos hc86]
      refine W.seq (W.region ?_)
      refine RL.q (Yld.move rfl) rfl ?_
      refine RL.e (Eff.call ent28 [1, 2, 3, 4, 5] [1, 2, 3, 4, 5] (.cons rfl .nil) (forget_ct m H1 hM mach b t x hx) rfl rfl rfl rfl (by rintro _ _ ⟨_, _, _, rfl⟩; rfl)) rfl ?_
      rintro _ _ ⟨_, ⟨x2, rfl, hx2, rfl⟩, rfl⟩
      refine RL.nil (N.next ?_)
      refine W.keep (.of [6, 8] rfl) (.of [0, 1, 2, 3, 4, 5, 6, 7, 8, 9, 104, 106, 107, 108] rfl) ?_
      refine W.region ?_
      refine RL.q (Yld.fieldAddr fo59_5 rfl) rfl ?_
      refine RL.e0 (Eff.storeS (c := 106) _ sz57 rfl rfl rfl rfl rfl rfl rfl (by (try simp only [putAt, List.take, List.drop, List.nil_append, List.cons_append, List.append_nil, List.length_cons, List.length_nil, Nat.add_zero, Nat.zero_add, Nat.reduceAdd]); rfl)) ?_
      rintro _ _ rfl
      refine RL.nil ?_
      refine N.block_normal ?_
      refine N.next ?_
      refine W.seq (W.region ?_)
      refine RL.q (Yld.ldW 106 Tryz.underlying59 sz59 rfl rfl rfl rfl) rfl ?_
      refine RL.e0 (Eff.storeS (c := 108) _ sz59 rfl rfl rfl rfl rfl rfl rfl (by (try simp only [putAt, List.take, List.drop, List.nil_append, List.cons_append, List.append_nil, List.length_cons, List.length_nil, Nat.add_zero, Nat.zero_add, Nat.reduceAdd]); rfl)) ?_
      rintro _ _ rfl
      refine RL.q (Yld.assign rfl) rfl (RL.nil (N.next ?_))
      refine W.ret ?_
      exact N.retBy [1, 2, 3, 4, 5, 6, 7, 8, 9] (.cons (by first | exact .cell (c := 108) rfl rfl (fun w hs => run_loadVarA Tryz.underlying59 rfl sz59 rfl (fun j u hj => by rw [Nat.zero_add, PH.sub.cell hs (by first | exact single_self _ _ | exact pset_self _ _ _ | assumption)]; exact hj))) (.cons (.tmp rfl) .nil)) rfl rfl rfl rfl ⟨x2, { y.setC none 0 [] emp with HC := y.HC }, _, rfl, rfl, by rw [hst]; exact hx2, ⟨hy.u, hy.s, hy.v, (Own.nil 38 4).sl.mono (fun _ _ h => nomatch h)⟩, by rw [hst]; exact ⟨hyt.us, hyt.gn, hyt.st, hyt.va, rfl⟩, rfl⟩
     ·
      have hst : (stepP m mach t o) = t := by unfold stepP; rw [if_neg hc21, if_neg hc56, if_neg hc73, if_neg hc86]
      refine W.skip ?_
      refine N.block_normal ?_
      refine N.next ?_
      refine W.seq (W.region ?_)
      refine RL.q (Yld.ldW 106 Tryz.underlying59 sz59 rfl rfl rfl rfl) rfl ?_
      refine RL.e0 (Eff.storeS (c := 108) _ sz59 rfl rfl rfl rfl rfl rfl rfl (by (try simp only [putAt, List.take, List.drop, List.nil_append, List.cons_append, List.append_nil, List.length_cons, List.length_nil, Nat.add_zero, Nat.zero_add, Nat.reduceAdd]); rfl)) ?_
      rintro _ _ rfl
      refine RL.q (Yld.assign rfl) rfl (RL.nil (N.next ?_))
      refine W.keep (.of [8, 9] rfl) (.of [0, 1, 2, 3, 4, 5, 6, 7, 8, 9, 104, 106, 107, 108] rfl) ?_
      refine W.ret ?_
      exact N.retBy [1, 2, 3, 4, 5, 6, 7, 8, 9] (.cons (by first | exact .cell (c := 108) rfl rfl (fun w hs => run_loadVarA Tryz.underlying59 rfl sz59 rfl (fun j u hj => by rw [Nat.zero_add, PH.sub.cell hs (by first | exact single_self _ _ | exact pset_self _ _ _ | assumption)]; exact hj))) (.cons (.tmp rfl) .nil)) rfl rfl rfl rfl ⟨x, y, _, rfl, rfl, by rw [hst]; exact hx, hy, by rw [hst]; exact hyt, rfl⟩
end Go.Proofs.YtboapdcmaeojgaaGreatDoor
