/- The reference: goals out of texts. Written by program (walk2.py). -/
import Derived.Test.YtdjmdfnhnlijiaaGreatDoorM11
import Derived.Test.YtdjmdfnhnlijiaaGreatDoorR4
namespace Go.Proofs.YtdjmdfnhnlijiaaGreatDoor
open SL Cfg Memb
set_option linter.unusedVariables false
set_option linter.unusedSimpArgs false
theorem ent89 : Ent Tryz.prog 89 := ⟨_, _, Tryz.func89, by kernel_rfl, rfl⟩
theorem ent90 : Ent Tryz.prog 90 := ⟨_, _, Tryz.func90, by kernel_rfl, rfl⟩
theorem ent55 : Ent Tryz.prog 55 := ⟨_, _, Tryz.func55, by kernel_rfl, rfl⟩
theorem ent56 : Ent Tryz.prog 56 := ⟨_, _, Tryz.func56, by kernel_rfl, rfl⟩
theorem ent57 : Ent Tryz.prog 57 := ⟨_, _, Tryz.func57, by kernel_rfl, rfl⟩
set_option maxRecDepth 100000 in
set_option maxHeartbeats 3200000 in
theorem rset40_ct (x : Rd) (H1 : PH) (hx : x.In H1) (most : Nat) (hm : x.l.length ≤ most) (hmb : most ≤ 400000) : Ct Tryz.prog 55 [.agg [.slice x.p x.l.length x.c, .int .i64 x.e].toArray, .int .i64 (most : Nat)] [H1] (fun v Hs => ∃ (w : Rd) (l : List Int) (H' : PH) (p' : Option Addr) (c' : Nat), v = .tuple #[.agg [.slice w.p w.l.length w.c, .int .i64 w.e].toArray, .slice p' l.length c'] ∧ w.In H1 ∧ RSet x.s w.s l ∧ l.length ≤ 400000 ∧ w.l.length ≤ x.l.length ∧ Sl H' p' c' 1 (iz l) ∧ Hs = [H1, H']) := by
  refine Ct.body Tryz.func55 rfl Tryz.ntmps55 rfl ?_
  intro E F
  have hbt : Byt x.s.1 := hx.byt
  have hmI : (x.s.1.length : Int) ≤ (most : Nat) := by show ((x.l.length : Nat) : Int) ≤ _; omega
  refine W.seq ?_
  refine W.imp (Imp.empty _ 90) ?_
  refine W.region ?_
  refine RL.e (Eff.box 102 _ rfl rfl) rfl ?_
  rintro _ _ ⟨b2, rfl, rfl⟩
  refine RL.e (Eff.alloc 104 zc92) rfl ?_
  rintro _ _ ⟨b4, rfl, rfl⟩
  refine RL.q (Yld.assign rfl) rfl ?_
  refine RL.nil ?_
  refine N.next ?_
  refine W.seq ?_
  refine W.region ?_
  refine RL.q (Yld.loadW (c := 102) Tryz.underlying92 rfl sz92 rfl rfl (by first | exact single_self _ _ | exact pset_self _ _ _ | assumption) rfl) rfl ?_
  refine RL.q (Yld.move rfl) rfl ?_
  refine RL.e (Eff.call ent89 [1] [1] (.cons rfl (.cons rfl .nil)) (rgetC_ct x H1 hx (most : Nat) (by omega)) rfl rfl rfl rfl (by rintro _ _ ⟨_, _, _, _, _, rfl⟩; rfl)) rfl ?_
  rintro _ _ ⟨_, ⟨y, hy, hys, rfl, rfl⟩, rfl⟩
  obtain ⟨cv, hcv⟩ : ∃ cv, (rdC x.s (most : Nat)).1 = cv := ⟨_, rfl⟩
  have hcr := rdC_range (s := x.s) (most := (most : Nat)) hbt (by omega)
  have hcl := rdC_le (s := x.s) (most := (most : Nat)) (by omega)
  rw [hcv] at hcr hcl ⊢
  obtain ⟨n, hn⟩ : ∃ n, n = (rdC x.s (most : Nat)).1.toNat := ⟨_, rfl⟩
  have hnc : n = cv.toNat := by rw [hn, hcv]
  refine RL.q (Yld.move rfl) rfl ?_
  refine RL.q (Yld.extract rfl rfl) rfl ?_
  refine RL.q (Yld.extract rfl rfl) rfl ?_
  refine RL.e0 (Eff.storeS (c := 102) _ sz92 rfl rfl rfl rfl rfl rfl rfl (by (try simp only [putAt, List.take, List.drop, List.nil_append, List.cons_append, List.append_nil, List.length_cons, List.length_nil, Nat.add_zero, Nat.zero_add, Nat.reduceAdd]); rfl)) ?_
  rintro _ _ rfl
  refine RL.q (Yld.assign rfl) rfl ?_
  refine RL.nil ?_
  refine N.next ?_
  refine W.keep (.cons (k := 2) rfl (.cons (k := 4) rfl (.cons (k := 6) rfl .nil))) (.cons (k := 0) rfl (.cons (k := 1) rfl (.cons (k := 90) rfl (.cons (k := 102) rfl (.cons (k := 104) rfl .nil))))) ?_
  refine W.seq ?_
  refine W.region ?_
  refine RL.e (Eff.buildSlice 117 Tryz.underlying22 sz3 zc3 rfl rfl .nil rfl) rfl ?_
  rintro _ _ ⟨b17, rfl, rfl⟩
  refine RL.q (Yld.assign rfl) rfl ?_
  refine RL.nil ?_
  refine N.next ?_
  refine W.seq ?_
  refine W.seq ?_
  refine W.region ?_
  refine RL.q (Yld.assign rfl) rfl ?_
  refine RL.nil ?_
  refine N.next ?_
  refine W.block ?_
  refine W.loopK (ι := DZ) (fun z => (z.k ≤ n ∧ z.x.In H1 ∧ z.x.s = (rdZs z.k y.s).2 ∧ z.l = (rdZs z.k y.s).1 ∧ Own z.H z.p z.c 3 1 (iz z.l) ∧ z.l.length = z.k ∧ z.l.Pairwise (· < ·) ∧ ∀ a ∈ z.l, 1 ≤ a)) (fun z => [(7, .slice z.p z.l.length z.c), (8, .int .i64 (z.k : Nat))]) (fun z => [(102, single b2 (.cells [.slice z.x.p z.x.l.length z.x.c, .int .i64 z.x.e].toArray 92 (0, 0))), (117, z.H)]) (fun z => n - z.k) (.cons (k := 2) rfl (.cons (k := 4) rfl (.cons (k := 6) rfl .nil))) (.cons (k := 0) rfl (.cons (k := 1) rfl (.cons (k := 90) rfl (.cons (k := 104) rfl .nil)))) ⟨0, y, some ⟨b17, 0, none⟩, 0, [], single b17 (.cells [].toArray 3 (0, 0))⟩ ?_ ?_ ?_ ?_
  · exact ⟨Nat.zero_le _, hy, rfl, rfl, iz_none rfl, rfl, .nil, fun a h => by cases h⟩
  · exact (.as rfl (by first | rfl | (simp; done) | (congr 1; simp; done) | (congr 1; omega)) (.as rfl (by first | rfl | (simp; done) | (congr 1; simp; done) | (congr 1; omega)) .nil))
  · exact (.cons rfl (.cons rfl .nil))
  rintro z ⟨hzk, hzI, hzs, hzl, hO, hzn, hzp, hz1⟩
  refine W.keep (.cons (k := 7) rfl (.cons (k := 8) rfl (.cons (k := 2) rfl (.cons (k := 4) rfl (.cons (k := 6) rfl .nil))))) (.cons (k := 102) rfl (.cons (k := 117) rfl (.cons (k := 0) rfl (.cons (k := 1) rfl (.cons (k := 90) rfl (.cons (k := 104) rfl .nil)))))) ?_
  have hshort : z.x.l.length ≤ x.l.length := by
    have e5 := rdZs_short z.k y.s
    rw [← hzs, hys] at e5
    exact Nat.le_trans e5 (rdC_short _ _)
  refine W.seq ?_
  refine W.seq ?_
  refine W.region ?_
  refine RL.q (Yld.move rfl) rfl ?_
  refine RL.q (Yld.move rfl) rfl ?_
  refine RL.q (Yld.bin rfl rfl BinV.lss) rfl ?_
  refine RL.q (Yld.move rfl) rfl ?_
  refine' RL.and (t := 21) (d := 25) 4 rfl (.cons (k := 2) rfl (.cons (k := 4) rfl (.cons (k := 6) rfl (.cons (k := 7) rfl (.cons (k := 8) rfl (.cons (k := 18) rfl (.cons (k := 19) rfl (.cons (k := 20) rfl .nil)))))))) (.cons (k := 0) rfl (.cons (k := 1) rfl (.cons (k := 90) rfl (.cons (k := 102) rfl (.cons (k := 104) rfl (.cons (k := 117) rfl .nil)))))) ?_ ?_ ?_
  rotate_left 1
  ·
    intro hg21
    refine RL.gq rfl rfl (Yld.fieldAddr fo92_1 rfl) rfl ?_
    refine RL.gq rfl rfl (Yld.load1 (c := 102) Tryz.underlying45 rfl rfl rfl (by first | exact single_self _ _ | exact pset_self _ _ _ | assumption) rfl) rfl ?_
    refine RL.gq rfl rfl (Yld.bin rfl rfl BinV.eql) rfl ?_
    refine RL.q (by first | exact Yld.pickT rfl rfl | exact Yld.pickF rfl rfl) rfl ?_
    exact RL.nil (N.meet (.cons rfl (.cons rfl (.cons rfl (.cons rfl (.cons rfl (.cons rfl (.cons rfl (.cons rfl (.cons rfl .nil))))))))) (.cons rfl (.cons rfl (.cons rfl (.cons rfl (.cons rfl (.cons rfl .nil)))))))
  ·
    intro hg21
    refine RL.gskip rfl rfl rfl rfl ?_
    refine RL.gskip rfl rfl rfl rfl ?_
    refine RL.gskip rfl rfl rfl rfl ?_
    refine RL.q (by first | exact Yld.pickT rfl rfl | exact Yld.pickF rfl rfl) rfl ?_
    exact RL.nil (N.meet (.cons rfl (.cons rfl (.cons rfl (.cons rfl (.cons rfl (.cons rfl (.cons rfl (.cons rfl (.cons rfl .nil))))))))) (.cons rfl (.cons rfl (.cons rfl (.cons rfl (.cons rfl (.cons rfl .nil)))))))
  refine RL.nil ?_
  refine N.next ?_
  refine W.cond rfl (fun hc25 => ?_) (fun hc25 => ?_)
  ·
    have hk : z.k < n ∧ z.x.e = 0 := by simp at hc25; omega
    refine W.skip ?_
    refine N.next ?_
    refine W.keep (.cons (k := 2) rfl (.cons (k := 4) rfl (.cons (k := 6) rfl (.cons (k := 7) rfl (.cons (k := 8) rfl .nil))))) (.cons (k := 0) rfl (.cons (k := 1) rfl (.cons (k := 90) rfl (.cons (k := 102) rfl (.cons (k := 104) rfl (.cons (k := 117) rfl .nil)))))) ?_
    refine W.seq ?_
    refine W.block ?_
    refine W.seq ?_
    refine W.region ?_
    refine RL.q (Yld.loadW (c := 102) Tryz.underlying92 rfl sz92 rfl rfl (by first | exact single_self _ _ | exact pset_self _ _ _ | assumption) rfl) rfl ?_
    refine RL.e (Eff.call ent90 [1] [1] (.cons rfl .nil) (rgetZ_ct z.x H1 hzI) rfl rfl rfl rfl (by rintro _ _ ⟨_, _, _, _, _, rfl⟩; rfl)) rfl ?_
    rintro _ _ ⟨_, ⟨w, hw, hws, rfl, rfl⟩, rfl⟩
    obtain ⟨xv, hxv⟩ : ∃ xv, (rdZ z.x.s).1 = xv := ⟨_, rfl⟩
    rw [hxv]
    have hxz : (rdZ (rdZs z.k y.s).2).1 = xv := by rw [← hzs]; exact hxv
    refine RL.q (Yld.move rfl) rfl ?_
    refine RL.q (Yld.extract rfl rfl) rfl ?_
    refine RL.q (Yld.extract rfl rfl) rfl ?_
    refine RL.e (Eff.alloc 109 zc92) rfl ?_
    rintro _ _ ⟨b9, rfl, rfl⟩
    refine RL.e0 (Eff.storeS (c := 109) _ sz92 rfl rfl rfl rfl rfl rfl rfl (by (try simp only [putAt, List.take, List.drop, List.nil_append, List.cons_append, List.append_nil, List.length_cons, List.length_nil, Nat.add_zero, Nat.zero_add, Nat.reduceAdd]); rfl)) ?_
    rintro _ _ rfl
    refine RL.q (Yld.assign rfl) rfl ?_
    refine RL.nil ?_
    refine N.next ?_
    refine W.keep (.cons (k := 2) rfl (.cons (k := 4) rfl (.cons (k := 6) rfl (.cons (k := 7) rfl (.cons (k := 8) rfl (.cons (k := 9) rfl (.cons (k := 10) rfl .nil))))))) (.cons (k := 0) rfl (.cons (k := 1) rfl (.cons (k := 90) rfl (.cons (k := 102) rfl (.cons (k := 104) rfl (.cons (k := 109) rfl (.cons (k := 117) rfl .nil))))))) ?_
    refine W.seq ?_
    refine W.region ?_
    refine RL.q (Yld.loadW (c := 109) Tryz.underlying92 rfl sz92 rfl rfl (by first | exact single_self _ _ | exact pset_self _ _ _ | assumption) rfl) rfl ?_
    refine RL.e0 (Eff.storeS (c := 102) _ sz92 rfl rfl rfl rfl rfl rfl rfl (by (try simp only [putAt, List.take, List.drop, List.nil_append, List.cons_append, List.append_nil, List.length_cons, List.length_nil, Nat.add_zero, Nat.zero_add, Nat.reduceAdd]); rfl)) ?_
    rintro _ _ rfl
    refine RL.nil ?_
    refine N.next ?_
    refine W.seq ?_
    refine W.seq ?_
    refine W.region ?_
    refine RL.q (Yld.move rfl) rfl ?_
    refine RL.q (Yld.bin rfl rfl BinV.lss) rfl ?_
    refine RL.q (Yld.move rfl) rfl ?_
    refine' RL.or (t := 36) (d := 48) 12 rfl (.cons (k := 2) rfl (.cons (k := 4) rfl (.cons (k := 6) rfl (.cons (k := 7) rfl (.cons (k := 8) rfl (.cons (k := 9) rfl (.cons (k := 10) rfl (.cons (k := 33) rfl (.cons (k := 34) rfl (.cons (k := 35) rfl .nil)))))))))) (.cons (k := 0) rfl (.cons (k := 1) rfl (.cons (k := 90) rfl (.cons (k := 102) rfl (.cons (k := 104) rfl (.cons (k := 109) rfl (.cons (k := 117) rfl .nil))))))) ?_ ?_ ?_
    rotate_left 1
    ·
      intro hg36
      refine RL.gq rfl rfl (Yld.move rfl) rfl ?_
      refine RL.gq rfl rfl (Yld.bin rfl rfl BinV.gtr) rfl ?_
      refine RL.gq rfl rfl (Yld.move rfl) rfl ?_
      refine' RL.and (t := 39) (d := 47) 8 rfl (.cons (k := 2) rfl (.cons (k := 4) rfl (.cons (k := 6) rfl (.cons (k := 7) rfl (.cons (k := 8) rfl (.cons (k := 9) rfl (.cons (k := 10) rfl (.cons (k := 33) rfl (.cons (k := 34) rfl (.cons (k := 35) rfl (.cons (k := 36) rfl (.cons (k := 37) rfl (.cons (k := 38) rfl .nil))))))))))))) (.cons (k := 0) rfl (.cons (k := 1) rfl (.cons (k := 90) rfl (.cons (k := 102) rfl (.cons (k := 104) rfl (.cons (k := 109) rfl (.cons (k := 117) rfl .nil))))))) ?_ ?_ ?_
      rotate_left 1
      ·
        intro hg39
        have hi0 : 0 < z.k := by have h := hg39; simp at h; omega
        have hly : (iz z.l)[((z.k : Int) - 1).toNat]? = some [.int .i64 (z.l.getD (z.k - 1) 0)] := by rw [show ((z.k : Int) - 1).toNat = z.k - 1 by omega]; exact iz_getD (by omega)
        refine RL.gq rfl rfl (Yld.move rfl) rfl ?_
        refine RL.gq rfl rfl (Yld.move rfl) rfl ?_
        refine RL.gq rfl rfl (Yld.move rfl) rfl ?_
        refine RL.gq rfl rfl (Yld.bin rfl rfl (by first | exact BinV.sub (by omega) (by omega) | exact BinV.subW)) rfl ?_
        refine RL.gq rfl rfl (Yld.indexRow Tryz.underlying22 sz3 rfl rfl (by first | assumption | exact Own.sl (by assumption)) (by first | rfl | omega | (simp; done) | (simp; omega)) (by omega) (by first | omega | (simp; done) | (simp; omega))) rfl ?_
        refine RL.gq rfl rfl (by first | exact (by first | exact Yld.loadRow1 (cl := 109) Tryz.underlying3 rfl rfl rfl (by first | assumption | exact Own.sl (by assumption)) (by assumption) | exact Yld.loadRow1 (cl := 1) Tryz.underlying3 rfl rfl rfl (by first | assumption | exact Own.sl (by assumption)) (by assumption) | exact Yld.loadRow1 (cl := 90) Tryz.underlying3 rfl rfl rfl (by first | assumption | exact Own.sl (by assumption)) (by assumption) | exact Yld.loadRow1 (cl := 104) Tryz.underlying3 rfl rfl rfl (by first | assumption | exact Own.sl (by assumption)) (by assumption) | exact Yld.loadRow1 (cl := 102) Tryz.underlying3 rfl rfl rfl (by first | assumption | exact Own.sl (by assumption)) (by assumption) | exact Yld.loadRow1 (cl := 117) Tryz.underlying3 rfl rfl rfl (by first | assumption | exact Own.sl (by assumption)) (by assumption)) | exact (by first | exact Yld.loadRowF (cl := 109) (j := 0) Tryz.underlying3 rfl rfl rfl (by first | assumption | exact Own.sl (by assumption)) (by assumption) rfl | exact Yld.loadRowF (cl := 1) (j := 0) Tryz.underlying3 rfl rfl rfl (by first | assumption | exact Own.sl (by assumption)) (by assumption) rfl | exact Yld.loadRowF (cl := 90) (j := 0) Tryz.underlying3 rfl rfl rfl (by first | assumption | exact Own.sl (by assumption)) (by assumption) rfl | exact Yld.loadRowF (cl := 104) (j := 0) Tryz.underlying3 rfl rfl rfl (by first | assumption | exact Own.sl (by assumption)) (by assumption) rfl | exact Yld.loadRowF (cl := 102) (j := 0) Tryz.underlying3 rfl rfl rfl (by first | assumption | exact Own.sl (by assumption)) (by assumption) rfl | exact Yld.loadRowF (cl := 117) (j := 0) Tryz.underlying3 rfl rfl rfl (by first | assumption | exact Own.sl (by assumption)) (by assumption) rfl)) rfl ?_
        refine RL.gq rfl rfl (Yld.bin rfl rfl BinV.leq) rfl ?_
        refine RL.gq rfl rfl (by first | exact Yld.pickT rfl rfl | exact Yld.pickF rfl rfl) rfl ?_
        exact RL.nil (N.meet (.cons rfl (.cons rfl (.cons rfl (.cons rfl (.cons rfl (.cons rfl (.cons rfl (.cons rfl (.cons rfl (.cons rfl (.cons rfl (.cons rfl (.cons rfl (.cons rfl .nil)))))))))))))) (.cons rfl (.cons rfl (.cons rfl (.cons rfl (.cons rfl (.cons rfl (.cons rfl .nil))))))))
      ·
        intro hg39
        refine RL.gskip rfl rfl rfl rfl ?_
        refine RL.gskip rfl rfl rfl rfl ?_
        refine RL.gskip rfl rfl rfl rfl ?_
        refine RL.gskip rfl rfl rfl rfl ?_
        refine RL.gskip rfl rfl rfl rfl ?_
        refine RL.gskip rfl rfl rfl rfl ?_
        refine RL.gskip rfl rfl rfl rfl ?_
        refine RL.gq rfl rfl (by first | exact Yld.pickT rfl rfl | exact Yld.pickF rfl rfl) rfl ?_
        exact RL.nil (N.meet (.cons rfl (.cons rfl (.cons rfl (.cons rfl (.cons rfl (.cons rfl (.cons rfl (.cons rfl (.cons rfl (.cons rfl (.cons rfl (.cons rfl (.cons rfl (.cons rfl .nil)))))))))))))) (.cons rfl (.cons rfl (.cons rfl (.cons rfl (.cons rfl (.cons rfl (.cons rfl .nil))))))))
      refine RL.q (by first | exact Yld.pickT rfl rfl | exact Yld.pickF rfl rfl) rfl ?_
      exact RL.nil (N.meet (.cons rfl (.cons rfl (.cons rfl (.cons rfl (.cons rfl (.cons rfl (.cons rfl (.cons rfl (.cons rfl (.cons rfl (.cons rfl .nil))))))))))) (.cons rfl (.cons rfl (.cons rfl (.cons rfl (.cons rfl (.cons rfl (.cons rfl .nil))))))))
    ·
      intro hg36
      refine RL.gskip rfl rfl rfl rfl ?_
      refine RL.gskip rfl rfl rfl rfl ?_
      refine RL.gskip rfl rfl rfl rfl ?_
      refine RL.gskipU rfl rfl rfl ?_
      refine RL.gskipU rfl rfl rfl ?_
      refine RL.gskipU rfl rfl rfl ?_
      refine RL.gskipU rfl rfl rfl ?_
      refine RL.gskipU rfl rfl rfl ?_
      refine RL.gskipU rfl rfl rfl ?_
      refine RL.gskipU rfl rfl rfl ?_
      refine RL.gskip rfl rfl rfl rfl ?_
      refine RL.q (by first | exact Yld.pickT rfl rfl | exact Yld.pickF rfl rfl) rfl ?_
      exact RL.nil (N.meet (.cons rfl (.cons rfl (.cons rfl (.cons rfl (.cons rfl (.cons rfl (.cons rfl (.cons rfl (.cons rfl (.cons rfl (.cons rfl .nil))))))))))) (.cons rfl (.cons rfl (.cons rfl (.cons rfl (.cons rfl (.cons rfl (.cons rfl .nil))))))))
    refine RL.nil ?_
    refine N.next ?_
    refine W.keep (.cons (k := 2) rfl (.cons (k := 4) rfl (.cons (k := 6) rfl (.cons (k := 7) rfl (.cons (k := 8) rfl (.cons (k := 10) rfl (.cons (k := 48) rfl .nil))))))) (.cons (k := 0) rfl (.cons (k := 1) rfl (.cons (k := 90) rfl (.cons (k := 102) rfl (.cons (k := 104) rfl (.cons (k := 109) rfl (.cons (k := 117) rfl .nil))))))) ?_
    refine W.cond rfl (fun hc48 => ?_) (fun hc48 => ?_)
    ·
      have hbad : xv < 1 ∨ ∃ a, 0 < z.k ∧ (rdZs z.k y.s).1[z.k - 1]? = some a ∧ xv ≤ a := by
        simp only [Bool.or_eq_true, Bool.and_eq_true, decide_eq_true_eq] at hc48
        rcases hc48 with h | ⟨h1, h2⟩
        · exact .inl h
        · refine .inr ⟨z.l.getD (z.k - 1) 0, by omega, ?_, h2⟩
          rw [← hzl, List.getD_eq_getElem?_getD, List.getElem?_eq_getElem (show z.k - 1 < z.l.length by omega)]; rfl
      have hRS := rset_bad (s := x.s) (y := y.s) (e := 11) hmI hn hys hk.1 hxz hbad (by decide)
      refine W.seq ?_
      refine W.region ?_
      refine RL.q (Yld.buildP lay92 (.cons rfl rfl .nil) rfl) rfl ?_
      refine RL.e0 (Eff.storeS (c := 104) _ sz92 rfl rfl rfl rfl rfl rfl rfl (by (try simp only [putAt, List.take, List.drop, List.nil_append, List.cons_append, List.append_nil, List.length_cons, List.length_nil, Nat.add_zero, Nat.zero_add, Nat.reduceAdd]); rfl)) ?_
      rintro _ _ rfl
      refine RL.q (Yld.assign rfl) rfl ?_
      refine RL.nil ?_
      refine N.next ?_
      refine W.keep (.cons (k := 4) rfl (.cons (k := 5) rfl .nil)) (.cons (k := 0) rfl (.cons (k := 1) rfl (.cons (k := 90) rfl (.cons (k := 102) rfl (.cons (k := 104) rfl (.cons (k := 109) rfl (.cons (k := 117) rfl .nil))))))) ?_
      refine W.ret ?_
      refine N.then_ret ?_
      refine N.block_ret ?_
      refine N.then_ret ?_
      refine N.then_ret ?_
      refine N.block_ret ?_
      refine N.then_ret ?_
      exact N.retBy [1, 90] (.cons (by first | exact .cell (c := 104) rfl rfl (fun w hs => run_loadVarA Tryz.underlying92 rfl sz92 rfl (fun j u hj => by rw [Nat.zero_add, PH.sub.cell hs (by first | exact single_self _ _ | exact pset_self _ _ _ | assumption)]; exact hj))) (.cons (.tmp rfl) .nil)) rfl rfl rfl rfl ⟨⟨none, 0, [], 11⟩, [], emp, none, 0, rfl, ⟨⟨rfl, rfl⟩, .nil⟩, hRS, by simp, Nat.zero_le _, ⟨rfl, rfl⟩, rfl⟩
    ·
      have hsrt : (z.l ++ [xv]).Pairwise (· < ·) ∧ ∀ a ∈ z.l ++ [xv], 1 ≤ a := by
        simp only [Bool.or_eq_false_iff, Bool.and_eq_false_iff, decide_eq_false_iff_not] at hc48
        have h := step_sort (y := y.s) (i := z.k) (x := xv) (hzl ▸ hzp) (hzl ▸ hz1) hxz (by omega) (fun a h0 ha => by
          rcases hc48.2 with h | h
          · omega
          · rw [← hzl] at ha; rw [List.getD_eq_getElem?_getD, ha] at h; simp at h; omega)
        have e : (rdZs (z.k + 1) y.s).1 = z.l ++ [xv] := by show (rdZs z.k y.s).1 ++ [(rdZ (rdZs z.k y.s).2).1] = _; rw [hxz, hzl]
        rwa [e] at h
      refine W.skip ?_
      refine N.next ?_
      refine W.region ?_
      refine RL.q (Yld.move rfl) rfl ?_
      refine RL.q (Yld.move rfl) rfl ?_
      refine RL.e (Eff.buildSlice 152 Tryz.underlying22 sz3 zc3 rfl rfl (.cons rfl rfl .nil) rfl) rfl ?_
      rintro _ _ ⟨b52, rfl, rfl⟩
      refine RL.e (Eff.appendE (tc := 117) (sc := 152) (fun z : Int => [Value.int .i64 z]) Tryz.underlying22 el3 rfl rfl rfl rfl hO rfl (iz_single rfl) rfl (iz_one1 _) (by decide) (by simp; omega) (by simp [maxLen]; omega)) rfl ?_
      rintro _ _ ⟨Ha, pa, ca, rfl, hOa, rfl⟩
      refine RL.q (Yld.assign rfl) rfl ?_
      refine RL.nil ?_
      refine N.block_normal ?_
      refine N.next ?_
      refine W.keep (.cons (k := 2) rfl (.cons (k := 4) rfl (.cons (k := 6) rfl (.cons (k := 7) rfl (.cons (k := 8) rfl .nil))))) (.cons (k := 0) rfl (.cons (k := 1) rfl (.cons (k := 90) rfl (.cons (k := 102) rfl (.cons (k := 104) rfl (.cons (k := 109) rfl (.cons (k := 117) rfl (.cons (k := 152) rfl .nil)))))))) ?_
      refine W.region ?_
      refine RL.q (Yld.move rfl) rfl ?_
      refine RL.q (Yld.bin rfl rfl (by first | exact BinV.add (by omega) (by omega) | exact BinV.addW)) rfl ?_
      refine RL.q (Yld.assign rfl) rfl ?_
      refine RL.nil ?_
      exact N.famK ⟨z.k + 1, w, pa, ca, z.l ++ [xv], Ha⟩ ⟨⟨by dsimp only; omega, hw, by dsimp only; rw [hws, hzs]; rfl, by dsimp only; rw [hzl]; show _ = (rdZs z.k y.s).1 ++ [(rdZ (rdZs z.k y.s).2).1]; rw [hxz], hOa, by simp [hzn], hsrt.1, hsrt.2⟩, by dsimp only; omega⟩ (.as rfl (by first | rfl | (simp; done) | (congr 1; simp; done) | (congr 1; omega)) (.as rfl (by first | rfl | (simp; done) | (congr 1; simp; done) | (congr 1; omega)) .nil)) (.cons rfl (.cons rfl (.cons rfl .nil))) (.cons rfl (.cons rfl .nil)) (.cons rfl (.cons rfl (.cons rfl (.cons rfl .nil))))
  ·
    have hk : z.x.e = 0 → z.k = n := fun h => by simp [h] at hc25; omega
    refine W.exit ?_
    refine N.then_exit ?_
    refine N.then_exit ?_
    refine N.block_eq ?_
    refine N.next ?_
    refine W.keep (.cons (k := 2) rfl (.cons (k := 4) rfl (.cons (k := 7) rfl .nil))) (.cons (k := 0) rfl (.cons (k := 1) rfl (.cons (k := 90) rfl (.cons (k := 102) rfl (.cons (k := 104) rfl (.cons (k := 117) rfl .nil)))))) ?_
    refine W.seq ?_
    refine W.region ?_
    refine RL.q (Yld.loadW (c := 102) Tryz.underlying92 rfl sz92 rfl rfl (by first | exact single_self _ _ | exact pset_self _ _ _ | assumption) rfl) rfl ?_
    refine RL.q (Yld.move rfl) rfl ?_
    refine RL.e0 (Eff.storeS (c := 104) _ sz92 rfl rfl rfl rfl rfl rfl rfl (by (try simp only [putAt, List.take, List.drop, List.nil_append, List.cons_append, List.append_nil, List.length_cons, List.length_nil, Nat.add_zero, Nat.zero_add, Nat.reduceAdd]); rfl)) ?_
    rintro _ _ rfl
    refine RL.q (Yld.assign rfl) rfl ?_
    refine RL.nil ?_
    refine N.next ?_
    refine W.keep (.cons (k := 4) rfl (.cons (k := 5) rfl .nil)) (.cons (k := 0) rfl (.cons (k := 1) rfl (.cons (k := 90) rfl (.cons (k := 102) rfl (.cons (k := 104) rfl (.cons (k := 117) rfl .nil)))))) ?_
    refine W.ret ?_
    exact N.retBy [1, 117] (.cons (by first | exact .cell (c := 104) rfl rfl (fun w hs => run_loadVarA Tryz.underlying92 rfl sz92 rfl (fun j u hj => by rw [Nat.zero_add, PH.sub.cell hs (by first | exact single_self _ _ | exact pset_self _ _ _ | assumption)]; exact hj))) (.cons (.tmp rfl) .nil)) rfl rfl rfl rfl ⟨z.x, z.l, z.H, z.p, z.c, rfl, hzI, by
        by_cases e : z.x.e = 0
        · have hkn := hk e
          rw [hzs, hzl, hkn]
          rw [hzl, hkn] at hzp hz1
          refine rset_end hbt hmI hn hys ?_ hzp hz1
          rw [← hkn, ← hzs]; exact e
        · rw [hzs]; exact rset_err hmI hn hys hzk (by rw [← hzs]; exact e) _, by omega, hshort, hO.sl, rfl⟩

set_option maxRecDepth 100000 in
set_option maxHeartbeats 1600000 in
theorem rmvalid_ct (x : Cf) (H1 : PH) (hx : x.In H1) (hbo : x.o.length ≤ 400000) (hbn : x.n.length ≤ 400000) (hbl : x.l.length ≤ 400000) : Ct Tryz.prog 57 [.agg [.slice x.po x.o.length x.co, .slice x.pn x.n.length x.cn, .slice x.pl x.l.length x.cl].toArray] [H1] (fun v Hs => v = .bool (decide ((setL (x.o ++ x.n)).length = (x.o ++ x.n).length ∧ (minusL (x.o ++ x.n) x.l).length = 0)) ∧ Hs = [H1]) := by
  refine Ct.body Tryz.func57 rfl Tryz.ntmps57 rfl ?_
  intro E F
  obtain ⟨ho, hn, hl⟩ := hx
  have hsl := setL_len (x.o ++ x.n)
  rw [List.length_append] at hsl
  have hml := minus_len (l := x.o ++ x.n) (m := x.l)
  rw [List.length_append] at hml
  refine W.seq ?_
  refine W.region ?_
  refine RL.e (Eff.box 101 _ rfl rfl) rfl ?_
  rintro _ _ ⟨b1, rfl, rfl⟩
  refine RL.q (Yld.assign rfl) rfl ?_
  refine RL.nil ?_
  refine N.next ?_
  refine W.seq ?_
  refine W.draw (.q 1 (.q 2 (.q 4 (.q 5 (.one 0 (.one 3 (.one 6 (.q 7 .done)))))))) (.cons (k := 0) rfl (.cons (k := 1) rfl (.cons (k := 101) rfl .nil))) mix (by kernel_rfl) (by kernel_rfl) ?_
  refine DL.q rfl (Yld.fieldAddr fo31_0 rfl) rfl ?_
  refine DL.q rfl (Yld.load1 (c := 101) Tryz.underlying22 rfl rfl rfl (by first | exact single_self _ _ | exact pset_self _ _ _ | assumption) rfl) rfl ?_
  refine DL.q rfl (Yld.fieldAddr fo31_1 rfl) rfl ?_
  refine DL.q rfl (Yld.load1 (c := 101) Tryz.underlying22 rfl rfl rfl (by first | exact single_self _ _ | exact pset_self _ _ _ | assumption) rfl) rfl ?_
  refine DL.one rfl (Eff.buildSlice 104 Tryz.underlying22 sz3 zc3 rfl rfl .nil rfl) rfl (by rintro _ _ ⟨b4, rfl, rfl⟩; repeat (first | exact .nil | refine .cons rfl ?_)) ?_
  rintro _ _ ⟨b4, rfl, rfl⟩
  refine DL.one rfl (Eff.appendE (tc := 104) (sc := 1) (fun z : Int => [Value.int .i64 z]) Tryz.underlying22 el3 rfl rfl rfl rfl (iz_none rfl) rfl ho rfl (iz_one1 _) (by decide) (by first | (simp; done) | (simp; omega)) (by first | (simp [maxLen]; done) | (simp [maxLen]; omega))) rfl (by rintro _ _ ⟨Ha, pa, ca, rfl, hOa, rfl⟩; repeat (first | exact .nil | refine .cons rfl ?_)) ?_
  rintro _ _ ⟨Ha, pa, ca, rfl, hOa, rfl⟩
  refine DL.one rfl (Eff.appendE (tc := 104) (sc := 1) (fun z : Int => [Value.int .i64 z]) Tryz.underlying22 el3 rfl rfl rfl rfl hOa rfl hn rfl (iz_one1 _) (by decide) (by first | (simp; done) | (simp; omega)) (by first | (simp [maxLen]; done) | (simp [maxLen]; omega))) rfl (by rintro _ _ ⟨Hb, pb, cb, rfl, hOb, rfl⟩; repeat (first | exact .nil | refine .cons rfl ?_)) ?_
  rintro _ _ ⟨Hb, pb, cb, rfl, hOb, rfl⟩
  refine DL.q rfl (Yld.assign rfl) rfl ?_
  refine DL.done ?_
  refine N.next ?_
  refine W.keep (.cons (k := 1) rfl (.cons (k := 3) rfl .nil)) (.cons (k := 0) rfl (.cons (k := 1) rfl (.cons (k := 101) rfl (.cons (k := 104) rfl .nil)))) ?_
  refine W.seq ?_
  refine W.region ?_
  refine RL.q (Yld.move rfl) rfl ?_
  refine RL.e (Eff.call ent61 [104] [104, 130] (.cons rfl .nil) (rset_ct (x.o ++ x.n) _ _ _ hOb.sl (by simp; omega)) rfl rfl rfl rfl (by rintro _ _ ⟨_, _, _, _, _, rfl⟩; rfl)) rfl ?_
  rintro _ _ ⟨_, ⟨Hc, pc, cc, rfl, hOc, rfl⟩, rfl⟩
  refine RL.q (Yld.lenSl Tryz.underlying22 rfl) rfl ?_
  refine RL.q (Yld.move rfl) rfl ?_
  refine RL.q (Yld.lenSl Tryz.underlying22 rfl) rfl ?_
  refine RL.q (Yld.bin rfl rfl BinV.eql) rfl ?_
  refine RL.q (Yld.move rfl) rfl ?_
  refine' RL.and (t := 17) (d := 24) 7 rfl (.cons (k := 1) rfl (.cons (k := 3) rfl (.cons (k := 11) rfl (.cons (k := 12) rfl (.cons (k := 13) rfl (.cons (k := 14) rfl (.cons (k := 15) rfl (.cons (k := 16) rfl .nil)))))))) (.cons (k := 0) rfl (.cons (k := 1) rfl (.cons (k := 101) rfl (.cons (k := 104) rfl (.cons (k := 130) rfl .nil))))) ?_ ?_ ?_
  rotate_left 1
  ·
    intro hg17
    refine RL.gq rfl rfl (Yld.move rfl) rfl ?_
    refine RL.gq rfl rfl (Yld.fieldAddr fo31_2 rfl) rfl ?_
    refine RL.gq rfl rfl (Yld.load1 (c := 101) Tryz.underlying22 rfl rfl rfl (by first | exact single_self _ _ | exact pset_self _ _ _ | assumption) rfl) rfl ?_
    refine RL.ge rfl rfl (Eff.call ent64 [104, 1] [104, 1, 131] (.cons rfl (.cons rfl .nil)) (rminus_ct (x.o ++ x.n) _ _ _ hOb.sl x.l _ _ _ hl (by simp; omega)) rfl rfl rfl rfl (by rintro _ _ ⟨_, _, _, _, _, rfl⟩; rfl)) rfl ?_
    rintro _ _ ⟨_, ⟨Hd, pd, cd, rfl, hOd, rfl⟩, rfl⟩
    refine RL.gq rfl rfl (Yld.lenSl Tryz.underlying22 rfl) rfl ?_
    refine RL.gq rfl rfl (Yld.bin rfl rfl BinV.eql) rfl ?_
    refine RL.q (by first | exact Yld.pickT rfl rfl | exact Yld.pickF rfl rfl) rfl ?_
    exact RL.nil (N.meet (.cons rfl (.cons rfl (.cons rfl (.cons rfl (.cons rfl (.cons rfl (.cons rfl (.cons rfl (.cons rfl .nil))))))))) (.cons rfl (.cons rfl (.cons rfl (.cons rfl (.cons rfl .nil))))))
  ·
    intro hg17
    refine RL.gskip rfl rfl rfl rfl ?_
    refine RL.gskip rfl rfl rfl rfl ?_
    refine RL.gskip rfl rfl rfl rfl ?_
    refine RL.gskip rfl rfl rfl rfl ?_
    refine RL.gskip rfl rfl rfl rfl ?_
    refine RL.gskip rfl rfl rfl rfl ?_
    refine RL.q (by first | exact Yld.pickT rfl rfl | exact Yld.pickF rfl rfl) rfl ?_
    exact RL.nil (N.meet (.cons rfl (.cons rfl (.cons rfl (.cons rfl (.cons rfl (.cons rfl (.cons rfl (.cons rfl (.cons rfl .nil))))))))) (.cons rfl (.cons rfl (.cons rfl (.cons rfl (.cons rfl .nil))))))
  refine RL.q (Yld.assign rfl) rfl ?_
  refine RL.nil ?_
  refine N.next ?_
  refine W.keep (.cons (k := 2) rfl .nil) (.cons (k := 0) rfl (.cons (k := 1) rfl (.cons (k := 101) rfl (.cons (k := 104) rfl (.cons (k := 130) rfl .nil))))) ?_
  refine W.ret ?_
  exact N.retBy [1] (.cons (.tmp rfl) .nil) rfl rfl rfl rfl ⟨by show Value.bool _ = _; rw [Value.bool.injEq, Bool.eq_iff_iff]; simp only [Bool.and_eq_true, decide_eq_true_eq, List.nil_append]; constructor <;> (rintro ⟨h1, h2⟩; exact ⟨by omega, by omega⟩), rfl⟩

set_option maxRecDepth 100000 in
set_option maxHeartbeats 3200000 in
theorem rmload_ct (s : ByteArray) (hs : s.size ≤ 400000) : Ct Tryz.prog 24 [.string s] [] (fun v Hs => ∃ (y : Cf) (H : PH), v = .tuple #[.agg [.slice y.po y.o.length y.co, .slice y.pn y.n.length y.cn, .slice y.pl y.l.length y.cl].toArray, .bool (decide (good (nums s)))] ∧ y.In H ∧ (good (nums s) → gl y = decG (nums s)) ∧ Hs = [H]) := by
  refine Ct.body Tryz.func24 rfl Tryz.ntmps24 rfl ?_
  intro E F
  have hbt := nums_byt s
  have hln := nums_len s
  refine W.seq ?_
  refine W.region ?_
  refine RL.e (Eff.alloc 102 zc31) rfl ?_
  rintro _ _ ⟨b2, rfl, rfl⟩
  refine RL.q (Yld.assign rfl) rfl ?_
  refine RL.nil ?_
  refine N.next ?_
  refine W.seq ?_
  refine W.region ?_
  refine RL.q (Yld.buildP lay31 .nil rfl) rfl ?_
  refine RL.e (Eff.alloc 104 zc31) rfl ?_
  rintro _ _ ⟨b4, rfl, rfl⟩
  refine RL.e0 (Eff.storeS (c := 104) _ sz31 rfl rfl rfl rfl rfl rfl rfl (by (try simp only [putAt, List.take, List.drop, List.nil_append, List.cons_append, List.append_nil, List.length_cons, List.length_nil, Nat.add_zero, Nat.zero_add, Nat.reduceAdd]); rfl)) ?_
  rintro _ _ rfl
  refine RL.nil ?_
  refine N.next ?_
  refine W.seq ?_
  refine W.region ?_
  refine RL.q (Yld.move rfl) rfl ?_
  refine RL.e (Eff.strBytes 108 Tryz.underlying9 Tryz.underlying73 Tryz.underlying5 rfl (by first | omega | (simp only [maxLen]; omega))) rfl ?_
  rintro _ _ ⟨H8, p8, c8, rfl, hS8, rfl⟩
  refine RL.q (Yld.buildP lay92 (.cons rfl rfl .nil) rfl) rfl ?_
  refine RL.e (Eff.alloc 105 zc92) rfl ?_
  rintro _ _ ⟨b5, rfl, rfl⟩
  refine RL.e0 (Eff.storeS (c := 105) _ sz92 rfl rfl rfl rfl rfl rfl rfl (by (try simp only [putAt, List.take, List.drop, List.nil_append, List.cons_append, List.append_nil, List.length_cons, List.length_nil, Nat.add_zero, Nat.zero_add, Nat.reduceAdd]); rfl)) ?_
  rintro _ _ rfl
  refine RL.nil ?_
  refine N.next ?_
  refine W.keep (.cons (k := 0) rfl (.cons (k := 2) rfl (.cons (k := 4) rfl (.cons (k := 5) rfl .nil)))) (.cons (k := 0) rfl (.cons (k := 102) rfl (.cons (k := 104) rfl (.cons (k := 105) rfl (.cons (k := 108) rfl .nil))))) ?_
  refine W.seq ?_
  refine W.region ?_
  refine RL.q (Yld.loadW (c := 105) Tryz.underlying92 rfl sz92 rfl rfl (by first | exact single_self _ _ | exact pset_self _ _ _ | assumption) rfl) rfl ?_
  refine RL.q (Yld.move rfl) rfl ?_
  refine RL.q (Yld.lenS Tryz.underlying9 rfl) rfl ?_
  refine RL.e (Eff.call ent55 [108] [108, 140] (.cons rfl (.cons rfl .nil)) (rset40_ct (⟨p8, c8, nums s, 0⟩ : Rd) _ ⟨hS8, hbt⟩ s.size (by dsimp only; omega) (by omega)) rfl rfl rfl rfl (by rintro _ _ ⟨_, _, _, _, _, _, _, _, _, _, _, rfl⟩; rfl)) rfl ?_
  rintro _ _ ⟨_, ⟨w1, l1, K1, q1, d1, rfl, hw1, hs1, hv1, hn1, hO1, rfl⟩, rfl⟩
  refine RL.q (Yld.move rfl) rfl ?_
  refine RL.q (Yld.extract rfl rfl) rfl ?_
  refine RL.q (Yld.extract rfl rfl) rfl ?_
  refine RL.e0 (Eff.storeS (c := 105) _ sz92 rfl rfl rfl rfl rfl rfl rfl (by (try simp only [putAt, List.take, List.drop, List.nil_append, List.cons_append, List.append_nil, List.length_cons, List.length_nil, Nat.add_zero, Nat.zero_add, Nat.reduceAdd]); rfl)) ?_
  rintro _ _ rfl
  refine RL.q (Yld.fieldAddr fo31_0 rfl) rfl ?_
  refine RL.e0 (Eff.storeS (c := 104) _ sz22 rfl rfl rfl rfl rfl rfl rfl (by (try simp only [putAt, List.take, List.drop, List.nil_append, List.cons_append, List.append_nil, List.length_cons, List.length_nil, Nat.add_zero, Nat.zero_add, Nat.reduceAdd]); rfl)) ?_
  rintro _ _ rfl
  refine RL.nil ?_
  refine N.next ?_
  refine W.keep (.cons (k := 0) rfl (.cons (k := 2) rfl (.cons (k := 4) rfl (.cons (k := 5) rfl .nil)))) (.cons (k := 0) rfl (.cons (k := 102) rfl (.cons (k := 104) rfl (.cons (k := 105) rfl (.cons (k := 108) rfl (.cons (k := 140) rfl .nil)))))) ?_
  refine W.seq ?_
  refine W.region ?_
  refine RL.q (Yld.loadW (c := 105) Tryz.underlying92 rfl sz92 rfl rfl (by first | exact single_self _ _ | exact pset_self _ _ _ | assumption) rfl) rfl ?_
  refine RL.q (Yld.move rfl) rfl ?_
  refine RL.q (Yld.lenS Tryz.underlying9 rfl) rfl ?_
  refine RL.e (Eff.call ent55 [108] [108, 141] (.cons rfl (.cons rfl .nil)) (rset40_ct w1 _ hw1 s.size (by dsimp only at hn1; omega) (by omega)) rfl rfl rfl rfl (by rintro _ _ ⟨_, _, _, _, _, _, _, _, _, _, _, rfl⟩; rfl)) rfl ?_
  rintro _ _ ⟨_, ⟨w2, l2, K2, q2, d2, rfl, hw2, hs2, hv2, hn2, hO2, rfl⟩, rfl⟩
  refine RL.q (Yld.move rfl) rfl ?_
  refine RL.q (Yld.extract rfl rfl) rfl ?_
  refine RL.q (Yld.extract rfl rfl) rfl ?_
  refine RL.e0 (Eff.storeS (c := 105) _ sz92 rfl rfl rfl rfl rfl rfl rfl (by (try simp only [putAt, List.take, List.drop, List.nil_append, List.cons_append, List.append_nil, List.length_cons, List.length_nil, Nat.add_zero, Nat.zero_add, Nat.reduceAdd]); rfl)) ?_
  rintro _ _ rfl
  refine RL.q (Yld.fieldAddr fo31_1 rfl) rfl ?_
  refine RL.e0 (Eff.storeS (c := 104) _ sz22 rfl rfl rfl rfl rfl rfl rfl (by (try simp only [putAt, List.take, List.drop, List.nil_append, List.cons_append, List.append_nil, List.length_cons, List.length_nil, Nat.add_zero, Nat.zero_add, Nat.reduceAdd]); rfl)) ?_
  rintro _ _ rfl
  refine RL.nil ?_
  refine N.next ?_
  refine W.keep (.cons (k := 0) rfl (.cons (k := 2) rfl (.cons (k := 4) rfl (.cons (k := 5) rfl .nil)))) (.cons (k := 0) rfl (.cons (k := 102) rfl (.cons (k := 104) rfl (.cons (k := 105) rfl (.cons (k := 108) rfl (.cons (k := 140) rfl (.cons (k := 141) rfl .nil))))))) ?_
  refine W.seq ?_
  refine W.region ?_
  refine RL.q (Yld.loadW (c := 105) Tryz.underlying92 rfl sz92 rfl rfl (by first | exact single_self _ _ | exact pset_self _ _ _ | assumption) rfl) rfl ?_
  refine RL.q (Yld.move rfl) rfl ?_
  refine RL.q (Yld.lenS Tryz.underlying9 rfl) rfl ?_
  refine RL.e (Eff.call ent55 [108] [108, 142] (.cons rfl (.cons rfl .nil)) (rset40_ct w2 _ hw2 s.size (by dsimp only at hn1; omega) (by omega)) rfl rfl rfl rfl (by rintro _ _ ⟨_, _, _, _, _, _, _, _, _, _, _, rfl⟩; rfl)) rfl ?_
  rintro _ _ ⟨_, ⟨w3, l3, K3, q3, d3, rfl, hw3, hs3, hv3, hn3, hO3, rfl⟩, rfl⟩
  refine RL.q (Yld.move rfl) rfl ?_
  refine RL.q (Yld.extract rfl rfl) rfl ?_
  refine RL.q (Yld.extract rfl rfl) rfl ?_
  refine RL.e0 (Eff.storeS (c := 105) _ sz92 rfl rfl rfl rfl rfl rfl rfl (by (try simp only [putAt, List.take, List.drop, List.nil_append, List.cons_append, List.append_nil, List.length_cons, List.length_nil, Nat.add_zero, Nat.zero_add, Nat.reduceAdd]); rfl)) ?_
  rintro _ _ rfl
  refine RL.q (Yld.fieldAddr fo31_2 rfl) rfl ?_
  refine RL.e0 (Eff.storeS (c := 104) _ sz22 rfl rfl rfl rfl rfl rfl rfl (by (try simp only [putAt, List.take, List.drop, List.nil_append, List.cons_append, List.append_nil, List.length_cons, List.length_nil, Nat.add_zero, Nat.zero_add, Nat.reduceAdd]); rfl)) ?_
  rintro _ _ rfl
  refine RL.nil ?_
  refine N.next ?_
  refine W.keep (.cons (k := 2) rfl (.cons (k := 4) rfl (.cons (k := 5) rfl .nil))) (.cons (k := 0) rfl (.cons (k := 102) rfl (.cons (k := 104) rfl (.cons (k := 105) rfl (.cons (k := 108) rfl (.cons (k := 140) rfl (.cons (k := 141) rfl (.cons (k := 142) rfl .nil)))))))) ?_
  refine W.seq ?_
  refine W.seq ?_
  refine W.merge 140 141 rfl rfl rfl fun hm1 => ?_
  refine W.merge 140 142 rfl rfl rfl fun hm2 => ?_
  have hC : (⟨l1, l2, l3, q1, d1, q2, d2, q3, d3⟩ : Cf).In (hjoin (hjoin K1 K2) K3) := ⟨(hO1.mono hjoin_l).mono hjoin_l, (hO2.mono hm1).mono hjoin_l, hO3.mono hm2⟩
  have hGd := three_good (b := nums s) hs1 hs2 hs3
  have hDc := three_dec (b := nums s) hs1 hs2 hs3
  refine W.region ?_
  refine RL.q (Yld.loadW (c := 105) Tryz.underlying92 rfl sz92 rfl rfl (by first | exact single_self _ _ | exact pset_self _ _ _ | assumption) rfl) rfl ?_
  refine RL.e (Eff.call ent56 [108] [108] (.cons rfl .nil) (rend_ct w3 _ hw3) rfl rfl rfl rfl (by rintro _ _ ⟨_, rfl⟩; rfl)) rfl ?_
  rintro _ _ ⟨_, ⟨rfl, rfl⟩, rfl⟩
  refine RL.q (Yld.bin rfl rfl BinV.neq) rfl ?_
  refine RL.q (Yld.move rfl) rfl ?_
  refine' RL.or (t := 37) (d := 41) 4 rfl (.cons (k := 2) rfl (.cons (k := 4) rfl (.cons (k := 5) rfl (.cons (k := 34) rfl (.cons (k := 35) rfl (.cons (k := 36) rfl .nil)))))) (.cons (k := 0) rfl (.cons (k := 102) rfl (.cons (k := 104) rfl (.cons (k := 105) rfl (.cons (k := 108) rfl (.cons (k := 140) rfl (.cons (k := 141) rfl (.cons (k := 142) rfl .nil)))))))) ?_ ?_ ?_
  rotate_left 1
  ·
    intro hg37
    refine RL.gq rfl rfl (Yld.loadW (c := 104) Tryz.underlying31 rfl sz31 rfl rfl (by first | exact single_self _ _ | exact pset_self _ _ _ | assumption) rfl) rfl ?_
    refine RL.ge rfl rfl (Eff.call ent57 [140] [140] (.cons rfl .nil) (rmvalid_ct (⟨l1, l2, l3, q1, d1, q2, d2, q3, d3⟩ : Cf) _ hC hv1 hv2 hv3) rfl rfl rfl rfl (by rintro _ _ ⟨_, rfl⟩; rfl)) rfl ?_
    rintro _ _ ⟨_, ⟨rfl, rfl⟩, rfl⟩
    refine RL.gq rfl rfl (by first | exact Yld.notD rfl | exact Yld.not rfl) rfl ?_
    refine RL.q (by first | exact Yld.pickT rfl rfl | exact Yld.pickF rfl rfl) rfl ?_
    exact RL.nil (N.meet (.cons rfl (.cons rfl (.cons rfl (.cons rfl (.cons rfl (.cons rfl (.cons rfl .nil))))))) (.cons rfl (.cons rfl (.cons rfl (.cons rfl (.cons rfl (.cons rfl (.cons rfl (.cons rfl .nil)))))))))
  ·
    intro hg37
    refine RL.gskip rfl rfl rfl rfl ?_
    refine RL.gskip rfl rfl rfl rfl ?_
    refine RL.gskip rfl rfl rfl rfl ?_
    refine RL.q (by first | exact Yld.pickT rfl rfl | exact Yld.pickF rfl rfl) rfl ?_
    exact RL.nil (N.meet (.cons rfl (.cons rfl (.cons rfl (.cons rfl (.cons rfl (.cons rfl (.cons rfl .nil))))))) (.cons rfl (.cons rfl (.cons rfl (.cons rfl (.cons rfl (.cons rfl (.cons rfl (.cons rfl .nil)))))))))
  refine RL.nil ?_
  refine N.next ?_
  refine W.keep (.cons (k := 2) rfl (.cons (k := 4) rfl (.cons (k := 41) rfl .nil))) (.cons (k := 0) rfl (.cons (k := 102) rfl (.cons (k := 104) rfl (.cons (k := 105) rfl (.cons (k := 108) rfl (.cons (k := 140) rfl (.cons (k := 141) rfl (.cons (k := 142) rfl .nil)))))))) ?_
  refine W.cond rfl (fun hc41 => ?_) (fun hc41 => ?_)
  ·
    have hbad : ¬ good (nums s) := by
      rw [← hGd]
      rintro ⟨h1, h2⟩
      simp only [h1, h2, ne_eq, not_true, decide_false, decide_true, Bool.not_true, Bool.or_false, and_self] at hc41
      cases hc41
    refine W.seq ?_
    refine W.region ?_
    refine RL.q (Yld.buildP lay31 .nil rfl) rfl ?_
    refine RL.e0 (Eff.storeS (c := 102) _ sz31 rfl rfl rfl rfl rfl rfl rfl (by (try simp only [putAt, List.take, List.drop, List.nil_append, List.cons_append, List.append_nil, List.length_cons, List.length_nil, Nat.add_zero, Nat.zero_add, Nat.reduceAdd]); rfl)) ?_
    rintro _ _ rfl
    refine RL.q (Yld.assign rfl) rfl ?_
    refine RL.nil ?_
    refine N.next ?_
    refine W.ret ?_
    refine N.then_ret ?_
    exact N.retBy [140] (.cons (by first | exact .cell (c := 102) rfl rfl (fun w hs => run_loadVarA Tryz.underlying31 rfl sz31 rfl (fun j u hj => by rw [Nat.zero_add, PH.sub.cell hs (by first | exact single_self _ _ | exact pset_self _ _ _ | assumption)]; exact hj))) (.cons (.tmp rfl) .nil)) rfl rfl rfl rfl ⟨⟨[], [], [], none, 0, none, 0, none, 0⟩, _, by rw [decide_eq_false hbad]; rfl, ⟨⟨rfl, rfl⟩, ⟨rfl, rfl⟩, ⟨rfl, rfl⟩⟩, fun h => absurd h hbad, rfl⟩
  ·
    have hok : rdE w3.s = 0 ∧ good (nums s) := by
      simp only [Bool.or_eq_false_iff, Bool.not_eq_false', decide_eq_false_iff_not, decide_eq_true_eq, Classical.not_not] at hc41
      exact ⟨hc41.1, hGd.1 hc41⟩
    refine W.skip ?_
    refine N.next ?_
    refine W.seq ?_
    refine W.region ?_
    refine RL.q (Yld.loadW (c := 104) Tryz.underlying31 rfl sz31 rfl rfl (by first | exact single_self _ _ | exact pset_self _ _ _ | assumption) rfl) rfl ?_
    refine RL.e0 (Eff.storeS (c := 102) _ sz31 rfl rfl rfl rfl rfl rfl rfl (by (try simp only [putAt, List.take, List.drop, List.nil_append, List.cons_append, List.append_nil, List.length_cons, List.length_nil, Nat.add_zero, Nat.zero_add, Nat.reduceAdd]); rfl)) ?_
    rintro _ _ rfl
    refine RL.q (Yld.assign rfl) rfl ?_
    refine RL.nil ?_
    refine N.next ?_
    refine W.ret ?_
    exact N.retBy [140] (.cons (by first | exact .cell (c := 102) rfl rfl (fun w hs => run_loadVarA Tryz.underlying31 rfl sz31 rfl (fun j u hj => by rw [Nat.zero_add, PH.sub.cell hs (by first | exact single_self _ _ | exact pset_self _ _ _ | assumption)]; exact hj))) (.cons (.tmp rfl) .nil)) rfl rfl rfl rfl ⟨(⟨l1, l2, l3, q1, d1, q2, d2, q3, d3⟩ : Cf), _, by rw [decide_eq_true hok.2]; rfl, hC, fun _ => (hDc hok.1).symm, rfl⟩

end Go.Proofs.YtdjmdfnhnlijiaaGreatDoor
