/- The reference of snapshot: lists of numbers. Written by program (walk2.py). -/
import Derived.Test.YtelmdoobgilhoaaR4
namespace Go.Proofs.Ytelmdoobgilhoaa
open SL Cfg
set_option linter.unusedVariables false
set_option linter.unusedSimpArgs false
theorem ent72 : Ent Try.prog 72 := ⟨_, _, Try.func72, by kernel_rfl, rfl⟩
theorem ent73 : Ent Try.prog 73 := ⟨_, _, Try.func73, by kernel_rfl, rfl⟩
theorem Cfg.rdZ_stop {s : RS} (h : s.2 ≠ 0) : (rdZ s).2 = s := by
  obtain ⟨l, e⟩ := s
  show (rdN (l, e)).2 = _
  rw [rdN_err h]
theorem Cfg.rdZs_stop {k : Nat} {s : RS} (h : (rdZs k s).2.2 ≠ 0) : ∀ d, (rdZs (k + d) s).2 = (rdZs k s).2
  | 0 => rfl
  | d + 1 => by
    show (rdZ (rdZs (k + d) s).2).2 = _
    rw [rdZs_stop h d, rdZ_stop h]

set_option maxRecDepth 100000 in
set_option maxHeartbeats 1600000 in
theorem rnums_ct (x : Rd) (H1 : PH) (hx : x.In H1) (hb : x.l.length ≤ 400000) : Ct Try.prog 63 [.agg [.slice x.p x.l.length x.c, .int .i64 x.e].toArray] [H1] (fun v Hs => ∃ (w : Rd) (l : List Int) (H' : PH) (p' : Option Addr) (c' : Nat), v = .tuple #[.agg [.slice w.p w.l.length w.c, .int .i64 w.e].toArray, .slice p' l.length c'] ∧ w.In H1 ∧ w.s = (rdL x.s).2 ∧ (w.e = 0 → l = (rdL x.s).1) ∧ l.length ≤ 400000 ∧ Own H' p' c' 3 1 (iz l) ∧ Hs = [H1, H']) := by
  refine Ct.body Try.func63 rfl Try.ntmps63 rfl ?_
  intro E F
  have hbt : Byt x.s.1 := hx.byt
  refine W.seq ?_
  refine W.region ?_
  refine RL.e (Eff.box 101 _ rfl rfl) rfl ?_
  rintro _ _ ⟨b1, rfl, rfl⟩
  refine RL.e (Eff.alloc 102 zc76) rfl ?_
  rintro _ _ ⟨b2, rfl, rfl⟩
  refine RL.q (Yld.assign rfl) rfl ?_
  refine RL.nil ?_
  refine N.next ?_
  refine W.seq ?_
  refine W.region ?_
  refine RL.q (Yld.loadW (c := 101) Try.underlying76 rfl sz76 rfl rfl (by first | exact single_self _ _ | exact pset_self _ _ _ | assumption) rfl) rfl ?_
  refine RL.q (Yld.fieldAddr fo76_0 rfl) rfl ?_
  refine RL.q (Yld.load1 (c := 101) Try.underlying59 rfl rfl rfl (by first | exact single_self _ _ | exact pset_self _ _ _ | assumption) rfl) rfl ?_
  refine RL.q (Yld.lenSl Try.underlying59 rfl) rfl ?_
  refine RL.e (Eff.call ent72 [1] [1] (.cons rfl (.cons rfl .nil)) (rgetC_ct x H1 hx (x.l.length : Nat) (by omega)) rfl rfl rfl rfl (by rintro _ _ ⟨_, _, _, _, _, rfl⟩; rfl)) rfl ?_
  rintro _ _ ⟨_, ⟨y, hy, hys, rfl, rfl⟩, rfl⟩
  obtain ⟨cv, hcv⟩ : ∃ cv, (rdC x.s (x.l.length : Nat)).1 = cv := ⟨_, rfl⟩
  have hcr := rdC_range (s := x.s) (most := (x.l.length : Nat)) hbt (by omega)
  have hcl := rdC_le (s := x.s) (most := (x.l.length : Nat)) (by omega)
  rw [hcv] at hcr hcl ⊢
  refine RL.q (Yld.move rfl) rfl ?_
  refine RL.q (Yld.extract rfl rfl) rfl ?_
  refine RL.q (Yld.extract rfl rfl) rfl ?_
  refine RL.e0 (Eff.storeS (c := 101) _ sz76 rfl rfl rfl rfl rfl rfl rfl (by (try simp only [putAt, List.take, List.drop, List.nil_append, List.cons_append, List.append_nil, List.length_cons, List.length_nil, Nat.add_zero, Nat.zero_add, Nat.reduceAdd]); rfl)) ?_
  rintro _ _ rfl
  refine RL.q (Yld.assign rfl) rfl ?_
  refine RL.nil ?_
  refine N.next ?_
  refine W.keep (.cons (k := 1) rfl (.cons (k := 2) rfl (.cons (k := 4) rfl .nil))) (.cons (k := 0) rfl (.cons (k := 1) rfl (.cons (k := 101) rfl (.cons (k := 102) rfl .nil)))) ?_
  refine W.seq ?_
  refine W.region ?_
  refine RL.e (Eff.buildSlice 117 Try.underlying27 sz3 zc3 rfl rfl .nil rfl) rfl ?_
  rintro _ _ ⟨b17, rfl, rfl⟩
  refine RL.q (Yld.assign rfl) rfl ?_
  refine RL.nil ?_
  refine N.next ?_
  refine W.seq ?_
  refine W.seq ?_
  refine W.region ?_
  refine RL.q (Yld.assign rfl) rfl ?_
  refine RL.nil ?_
  refine N.next ?_
  refine W.block ?_
  refine W.loopK (ι := DZ) (fun z => (z.k ≤ cv.toNat ∧ z.x.In H1 ∧ z.x.s = (rdZs z.k y.s).2 ∧ (z.x.e = 0 → z.l = (rdZs z.k y.s).1) ∧ Own z.H z.p z.c 3 1 (iz z.l) ∧ z.l.length = z.k)) (fun z => [(5, .slice z.p z.l.length z.c), (6, .int .i64 (z.k : Nat))]) (fun z => [(101, single b1 (.cells [.slice z.x.p z.x.l.length z.x.c, .int .i64 z.x.e].toArray 76 (0, 0))), (117, z.H)]) (fun z => cv.toNat - z.k) (.cons (k := 1) rfl (.cons (k := 2) rfl (.cons (k := 4) rfl .nil))) (.cons (k := 0) rfl (.cons (k := 1) rfl (.cons (k := 102) rfl .nil))) ⟨0, y, some ⟨b17, 0, none⟩, 0, [], single b17 (.cells [].toArray 3 (0, 0))⟩ ?_ ?_ ?_ ?_
  · exact ⟨Nat.zero_le _, hy, rfl, fun _ => rfl, iz_none rfl, rfl⟩
  · exact (.as rfl (by first | rfl | (simp; done) | (congr 1; simp; done) | (congr 1; omega)) (.as rfl (by first | rfl | (simp; done) | (congr 1; simp; done) | (congr 1; omega)) .nil))
  · exact (.cons rfl (.cons rfl .nil))
  rintro z ⟨hzk, hzI, hzs, hzl, hO, hzn⟩
  refine W.keep (.cons (k := 5) rfl (.cons (k := 6) rfl (.cons (k := 1) rfl (.cons (k := 2) rfl (.cons (k := 4) rfl .nil))))) (.cons (k := 101) rfl (.cons (k := 117) rfl (.cons (k := 0) rfl (.cons (k := 1) rfl (.cons (k := 102) rfl .nil))))) ?_
  refine W.seq ?_
  refine W.seq ?_
  refine W.region ?_
  refine RL.q (Yld.move rfl) rfl ?_
  refine RL.q (Yld.move rfl) rfl ?_
  refine RL.q (Yld.bin rfl rfl BinV.lss) rfl ?_
  refine RL.q (Yld.move rfl) rfl ?_
  refine' RL.and (t := 21) (d := 25) 4 rfl (.cons (k := 1) rfl (.cons (k := 2) rfl (.cons (k := 4) rfl (.cons (k := 5) rfl (.cons (k := 6) rfl (.cons (k := 18) rfl (.cons (k := 19) rfl (.cons (k := 20) rfl .nil)))))))) (.cons (k := 0) rfl (.cons (k := 1) rfl (.cons (k := 101) rfl (.cons (k := 102) rfl (.cons (k := 117) rfl .nil))))) ?_ ?_ ?_
  rotate_left 1
  ·
    intro hg21
    refine RL.gq rfl rfl (Yld.fieldAddr fo76_1 rfl) rfl ?_
    refine RL.gq rfl rfl (Yld.load1 (c := 101) Try.underlying23 rfl rfl rfl (by first | exact single_self _ _ | exact pset_self _ _ _ | assumption) rfl) rfl ?_
    refine RL.gq rfl rfl (Yld.bin rfl rfl BinV.eql) rfl ?_
    refine RL.q (by first | exact Yld.pickT rfl rfl | exact Yld.pickF rfl rfl) rfl ?_
    exact RL.nil (N.meet (.cons rfl (.cons rfl (.cons rfl (.cons rfl (.cons rfl (.cons rfl (.cons rfl (.cons rfl (.cons rfl .nil))))))))) (.cons rfl (.cons rfl (.cons rfl (.cons rfl (.cons rfl .nil))))))
  ·
    intro hg21
    refine RL.gskip rfl rfl rfl rfl ?_
    refine RL.gskip rfl rfl rfl rfl ?_
    refine RL.gskip rfl rfl rfl rfl ?_
    refine RL.q (by first | exact Yld.pickT rfl rfl | exact Yld.pickF rfl rfl) rfl ?_
    exact RL.nil (N.meet (.cons rfl (.cons rfl (.cons rfl (.cons rfl (.cons rfl (.cons rfl (.cons rfl (.cons rfl (.cons rfl .nil))))))))) (.cons rfl (.cons rfl (.cons rfl (.cons rfl (.cons rfl .nil))))))
  refine RL.nil ?_
  refine N.next ?_
  refine W.cond rfl (fun hc25 => ?_) (fun hc25 => ?_)
  ·
    have hk : z.k < cv.toNat ∧ z.x.e = 0 := by simp at hc25; omega
    refine W.skip ?_
    refine N.next ?_
    refine W.keep (.cons (k := 1) rfl (.cons (k := 2) rfl (.cons (k := 4) rfl (.cons (k := 5) rfl (.cons (k := 6) rfl .nil))))) (.cons (k := 0) rfl (.cons (k := 1) rfl (.cons (k := 101) rfl (.cons (k := 102) rfl (.cons (k := 117) rfl .nil))))) ?_
    refine W.seq ?_
    refine W.block ?_
    refine W.seq ?_
    refine W.region ?_
    refine RL.q (Yld.loadW (c := 101) Try.underlying76 rfl sz76 rfl rfl (by first | exact single_self _ _ | exact pset_self _ _ _ | assumption) rfl) rfl ?_
    refine RL.e (Eff.call ent73 [1] [1] (.cons rfl .nil) (rgetZ_ct z.x H1 hzI) rfl rfl rfl rfl (by rintro _ _ ⟨_, _, _, _, _, rfl⟩; rfl)) rfl ?_
    rintro _ _ ⟨_, ⟨w, hw, hws, rfl, rfl⟩, rfl⟩
    refine RL.q (Yld.move rfl) rfl ?_
    refine RL.q (Yld.extract rfl rfl) rfl ?_
    refine RL.q (Yld.extract rfl rfl) rfl ?_
    refine RL.e (Eff.alloc 107 zc76) rfl ?_
    rintro _ _ ⟨b7, rfl, rfl⟩
    refine RL.e0 (Eff.storeS (c := 107) _ sz76 rfl rfl rfl rfl rfl rfl rfl (by (try simp only [putAt, List.take, List.drop, List.nil_append, List.cons_append, List.append_nil, List.length_cons, List.length_nil, Nat.add_zero, Nat.zero_add, Nat.reduceAdd]); rfl)) ?_
    rintro _ _ rfl
    refine RL.q (Yld.assign rfl) rfl ?_
    refine RL.nil ?_
    refine N.next ?_
    refine W.keep (.cons (k := 1) rfl (.cons (k := 2) rfl (.cons (k := 4) rfl (.cons (k := 5) rfl (.cons (k := 6) rfl (.cons (k := 7) rfl (.cons (k := 8) rfl .nil))))))) (.cons (k := 0) rfl (.cons (k := 1) rfl (.cons (k := 101) rfl (.cons (k := 102) rfl (.cons (k := 107) rfl (.cons (k := 117) rfl .nil)))))) ?_
    refine W.seq ?_
    refine W.region ?_
    refine RL.q (Yld.loadW (c := 107) Try.underlying76 rfl sz76 rfl rfl (by first | exact single_self _ _ | exact pset_self _ _ _ | assumption) rfl) rfl ?_
    refine RL.e0 (Eff.storeS (c := 101) _ sz76 rfl rfl rfl rfl rfl rfl rfl (by (try simp only [putAt, List.take, List.drop, List.nil_append, List.cons_append, List.append_nil, List.length_cons, List.length_nil, Nat.add_zero, Nat.zero_add, Nat.reduceAdd]); rfl)) ?_
    rintro _ _ rfl
    refine RL.nil ?_
    refine N.next ?_
    refine W.region ?_
    refine RL.q (Yld.move rfl) rfl ?_
    refine RL.q (Yld.move rfl) rfl ?_
    refine RL.e (Eff.buildSlice 136 Try.underlying27 sz3 zc3 rfl rfl (.cons rfl rfl .nil) rfl) rfl ?_
    rintro _ _ ⟨b36, rfl, rfl⟩
    refine RL.e (Eff.appendE (tc := 117) (sc := 136) (fun z : Int => [Value.int .i64 z]) Try.underlying27 el3 rfl rfl rfl rfl hO rfl (iz_single rfl) rfl (iz_one1 _) (by decide) (by simp; omega) (by simp [maxLen]; omega)) rfl ?_
    rintro _ _ ⟨Ha, pa, ca, rfl, hOa, rfl⟩
    refine RL.q (Yld.assign rfl) rfl ?_
    refine RL.nil ?_
    refine N.block_normal ?_
    refine N.next ?_
    refine W.keep (.cons (k := 1) rfl (.cons (k := 2) rfl (.cons (k := 4) rfl (.cons (k := 5) rfl (.cons (k := 6) rfl .nil))))) (.cons (k := 0) rfl (.cons (k := 1) rfl (.cons (k := 101) rfl (.cons (k := 102) rfl (.cons (k := 107) rfl (.cons (k := 117) rfl (.cons (k := 136) rfl .nil))))))) ?_
    refine W.region ?_
    refine RL.q (Yld.move rfl) rfl ?_
    refine RL.q (Yld.bin rfl rfl (by first | exact BinV.add (by omega) (by omega) | exact BinV.addW)) rfl ?_
    refine RL.q (Yld.assign rfl) rfl ?_
    refine RL.nil ?_
    exact N.famK ⟨z.k + 1, w, pa, ca, z.l ++ [(rdZ z.x.s).1], Ha⟩ ⟨⟨by dsimp only; omega, hw, by dsimp only; rw [hws, hzs]; rfl, fun _ => by dsimp only; rw [hzl hk.2, hzs]; rfl, hOa, by simp [hzn]⟩, by dsimp only; omega⟩ (.as rfl (by first | rfl | (simp; done) | (congr 1; simp; done) | (congr 1; omega)) (.as rfl (by first | rfl | (simp; done) | (congr 1; simp; done) | (congr 1; omega)) .nil)) (.cons rfl (.cons rfl (.cons rfl .nil))) (.cons rfl (.cons rfl .nil)) (.cons rfl (.cons rfl (.cons rfl .nil)))
  ·
    have hk : z.x.e = 0 → z.k = cv.toNat := fun h => by simp [h] at hc25; omega
    have hL1 : (rdL x.s) = rdZs cv.toNat y.s := by unfold rdL; rw [show x.s.1.length = x.l.length from rfl, hcv, hys]
    have hL2 : z.x.s = (rdL x.s).2 := by
      rw [hL1, hzs]
      by_cases h : z.x.e = 0
      · rw [hk h]
      · have h2 : (rdZs z.k y.s).2.2 ≠ 0 := by rw [← hzs]; exact h
        have := rdZs_stop h2 (cv.toNat - z.k)
        rw [show z.k + (cv.toNat - z.k) = cv.toNat by omega] at this; rw [this]
    refine W.exit ?_
    refine N.then_exit ?_
    refine N.then_exit ?_
    refine N.block_eq ?_
    refine N.next ?_
    refine W.keep (.cons (k := 1) rfl (.cons (k := 2) rfl (.cons (k := 5) rfl .nil))) (.cons (k := 0) rfl (.cons (k := 1) rfl (.cons (k := 101) rfl (.cons (k := 102) rfl (.cons (k := 117) rfl .nil))))) ?_
    refine W.seq ?_
    refine W.region ?_
    refine RL.q (Yld.loadW (c := 101) Try.underlying76 rfl sz76 rfl rfl (by first | exact single_self _ _ | exact pset_self _ _ _ | assumption) rfl) rfl ?_
    refine RL.q (Yld.move rfl) rfl ?_
    refine RL.e0 (Eff.storeS (c := 102) _ sz76 rfl rfl rfl rfl rfl rfl rfl (by (try simp only [putAt, List.take, List.drop, List.nil_append, List.cons_append, List.append_nil, List.length_cons, List.length_nil, Nat.add_zero, Nat.zero_add, Nat.reduceAdd]); rfl)) ?_
    rintro _ _ rfl
    refine RL.q (Yld.assign rfl) rfl ?_
    refine RL.nil ?_
    refine N.next ?_
    refine W.keep (.cons (k := 2) rfl (.cons (k := 3) rfl .nil)) (.cons (k := 0) rfl (.cons (k := 1) rfl (.cons (k := 101) rfl (.cons (k := 102) rfl (.cons (k := 117) rfl .nil))))) ?_
    refine W.ret ?_
    exact N.retBy [1, 117] (.cons (by first | exact .cell (c := 102) rfl rfl (fun w hs => run_loadVarA Try.underlying76 rfl sz76 rfl (fun j u hj => by rw [Nat.zero_add, PH.sub.cell hs (by first | exact single_self _ _ | exact pset_self _ _ _ | assumption)]; exact hj))) (.cons (.tmp rfl) .nil)) rfl rfl rfl rfl ⟨z.x, z.l, _, _, _, rfl, hzI, hL2, fun h => by rw [hL1, hzl h, hk h], by omega, hO, rfl⟩

end Go.Proofs.Ytelmdoobgilhoaa
