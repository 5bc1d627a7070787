/- The reference of snapshot: configurations. Written by program (walk2.py). -/
import Derived.Test.YtelmdoobgilhoaaR5
import Derived.Test.YtelmdoobgilhoaaSlMrg
import Derived.Test.YtelmdoobgilhoaaN9
namespace Go.Proofs.Ytelmdoobgilhoaa
open SL Cfg
set_option linter.unusedVariables false
set_option linter.unusedSimpArgs false
theorem ent63 : Ent Try.prog 63 := ⟨_, _, Try.func63, by kernel_rfl, rfl⟩
theorem ent41 : Ent Try.prog 41 := ⟨_, _, Try.func41, by kernel_rfl, rfl⟩
theorem Cfg.rdL_short (s : RS) : (rdL s).2.1.length ≤ s.1.length := Nat.le_trans (rdZs_short _ _) (rdC_short _ _)
theorem Cfg.rdL_stop {s : RS} (h : s.2 ≠ 0) : (rdL s).2 = s := by
  obtain ⟨l, e⟩ := s
  unfold rdL
  rw [rdC_err h]
  rfl
theorem Cfg.rdL_back {s : RS} (h : (rdL s).2.2 = 0) : s.2 = 0 := by
  by_cases e : s.2 = 0
  · exact e
  · rw [rdL_stop e] at h; exact h

set_option maxRecDepth 100000 in
set_option maxHeartbeats 1600000 in
theorem rconf_ct (s : ByteArray) (hs : s.size ≤ 400000) : Ct Try.prog 40 [.string s] [] (fun v Hs => ∃ (y : Cf) (ok : Bool) (H : PH), v = .tuple #[.agg [.slice y.po y.o.length y.co, .slice y.pn y.n.length y.cn, .slice y.pl y.l.length y.cl].toArray, .bool ok] ∧ y.In H ∧ decR (nums s) y (bif ok then 0 else 11) ∧ Hs = [H]) := by
  refine Ct.body Try.func40 rfl Try.ntmps40 rfl ?_
  intro E F
  have hbt := nums_byt s
  have hln := nums_len s
  have hls : (nums s).length ≤ 400000 := by omega
  refine W.seq ?_
  refine W.region ?_
  refine RL.e (Eff.alloc 102 zc29) rfl ?_
  rintro _ _ ⟨b2, rfl, rfl⟩
  refine RL.q (Yld.assign rfl) rfl ?_
  refine RL.nil ?_
  refine N.next ?_
  refine W.seq ?_
  refine W.region ?_
  refine RL.q (Yld.buildP lay29 .nil rfl) rfl ?_
  refine RL.e (Eff.alloc 104 zc29) rfl ?_
  rintro _ _ ⟨b4, rfl, rfl⟩
  refine RL.e0 (Eff.storeS (c := 104) _ sz29 rfl rfl rfl rfl rfl rfl rfl (by (try simp only [putAt, List.take, List.drop, List.nil_append, List.cons_append, List.append_nil, List.length_cons, List.length_nil, Nat.add_zero, Nat.zero_add, Nat.reduceAdd]); rfl)) ?_
  rintro _ _ rfl
  refine RL.nil ?_
  refine N.next ?_
  refine W.seq ?_
  refine W.region ?_
  refine RL.q (Yld.move rfl) rfl ?_
  refine RL.e (Eff.strBytes 108 Try.underlying9 Try.underlying59 Try.underlying5 rfl (by first | omega | (simp only [maxLen]; omega))) rfl ?_
  rintro _ _ ⟨H8, p8, c8, rfl, hS8, rfl⟩
  refine RL.q (Yld.buildP lay76 (.cons rfl rfl .nil) rfl) rfl ?_
  refine RL.e (Eff.alloc 105 zc76) rfl ?_
  rintro _ _ ⟨b5, rfl, rfl⟩
  refine RL.e0 (Eff.storeS (c := 105) _ sz76 rfl rfl rfl rfl rfl rfl rfl (by (try simp only [putAt, List.take, List.drop, List.nil_append, List.cons_append, List.append_nil, List.length_cons, List.length_nil, Nat.add_zero, Nat.zero_add, Nat.reduceAdd]); rfl)) ?_
  rintro _ _ rfl
  refine RL.nil ?_
  refine N.next ?_
  refine W.keep (.cons (k := 2) rfl (.cons (k := 4) rfl (.cons (k := 5) rfl .nil))) (.cons (k := 0) rfl (.cons (k := 102) rfl (.cons (k := 104) rfl (.cons (k := 105) rfl (.cons (k := 108) rfl .nil))))) ?_
  refine W.seq ?_
  refine W.region ?_
  refine RL.q (Yld.loadW (c := 105) Try.underlying76 rfl sz76 rfl rfl (by first | exact single_self _ _ | exact pset_self _ _ _ | assumption) rfl) rfl ?_
  refine RL.e (Eff.call ent63 [108] [108, 140] (.cons rfl .nil) (rnums_ct (⟨p8, c8, nums s, 0⟩ : Rd) _ ⟨hS8, hbt⟩ hls) rfl rfl rfl rfl (by rintro _ _ ⟨_, _, _, _, _, _, _, _, _, _, _, rfl⟩; rfl)) rfl ?_
  rintro _ _ ⟨_, ⟨w1, l1, K1, q1, d1, rfl, hw1, hs1, hv1, hn1, hO1, rfl⟩, rfl⟩
  have hl1 : w1.l.length ≤ 400000 := by have h := rdL_short (⟨p8, c8, nums s, 0⟩ : Rd).s; rw [← hs1] at h; exact Nat.le_trans h hls
  refine RL.q (Yld.move rfl) rfl ?_
  refine RL.q (Yld.extract rfl rfl) rfl ?_
  refine RL.q (Yld.extract rfl rfl) rfl ?_
  refine RL.e0 (Eff.storeS (c := 105) _ sz76 rfl rfl rfl rfl rfl rfl rfl (by (try simp only [putAt, List.take, List.drop, List.nil_append, List.cons_append, List.append_nil, List.length_cons, List.length_nil, Nat.add_zero, Nat.zero_add, Nat.reduceAdd]); rfl)) ?_
  rintro _ _ rfl
  refine RL.q (Yld.fieldAddr fo29_0 rfl) rfl ?_
  refine RL.e0 (Eff.storeS (c := 104) _ sz27 rfl rfl rfl rfl rfl rfl rfl (by (try simp only [putAt, List.take, List.drop, List.nil_append, List.cons_append, List.append_nil, List.length_cons, List.length_nil, Nat.add_zero, Nat.zero_add, Nat.reduceAdd]); rfl)) ?_
  rintro _ _ rfl
  refine RL.nil ?_
  refine N.next ?_
  refine W.keep (.cons (k := 2) rfl (.cons (k := 4) rfl (.cons (k := 5) rfl .nil))) (.cons (k := 0) rfl (.cons (k := 102) rfl (.cons (k := 104) rfl (.cons (k := 105) rfl (.cons (k := 108) rfl (.cons (k := 140) rfl .nil)))))) ?_
  refine W.seq ?_
  refine W.region ?_
  refine RL.q (Yld.loadW (c := 105) Try.underlying76 rfl sz76 rfl rfl (by first | exact single_self _ _ | exact pset_self _ _ _ | assumption) rfl) rfl ?_
  refine RL.e (Eff.call ent63 [108] [108, 141] (.cons rfl .nil) (rnums_ct w1 _ hw1 hl1) rfl rfl rfl rfl (by rintro _ _ ⟨_, _, _, _, _, _, _, _, _, _, _, rfl⟩; rfl)) rfl ?_
  rintro _ _ ⟨_, ⟨w2, l2, K2, q2, d2, rfl, hw2, hs2, hv2, hn2, hO2, rfl⟩, rfl⟩
  have hl2 : w2.l.length ≤ 400000 := by have h := rdL_short w1.s; rw [← hs2] at h; exact Nat.le_trans h hl1
  refine RL.q (Yld.move rfl) rfl ?_
  refine RL.q (Yld.extract rfl rfl) rfl ?_
  refine RL.q (Yld.extract rfl rfl) rfl ?_
  refine RL.e0 (Eff.storeS (c := 105) _ sz76 rfl rfl rfl rfl rfl rfl rfl (by (try simp only [putAt, List.take, List.drop, List.nil_append, List.cons_append, List.append_nil, List.length_cons, List.length_nil, Nat.add_zero, Nat.zero_add, Nat.reduceAdd]); rfl)) ?_
  rintro _ _ rfl
  refine RL.q (Yld.fieldAddr fo29_1 rfl) rfl ?_
  refine RL.e0 (Eff.storeS (c := 104) _ sz27 rfl rfl rfl rfl rfl rfl rfl (by (try simp only [putAt, List.take, List.drop, List.nil_append, List.cons_append, List.append_nil, List.length_cons, List.length_nil, Nat.add_zero, Nat.zero_add, Nat.reduceAdd]); rfl)) ?_
  rintro _ _ rfl
  refine RL.nil ?_
  refine N.next ?_
  refine W.keep (.cons (k := 2) rfl (.cons (k := 4) rfl (.cons (k := 5) rfl .nil))) (.cons (k := 0) rfl (.cons (k := 102) rfl (.cons (k := 104) rfl (.cons (k := 105) rfl (.cons (k := 108) rfl (.cons (k := 140) rfl (.cons (k := 141) rfl .nil))))))) ?_
  refine W.seq ?_
  refine W.region ?_
  refine RL.q (Yld.loadW (c := 105) Try.underlying76 rfl sz76 rfl rfl (by first | exact single_self _ _ | exact pset_self _ _ _ | assumption) rfl) rfl ?_
  refine RL.e (Eff.call ent63 [108] [108, 142] (.cons rfl .nil) (rnums_ct w2 _ hw2 hl2) rfl rfl rfl rfl (by rintro _ _ ⟨_, _, _, _, _, _, _, _, _, _, _, rfl⟩; rfl)) rfl ?_
  rintro _ _ ⟨_, ⟨w3, l3, K3, q3, d3, rfl, hw3, hs3, hv3, hn3, hO3, rfl⟩, rfl⟩
  have hl3 : w3.l.length ≤ 400000 := by have h := rdL_short w2.s; rw [← hs3] at h; exact Nat.le_trans h hl2
  refine RL.q (Yld.move rfl) rfl ?_
  refine RL.q (Yld.extract rfl rfl) rfl ?_
  refine RL.q (Yld.extract rfl rfl) rfl ?_
  refine RL.e0 (Eff.storeS (c := 105) _ sz76 rfl rfl rfl rfl rfl rfl rfl (by (try simp only [putAt, List.take, List.drop, List.nil_append, List.cons_append, List.append_nil, List.length_cons, List.length_nil, Nat.add_zero, Nat.zero_add, Nat.reduceAdd]); rfl)) ?_
  rintro _ _ rfl
  refine RL.q (Yld.fieldAddr fo29_2 rfl) rfl ?_
  refine RL.e0 (Eff.storeS (c := 104) _ sz27 rfl rfl rfl rfl rfl rfl rfl (by (try simp only [putAt, List.take, List.drop, List.nil_append, List.cons_append, List.append_nil, List.length_cons, List.length_nil, Nat.add_zero, Nat.zero_add, Nat.reduceAdd]); rfl)) ?_
  rintro _ _ rfl
  refine RL.nil ?_
  refine N.next ?_
  refine W.keep (.cons (k := 2) rfl (.cons (k := 4) rfl (.cons (k := 5) rfl .nil))) (.cons (k := 0) rfl (.cons (k := 102) rfl (.cons (k := 104) rfl (.cons (k := 105) rfl (.cons (k := 108) rfl (.cons (k := 140) rfl (.cons (k := 141) rfl (.cons (k := 142) rfl .nil)))))))) ?_
  refine W.seq ?_
  refine W.seq ?_
  refine W.merge 140 141 rfl rfl rfl fun hm1 => ?_
  refine W.merge 140 142 rfl rfl rfl fun hm2 => ?_
  have hC : (⟨l1, l2, l3, q1, d1, q2, d2, q3, d3⟩ : Cf).In (hjoin (hjoin K1 K2) K3) := ⟨(hO1.sl.mono hjoin_l).mono hjoin_l, (hO2.sl.mono hm1).mono hjoin_l, hO3.sl.mono hm2⟩
  have hD : (decRaw (nums s)).2 = w3.s := by rw [hs3, hs2, hs1]; rfl
  have hE : rdE w3.s = 0 → (decRaw (nums s)).1 = (l1, l2, l3) := fun h => by
    have e3 : w3.e = 0 := congrArg Prod.snd (rdE_zero h)
    have e2 : w2.e = 0 := rdL_back (s := w2.s) (by rw [← hs3]; exact e3)
    have e1 : w1.e = 0 := rdL_back (s := w1.s) (by rw [← hs2]; exact e2)
    rw [hv1 e1, hv2 e2, hv3 e3, hs2, hs1]; rfl
  refine W.region ?_
  refine RL.q (Yld.loadW (c := 105) Try.underlying76 rfl sz76 rfl rfl (by first | exact single_self _ _ | exact pset_self _ _ _ | assumption) rfl) rfl ?_
  refine RL.e (Eff.call ent41 [108] [108] (.cons rfl .nil) (rend_ct w3 _ hw3) rfl rfl rfl rfl (by rintro _ _ ⟨_, rfl⟩; rfl)) rfl ?_
  rintro _ _ ⟨_, ⟨rfl, rfl⟩, rfl⟩
  refine RL.q (Yld.bin rfl rfl BinV.neq) rfl ?_
  refine RL.q (Yld.move rfl) rfl ?_
  refine' RL.or (t := 31) (d := 40) 9 rfl (.cons (k := 2) rfl (.cons (k := 4) rfl (.cons (k := 5) rfl (.cons (k := 28) rfl (.cons (k := 29) rfl (.cons (k := 30) rfl .nil)))))) (.cons (k := 0) rfl (.cons (k := 102) rfl (.cons (k := 104) rfl (.cons (k := 105) rfl (.cons (k := 108) rfl (.cons (k := 140) rfl (.cons (k := 141) rfl (.cons (k := 142) rfl .nil)))))))) ?_ ?_ ?_
  rotate_left 1
  ·
    intro hg31
    refine RL.gq rfl rfl (Yld.loadW (c := 104) Try.underlying29 rfl sz29 rfl rfl (by first | exact single_self _ _ | exact pset_self _ _ _ | assumption) rfl) rfl ?_
    refine RL.ge rfl rfl (Eff.call ent16 [140] [140] (.cons rfl .nil) (rcvalid_ct (⟨l1, l2, l3, q1, d1, q2, d2, q3, d3⟩ : Cf) _ hC (by dsimp only; omega) (by dsimp only; omega) (by dsimp only; omega)) rfl rfl rfl rfl (by rintro _ _ ⟨_, rfl⟩; rfl)) rfl ?_
    rintro _ _ ⟨_, ⟨rfl, rfl⟩, rfl⟩
    refine RL.gq rfl rfl (by first | exact Yld.notD rfl | exact Yld.not rfl) rfl ?_
    refine RL.gq rfl rfl (Yld.move rfl) rfl ?_
    refine' RL.and (t := 35) (d := 39) 4 rfl (.cons (k := 2) rfl (.cons (k := 4) rfl (.cons (k := 5) rfl (.cons (k := 28) rfl (.cons (k := 29) rfl (.cons (k := 30) rfl (.cons (k := 31) rfl (.cons (k := 32) rfl (.cons (k := 33) rfl (.cons (k := 34) rfl .nil)))))))))) (.cons (k := 0) rfl (.cons (k := 102) rfl (.cons (k := 104) rfl (.cons (k := 105) rfl (.cons (k := 108) rfl (.cons (k := 140) rfl (.cons (k := 141) rfl (.cons (k := 142) rfl .nil)))))))) ?_ ?_ ?_
    rotate_left 1
    ·
      intro hg35
      refine RL.gq rfl rfl (Yld.loadW (c := 104) Try.underlying29 rfl sz29 rfl rfl (by first | exact single_self _ _ | exact pset_self _ _ _ | assumption) rfl) rfl ?_
      refine RL.ge rfl rfl (Eff.call ent17 [140] [140] (.cons rfl .nil) (rblank_ct (⟨l1, l2, l3, q1, d1, q2, d2, q3, d3⟩ : Cf) _ hC (by dsimp only; omega) (by dsimp only; omega) (by dsimp only; omega)) rfl rfl rfl rfl (by rintro _ _ ⟨_, rfl⟩; rfl)) rfl ?_
      rintro _ _ ⟨_, ⟨rfl, rfl⟩, rfl⟩
      refine RL.gq rfl rfl (by first | exact Yld.notD rfl | exact Yld.not rfl) rfl ?_
      refine RL.gq rfl rfl (by first | exact Yld.pickT rfl rfl | exact Yld.pickF rfl rfl) rfl ?_
      exact RL.nil (N.meet (.cons rfl (.cons rfl (.cons rfl (.cons rfl (.cons rfl (.cons rfl (.cons rfl (.cons rfl (.cons rfl (.cons rfl (.cons rfl .nil))))))))))) (.cons rfl (.cons rfl (.cons rfl (.cons rfl (.cons rfl (.cons rfl (.cons rfl (.cons rfl .nil)))))))))
    ·
      intro hg35
      refine RL.gskip rfl rfl rfl rfl ?_
      refine RL.gskip rfl rfl rfl rfl ?_
      refine RL.gskip rfl rfl rfl rfl ?_
      refine RL.gq rfl rfl (by first | exact Yld.pickT rfl rfl | exact Yld.pickF rfl rfl) rfl ?_
      exact RL.nil (N.meet (.cons rfl (.cons rfl (.cons rfl (.cons rfl (.cons rfl (.cons rfl (.cons rfl (.cons rfl (.cons rfl (.cons rfl (.cons rfl .nil))))))))))) (.cons rfl (.cons rfl (.cons rfl (.cons rfl (.cons rfl (.cons rfl (.cons rfl (.cons rfl .nil)))))))))
    refine RL.q (by first | exact Yld.pickT rfl rfl | exact Yld.pickF rfl rfl) rfl ?_
    exact RL.nil (N.meet (.cons rfl (.cons rfl (.cons rfl (.cons rfl (.cons rfl (.cons rfl (.cons rfl .nil))))))) (.cons rfl (.cons rfl (.cons rfl (.cons rfl (.cons rfl (.cons rfl (.cons rfl (.cons rfl .nil)))))))))
  ·
    intro hg31
    refine RL.gskip rfl rfl rfl rfl ?_
    refine RL.gskip rfl rfl rfl rfl ?_
    refine RL.gskip rfl rfl rfl rfl ?_
    refine RL.gskip rfl rfl rfl rfl ?_
    refine RL.gskipU rfl rfl rfl ?_
    refine RL.gskipU rfl rfl rfl ?_
    refine RL.gskipU rfl rfl rfl ?_
    refine RL.gskip rfl rfl rfl rfl ?_
    refine RL.q (by first | exact Yld.pickT rfl rfl | exact Yld.pickF rfl rfl) rfl ?_
    exact RL.nil (N.meet (.cons rfl (.cons rfl (.cons rfl (.cons rfl (.cons rfl (.cons rfl (.cons rfl .nil))))))) (.cons rfl (.cons rfl (.cons rfl (.cons rfl (.cons rfl (.cons rfl (.cons rfl (.cons rfl .nil)))))))))
  refine RL.nil ?_
  refine N.next ?_
  refine W.keep (.cons (k := 2) rfl (.cons (k := 4) rfl (.cons (k := 40) rfl .nil))) (.cons (k := 0) rfl (.cons (k := 102) rfl (.cons (k := 104) rfl (.cons (k := 105) rfl (.cons (k := 108) rfl (.cons (k := 140) rfl (.cons (k := 141) rfl (.cons (k := 142) rfl .nil)))))))) ?_
  refine W.cond rfl (fun hc40 => ?_) (fun hc40 => ?_)
  ·
    refine W.seq ?_
    refine W.region ?_
    refine RL.q (Yld.buildP lay29 .nil rfl) rfl ?_
    refine RL.e0 (Eff.storeS (c := 102) _ sz29 rfl rfl rfl rfl rfl rfl rfl (by (try simp only [putAt, List.take, List.drop, List.nil_append, List.cons_append, List.append_nil, List.length_cons, List.length_nil, Nat.add_zero, Nat.zero_add, Nat.reduceAdd]); rfl)) ?_
    rintro _ _ rfl
    refine RL.q (Yld.assign rfl) rfl ?_
    refine RL.nil ?_
    refine N.next ?_
    refine W.ret ?_
    refine N.then_ret ?_
    exact N.retBy [140] (.cons (by first | exact .cell (c := 102) rfl rfl (fun w hs => run_loadVarA Try.underlying29 rfl sz29 rfl (fun j u hj => by rw [Nat.zero_add, PH.sub.cell hs (by first | exact single_self _ _ | exact pset_self _ _ _ | assumption)]; exact hj))) (.cons (.tmp rfl) .nil)) rfl rfl rfl rfl ⟨⟨[], [], [], none, 0, none, 0, none, 0⟩, false, _, rfl, ⟨⟨rfl, rfl⟩, ⟨rfl, rfl⟩, ⟨rfl, rfl⟩⟩, .inr ⟨rfl, rfl, fun ⟨h1, w, h2, h3⟩ => by
        rw [hD] at h1; rw [hE h1] at h2
        have h4 : (⟨l1, l2, l3, q1, d1, q2, d2, q3, d3⟩ : Cf).Ok ∨ (⟨l1, l2, l3, q1, d1, q2, d2, q3, d3⟩ : Cf).blank := h3.elim (fun h => .inl (Cf.Ok.congr (x := w) h2.symm h)) (fun h => .inr (by simp only [Prod.mk.injEq] at h2; unfold Cf.blank at h ⊢; dsimp only; rw [h2.1, h2.2.1, h2.2.2]; exact h))
        unfold Cf.blank at h4
        rcases h4 with h4 | h4 <;> simp [h1, h4] at hc40⟩, rfl⟩
  ·
    refine W.skip ?_
    refine N.next ?_
    refine W.seq ?_
    refine W.region ?_
    refine RL.q (Yld.loadW (c := 104) Try.underlying29 rfl sz29 rfl rfl (by first | exact single_self _ _ | exact pset_self _ _ _ | assumption) rfl) rfl ?_
    refine RL.e0 (Eff.storeS (c := 102) _ sz29 rfl rfl rfl rfl rfl rfl rfl (by (try simp only [putAt, List.take, List.drop, List.nil_append, List.cons_append, List.append_nil, List.length_cons, List.length_nil, Nat.add_zero, Nat.zero_add, Nat.reduceAdd]); rfl)) ?_
    rintro _ _ rfl
    refine RL.q (Yld.assign rfl) rfl ?_
    refine RL.nil ?_
    refine N.next ?_
    refine W.ret ?_
    exact N.retBy [140] (.cons (by first | exact .cell (c := 102) rfl rfl (fun w hs => run_loadVarA Try.underlying29 rfl sz29 rfl (fun j u hj => by rw [Nat.zero_add, PH.sub.cell hs (by first | exact single_self _ _ | exact pset_self _ _ _ | assumption)]; exact hj))) (.cons (.tmp rfl) .nil)) rfl rfl rfl rfl ⟨(⟨l1, l2, l3, q1, d1, q2, d2, q3, d3⟩ : Cf), true, _, rfl, hC, .inl (by
        have h1 : rdE w3.s = 0 := by by_cases e : rdE w3.s = 0; exact e; simp [e] at hc40
        refine ⟨rfl, by rw [hD]; exact h1, hE h1, ?_⟩
        unfold Cf.blank; by_cases e : (⟨l1, l2, l3, q1, d1, q2, d2, q3, d3⟩ : Cf).Ok; exact .inl e; exact .inr (by simp [e, h1] at hc40; simp [hc40])), rfl⟩

end Go.Proofs.Ytelmdoobgilhoaa
