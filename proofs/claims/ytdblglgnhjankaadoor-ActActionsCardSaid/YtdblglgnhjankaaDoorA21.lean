/- ActAdvances. Written by program (walk2.py). -/
import Derived.Test.YtdblglgnhjankaaDoorA20
import Derived.Test.YtdblglgnhjankaaDoorSlSub
namespace Go.Proofs.YtdblglgnhjankaaDoor
open SL Cfg
set_option linter.unusedVariables false
set_option linter.unusedSimpArgs false

structure Cfg.Ad where
  z : Sta
  H : PH
theorem Cfg.TabH.mono {H H' : PH} (h : TabH H) (hs : ∀ b o, H b = some o → H' b = some o) : TabH H' := fun w hw => h w fun b o hb => hw b o (hs b o hb)
theorem Cfg.adv_msg {a : Ac} {z : Sta} {d : MsgD} {ok : Bool} (h : (d, ok) = msgF a 1 1 z) (ho : ok = true) (hk : a.k = 1) (hc : a.c ≠ 1) : leadsB a z = true ∧ z.n.length = 0 ∧ ((a.c = 0 ∧ d = msgA a 1 1 a.r [] []) ∨ (a.c = 2 ∧ d = msgA a 1 1 0 z.o (tgL z.o a.m a.r))) := by
  subst ho
  unfold msgF at h
  rw [if_neg (by omega)] at h
  split at h
  · simp at h
  · rename_i hg
    refine ⟨?_, ?_, ?_⟩
    · by_cases e : leadsB a z = true
      · exact e
      · exact absurd (.inr (.inl (by simpa using e))) hg
    · by_cases e : 0 < z.n.length
      · exact absurd (.inr (.inr (.inl e))) hg
      · omega
    · split at h
      · rename_i h0; exact .inl ⟨by omega, (Prod.mk.inj h).1⟩
      · split at h
        · rename_i h2
          split at h
          · simp at h
          · exact .inr ⟨h2, (Prod.mk.inj h).1⟩
        · simp at h
def Cfg.Sta.withL (z : Sta) (p : Option Addr) (c : Nat) (l : List Int) : Sta := { z with pl := p, l := l, csl := c }
def Cfg.Sta.withO (z : Sta) (p : Option Addr) (c : Nat) (l : List Int) : Sta := { z with po := p, o := l, cso := c }
theorem Cfg.reach_l {a : Ac} {z : Sta} {p : Option Addr} {c : Nat} (hk : a.k = 1) (hc : a.c = 0) (hl : leadsB a z = true) : reachB a (z.withL p c (a.r :: z.l)) = true := by
  have h1 : leadsB a (z.withL p c (a.r :: z.l)) = true := hl
  unfold reachB
  rw [if_neg (by rw [h1]; decide), if_neg (by omega), if_pos ⟨hk, hc⟩]
  simp [Sta.withL]
theorem Cfg.reach_o {a : Ac} {z : Sta} {p : Option Addr} {c : Nat} (hk : a.k = 1) (hc : a.c = 2) (hl : leadsB a z = true) (hn : z.n.length = 0) (hm : ¬ a.r.tmod 100 = a.m) : reachB a (z.withO p c (tgL z.o a.m a.r)) = true := by
  have h1 : leadsB a (z.withO p c (tgL z.o a.m a.r)) = true := hl
  have h2 : a.r ∈ tgL z.o a.m a.r := tgL_mem.2 (.inl rfl)
  have h3 : onB (tgL z.o a.m a.r) a.m = false := List.any_eq_false.2 fun w hw => by
    rcases tgL_mem.1 hw with rfl | ⟨_, h⟩
    · simpa using hm
    · simpa using h
  unfold reachB
  rw [if_neg (by rw [h1]; decide), if_neg (by omega), if_neg (by omega), if_pos ⟨hk, hc⟩]
  show ((decide (z.n.length = 0) && decide (a.r ∈ tgL z.o a.m a.r)) && !onB (tgL z.o a.m a.r) a.m) = true
  rw [h3, decide_eq_true h2, decide_eq_true hn]; rfl

set_option maxRecDepth 100000 in
set_option maxHeartbeats 3200000 in
theorem advances_ct (a : Ac) (z : Sta) (H1 : PH) (hz : z.In H1) (hT : TabH H1) : Ct Tryd.prog 8 [.agg [.int .i64 a.k, .int .i64 a.m, .int .i64 a.g, .int .i64 a.c, .int .i64 a.r, .int .i64 a.uk, .int .i64 a.ui, .int .i64 a.ur, .int .i64 a.uv].toArray, .agg [.int .i64 z.g, .int .i64 z.m, .int .i64 z.ro, .int .i64 z.te, .int .i64 z.le, .int .i64 z.ba, .int .i64 z.la, .int .i64 z.co, .slice z.p0 z.n0 z.c0, .slice z.p1 z.n1 z.c1, .slice z.p2 z.n2 z.c2, .slice z.po z.o.length z.cso, .slice z.pn z.n.length z.csn, .slice z.pl z.l.length z.csl, .slice z.pq z.q.length z.csq].toArray] [H1] (fun v Hs => v = .bool true ∧ Hs = [H1]) := by
  refine Ct.body Tryd.func8 rfl Tryd.ntmps8 rfl ?_
  intro E F
  have hz0 := hz
  obtain ⟨ho, hn, hll, hq⟩ := hz
  have hmo := ho.len_le
  simp only [iz_len, maxLen] at hmo
  have hml := hll.len_le
  simp only [iz_len, maxLen] at hml
  refine W.seq ?_
  refine W.region ?_
  refine RL.e (Eff.box 102 _ rfl rfl) rfl ?_
  rintro _ _ ⟨b2, rfl, rfl⟩
  refine RL.e (Eff.box 103 _ rfl rfl) rfl ?_
  rintro _ _ ⟨b3, rfl, rfl⟩
  refine RL.q (Yld.assign rfl) rfl ?_
  refine RL.nil ?_
  refine N.next ?_
  refine W.seq ?_
  refine W.seq ?_
  refine W.region ?_
  refine RL.q (Yld.loadW (c := 103) Tryd.underlying61 rfl sz61 rfl rfl (by first | exact single_self _ _ | exact pset_self _ _ _ | assumption) rfl) rfl ?_
  refine RL.e (Eff.call ent22 [] [] (.cons rfl .nil) (small_ct z) rfl rfl rfl rfl (by rintro _ _ ⟨_, rfl⟩; rfl)) rfl ?_
  rintro _ _ ⟨_, ⟨rfl, rfl⟩, rfl⟩
  refine RL.q (by first | exact Yld.notD rfl | exact Yld.not rfl) rfl ?_
  refine RL.nil ?_
  refine N.next ?_
  refine W.keep (.cons (k := 2) rfl (.cons (k := 3) rfl (.cons (k := 9) rfl .nil))) (.cons (k := 0) rfl (.cons (k := 1) rfl (.cons (k := 102) rfl (.cons (k := 103) rfl .nil)))) ?_
  refine W.cond rfl (fun hc9 => ?_) (fun hc9 => ?_)
  ·
    refine W.seq ?_
    refine W.region ?_
    refine RL.e (Eff.call ent11 [1] [1] .nil (awake_ct H1 hT) rfl rfl rfl rfl (by rintro _ _ ⟨_, rfl⟩; rfl)) rfl ?_
    rintro _ _ ⟨_, ⟨rfl, rfl⟩, rfl⟩
    refine RL.q (Yld.assign rfl) rfl ?_
    refine RL.nil ?_
    refine N.next ?_
    refine W.keep (.cons (k := 4) rfl .nil) (.cons (k := 0) rfl (.cons (k := 1) rfl (.cons (k := 102) rfl (.cons (k := 103) rfl .nil)))) ?_
    refine W.ret ?_
    refine N.then_ret ?_
    exact N.retBy [1] (.cons (.tmp rfl) .nil) rfl rfl rfl rfl ⟨rfl, rfl⟩
  ·
    have hsb : smB z = true := by simpa using hc9
    have hsm := sm_o hsb
    have hsl : z.l.length ≤ 10 := by simp only [smB, Bool.and_eq_true, decide_eq_true_eq] at hsb; omega
    refine W.skip ?_
    refine N.next ?_
    refine W.seq ?_
    refine W.region ?_
    refine RL.q (Yld.loadW (c := 102) Tryd.underlying44 rfl sz44 rfl rfl (by first | exact single_self _ _ | exact pset_self _ _ _ | assumption) rfl) rfl ?_
    refine RL.q (Yld.loadW (c := 103) Tryd.underlying61 rfl sz61 rfl rfl (by first | exact single_self _ _ | exact pset_self _ _ _ | assumption) rfl) rfl ?_
    refine RL.e (Eff.call ent25 [1] [1, 130] (.cons rfl (.cons rfl (.cons rfl (.cons rfl .nil)))) (message_ct a 1 1 z H1 hz0 hsm) rfl rfl rfl rfl (by rintro _ _ ⟨_, _, _, _, _, _, rfl⟩; rfl)) rfl ?_
    rintro _ _ ⟨_, ⟨⟨xd, xp, xc, xq, xe⟩, ok, Hm, rfl, ⟨hxf, hxt⟩, hF, rfl⟩, rfl⟩
    dsimp only at hxf hxt hF
    refine RL.q (Yld.move rfl) rfl ?_
    refine RL.q (Yld.eq (v' := .agg [.int .i64 xd.kd, .int .i64 xd.g, .int .i64 0, .int .i64 0, .int .i64 0, .string .empty, .int .i64 0, .int .i64 xd.gn, .int .i64 xd.st, .int .i64 xd.ck, .int .i64 xd.cm, .slice xp xd.f.length xc, .slice xq xd.t.length xe, .int .i64 xd.uk, .int .i64 xd.ui, .int .i64 xd.ur, .int .i64 xd.uv, .int .i64 0, .int .i64 0, .int .i64 0, .int .i64 0, .int .i64 0, .int .i64 0, .int .i64 0, .int .i64 0, .int .i64 0, .slice none 0 0, .slice none 0 0, .slice none 0 0, .slice none 0 0, .slice none 0 0, .slice none 0 0, .slice none 0 0, .slice none 0 0, .int .i64 0, .int .i64 0, .int .i64 0, .int .i64 0, .int .i64 0, .int .i64 0, .int .i64 0, .int .i64 0, .bool false, .slice none 0 0, .int .i64 0, .string .empty, .bool false].toArray) (Yld.extract rfl rfl) (rfl)) rfl ?_
    refine RL.q (Yld.extract rfl rfl) rfl ?_
    refine RL.e (Eff.alloc 105 zc71) rfl ?_
    rintro _ _ ⟨b5, rfl, rfl⟩
    refine RL.e0 (Eff.storeS (c := 105) _ sz71 rfl rfl rfl rfl rfl rfl rfl (by (try simp only [putAt, List.take, List.drop, List.nil_append, List.cons_append, List.append_nil, List.length_cons, List.length_nil, Nat.add_zero, Nat.zero_add, Nat.reduceAdd]); rfl)) ?_
    rintro _ _ rfl
    refine RL.q (Yld.assign rfl) rfl ?_
    refine RL.nil ?_
    refine N.next ?_
    refine W.keep (.cons (k := 2) rfl (.cons (k := 3) rfl (.cons (k := 5) rfl (.cons (k := 6) rfl .nil)))) (.cons (k := 0) rfl (.cons (k := 1) rfl (.cons (k := 102) rfl (.cons (k := 103) rfl (.cons (k := 105) rfl (.cons (k := 130) rfl .nil)))))) ?_
    refine W.seq ?_
    refine W.seq ?_
    refine W.region ?_
    refine RL.q (Yld.move rfl) rfl ?_
    refine RL.q (by first | exact Yld.notD rfl | exact Yld.not rfl) rfl ?_
    refine RL.q (Yld.move rfl) rfl ?_
    refine' RL.or (t := 19) (d := 23) 4 rfl (.cons (k := 2) rfl (.cons (k := 3) rfl (.cons (k := 5) rfl (.cons (k := 6) rfl (.cons (k := 17) rfl (.cons (k := 18) rfl .nil)))))) (.cons (k := 0) rfl (.cons (k := 1) rfl (.cons (k := 102) rfl (.cons (k := 103) rfl (.cons (k := 105) rfl (.cons (k := 130) rfl .nil)))))) ?_ ?_ ?_
    rotate_left 1
    ·
      intro hg19
      refine RL.gq rfl rfl (Yld.fieldAddr fo44_0 rfl) rfl ?_
      refine RL.gq rfl rfl (Yld.load1 (c := 102) Tryd.underlying3 rfl rfl rfl (by first | exact single_self _ _ | exact pset_self _ _ _ | assumption) rfl) rfl ?_
      refine RL.gq rfl rfl (Yld.bin rfl rfl BinV.neq) rfl ?_
      refine RL.q (by first | exact Yld.pickT rfl rfl | exact Yld.pickF rfl rfl) rfl ?_
      exact RL.nil (N.meet (.cons rfl (.cons rfl (.cons rfl (.cons rfl (.cons rfl (.cons rfl (.cons rfl .nil))))))) (.cons rfl (.cons rfl (.cons rfl (.cons rfl (.cons rfl (.cons rfl .nil)))))))
    ·
      intro hg19
      refine RL.gskip rfl rfl rfl rfl ?_
      refine RL.gskip rfl rfl rfl rfl ?_
      refine RL.gskip rfl rfl rfl rfl ?_
      refine RL.q (by first | exact Yld.pickT rfl rfl | exact Yld.pickF rfl rfl) rfl ?_
      exact RL.nil (N.meet (.cons rfl (.cons rfl (.cons rfl (.cons rfl (.cons rfl (.cons rfl (.cons rfl .nil))))))) (.cons rfl (.cons rfl (.cons rfl (.cons rfl (.cons rfl (.cons rfl .nil)))))))
    refine RL.q (Yld.move rfl) rfl ?_
    refine' RL.or (t := 24) (d := 28) 4 rfl (.cons (k := 2) rfl (.cons (k := 3) rfl (.cons (k := 5) rfl (.cons (k := 6) rfl (.cons (k := 17) rfl (.cons (k := 18) rfl (.cons (k := 23) rfl .nil))))))) (.cons (k := 0) rfl (.cons (k := 1) rfl (.cons (k := 102) rfl (.cons (k := 103) rfl (.cons (k := 105) rfl (.cons (k := 130) rfl .nil)))))) ?_ ?_ ?_
    rotate_left 1
    ·
      intro hg24
      refine RL.gq rfl rfl (Yld.fieldAddr fo44_3 rfl) rfl ?_
      refine RL.gq rfl rfl (Yld.load1 (c := 102) Tryd.underlying3 rfl rfl rfl (by first | exact single_self _ _ | exact pset_self _ _ _ | assumption) rfl) rfl ?_
      refine RL.gq rfl rfl (Yld.bin rfl rfl BinV.eql) rfl ?_
      refine RL.q (by first | exact Yld.pickT rfl rfl | exact Yld.pickF rfl rfl) rfl ?_
      exact RL.nil (N.meet (.cons rfl (.cons rfl (.cons rfl (.cons rfl (.cons rfl (.cons rfl (.cons rfl (.cons rfl .nil)))))))) (.cons rfl (.cons rfl (.cons rfl (.cons rfl (.cons rfl (.cons rfl .nil)))))))
    ·
      intro hg24
      refine RL.gskip rfl rfl rfl rfl ?_
      refine RL.gskip rfl rfl rfl rfl ?_
      refine RL.gskip rfl rfl rfl rfl ?_
      refine RL.q (by first | exact Yld.pickT rfl rfl | exact Yld.pickF rfl rfl) rfl ?_
      exact RL.nil (N.meet (.cons rfl (.cons rfl (.cons rfl (.cons rfl (.cons rfl (.cons rfl (.cons rfl (.cons rfl .nil)))))))) (.cons rfl (.cons rfl (.cons rfl (.cons rfl (.cons rfl (.cons rfl .nil)))))))
    refine RL.nil ?_
    refine N.next ?_
    refine W.keep (.cons (k := 2) rfl (.cons (k := 3) rfl (.cons (k := 5) rfl (.cons (k := 28) rfl .nil)))) (.cons (k := 0) rfl (.cons (k := 1) rfl (.cons (k := 102) rfl (.cons (k := 103) rfl (.cons (k := 105) rfl (.cons (k := 130) rfl .nil)))))) ?_
    refine W.cond rfl (fun hc28 => ?_) (fun hc28 => ?_)
    ·
      refine W.seq ?_
      refine W.region ?_
      refine RL.e (Eff.call ent11 [1] [1] .nil (awake_ct H1 hT) rfl rfl rfl rfl (by rintro _ _ ⟨_, rfl⟩; rfl)) rfl ?_
      rintro _ _ ⟨_, ⟨rfl, rfl⟩, rfl⟩
      refine RL.q (Yld.assign rfl) rfl ?_
      refine RL.nil ?_
      refine N.next ?_
      refine W.keep (.cons (k := 4) rfl .nil) (.cons (k := 0) rfl (.cons (k := 1) rfl (.cons (k := 102) rfl (.cons (k := 103) rfl (.cons (k := 105) rfl (.cons (k := 130) rfl .nil)))))) ?_
      refine W.ret ?_
      refine N.then_ret ?_
      exact N.retBy [1] (.cons (.tmp rfl) .nil) rfl rfl rfl rfl ⟨rfl, rfl⟩
    ·
      have hok : ok = true := by cases ok <;> simp_all
      have hk1 : a.k = 1 := by by_cases e : a.k = 1; exact e; simp [e] at hc28
      have hc1 : a.c ≠ 1 := fun e => by simp [e] at hc28
      obtain ⟨hlz, hn0, hD⟩ := adv_msg hF hok hk1 hc1
      refine W.skip ?_
      refine N.next ?_
      refine W.cutK (ι := Ad) (fun y => (y.z.In y.H ∧ reachB a y.z = true ∧ (∀ b o, H1 b = some o → y.H b = some o))) (fun y => []) (fun y => [(1, y.H), (103, single b3 (.cells [.int .i64 y.z.g, .int .i64 y.z.m, .int .i64 y.z.ro, .int .i64 y.z.te, .int .i64 y.z.le, .int .i64 y.z.ba, .int .i64 y.z.la, .int .i64 y.z.co, .slice y.z.p0 y.z.n0 y.z.c0, .slice y.z.p1 y.z.n1 y.z.c1, .slice y.z.p2 y.z.n2 y.z.c2, .slice y.z.po y.z.o.length y.z.cso, .slice y.z.pn y.z.n.length y.z.csn, .slice y.z.pl y.z.l.length y.z.csl, .slice y.z.pq y.z.q.length y.z.csq].toArray 61 (0, 0)))]) (.cons (k := 2) rfl (.cons (k := 3) rfl .nil)) (.cons (k := 0) rfl (.cons (k := 102) rfl (.cons (k := 105) rfl .nil))) ?_ ?_
      ·
        refine W.seq ?_
        refine W.region ?_
        refine RL.q (Yld.fieldAddr fo71_9 rfl) rfl ?_
        refine RL.q (Yld.fieldAddr fo66_0 rfl) rfl ?_
        refine RL.q (Yld.load1 (c := 105) Tryd.underlying3 rfl rfl rfl (by first | exact single_self _ _ | exact pset_self _ _ _ | assumption) rfl) rfl ?_
        refine RL.nil ?_
        refine N.next ?_
        refine W.block ?_
        refine W.seq ?_
        refine W.region ?_
        refine RL.q (Yld.bin rfl rfl BinV.eql) rfl ?_
        refine RL.q (Yld.assign rfl) rfl ?_
        refine RL.nil ?_
        refine N.next ?_
        refine W.keep (.cons (k := 2) rfl (.cons (k := 3) rfl (.cons (k := 5) rfl (.cons (k := 32) rfl (.cons (k := 33) rfl .nil))))) (.cons (k := 0) rfl (.cons (k := 1) rfl (.cons (k := 102) rfl (.cons (k := 103) rfl (.cons (k := 105) rfl (.cons (k := 130) rfl .nil)))))) ?_
        first | refine W.condD rfl (fun hc33 => ?_) (fun hc33 => ?_) | (refine W.cond rfl (fun hc33 => ?_) (fun hc33 => ?_) <;> try simp only [Bool.or_eq_true, Bool.and_eq_true, Bool.not_eq_true', Bool.not_eq_false', decide_eq_true_eq, Bool.or_eq_false_iff, Bool.and_eq_false_iff, decide_eq_false_iff_not, beq_iff_eq, beq_eq_false_iff_ne, ne_eq, Decidable.not_not] at hc33)
        ·
          obtain ⟨hc0, rfl⟩ : a.c = 0 ∧ xd = msgA a 1 1 a.r [] [] := hD.resolve_right (fun ⟨h1, h2⟩ => by rw [h2] at hc33; exact absurd (h1.symm.trans hc33) (by decide))
          refine W.region ?_
          refine RL.q (Yld.fieldAddr fo71_9 rfl) rfl ?_
          refine RL.q (Yld.fieldAddr fo66_1 rfl) rfl ?_
          refine RL.q (Yld.load1 (c := 105) Tryd.underlying3 rfl rfl rfl (by first | exact single_self _ _ | exact pset_self _ _ _ | assumption) rfl) rfl ?_
          refine RL.e (Eff.buildSlice 138 Tryd.underlying54 sz3 zc3 rfl rfl (.cons rfl rfl .nil) rfl) rfl ?_
          rintro _ _ ⟨b38, rfl, rfl⟩
          refine RL.q (Yld.fieldAddr fo61_9 rfl) rfl ?_
          refine RL.q (Yld.fieldAddr fo59_2 rfl) rfl ?_
          refine RL.q (Yld.load1 (c := 103) Tryd.underlying54 rfl rfl rfl (by first | exact single_self _ _ | exact pset_self _ _ _ | assumption) rfl) rfl ?_
          refine RL.e (Eff.appendE (tc := 138) (sc := 1) (fun z : Int => [Value.int .i64 z]) Tryd.underlying54 el3 rfl rfl rfl rfl (iz_lit (l := [a.r]) rfl (by simp [maxLen])) rfl hll rfl (iz_one1 _) (by decide) (by first | (simp; done) | (simp; omega)) (by first | (simp [maxLen]; done) | (simp [maxLen]; omega))) rfl ?_
          rintro _ _ ⟨Ha, pa, ca, rfl, hOa, rfl⟩
          refine RL.q (Yld.fieldAddr fo61_9 rfl) rfl ?_
          refine RL.q (Yld.fieldAddr fo59_2 rfl) rfl ?_
          refine RL.e0 (Eff.storeS (c := 103) _ sz54 rfl rfl rfl rfl rfl rfl rfl (by (try simp only [putAt, List.take, List.drop, List.nil_append, List.cons_append, List.append_nil, List.length_cons, List.length_nil, Nat.add_zero, Nat.zero_add, Nat.reduceAdd]); rfl)) ?_
          rintro _ _ rfl
          refine RL.nil ?_
          refine N.block_normal ?_
          refine N.merge 1 138 rfl rfl rfl fun ha1 => ?_
          exact N.famK ⟨z.withL pa ca (a.r :: z.l), _⟩ ⟨⟨ho.mono hjoin_l, hn.mono hjoin_l, hOa.sl.mono ha1, hq.mono hjoin_l⟩, reach_l hk1 hc0 hlz, hjoin_l⟩ .nil (.cons rfl (.cons rfl .nil)) (.cons rfl (.cons rfl .nil)) (.cons rfl (.cons rfl (.cons rfl .nil)))
        ·
          obtain ⟨hc2, rfl⟩ : a.c = 2 ∧ xd = msgA a 1 1 0 z.o (tgL z.o a.m a.r) := hD.resolve_left (fun ⟨h1, h2⟩ => by rw [h2] at hc33; exact hc33 h1)
          have hq2 : (msgA a 1 1 0 z.o (tgL z.o a.m a.r)).ck = 2 := hc2
          refine W.seq ?_
          refine W.region ?_
          refine RL.q (Yld.bin rfl rfl BinV.eql) rfl ?_
          refine RL.q (Yld.assign rfl) rfl ?_
          refine RL.nil ?_
          refine N.next ?_
          first | (refine W.as (t := 45) rfl (boolT (by first | assumption | omega | (simp; done))) ?_; refine W.condT rfl ?_) | refine W.condT rfl ?_
          refine W.seq ?_
          refine W.seq ?_
          refine W.region ?_
          refine RL.q (Yld.fieldAddr fo71_9 rfl) rfl ?_
          refine RL.q (Yld.fieldAddr fo66_2 rfl) rfl ?_
          refine RL.q (Yld.load1 (c := 105) Tryd.underlying54 rfl rfl rfl (by first | exact single_self _ _ | exact pset_self _ _ _ | assumption) rfl) rfl ?_
          refine RL.q (Yld.fieldAddr fo61_9 rfl) rfl ?_
          refine RL.q (Yld.fieldAddr fo59_0 rfl) rfl ?_
          refine RL.q (Yld.load1 (c := 103) Tryd.underlying54 rfl rfl rfl (by first | exact single_self _ _ | exact pset_self _ _ _ | assumption) rfl) rfl ?_
          refine RL.e (Eff.call ent20 [130, 1] [130, 1] (.cons rfl (.cons rfl .nil)) (rints_ct z.o _ _ _ hxf z.o _ _ _ ho) rfl rfl rfl rfl (by rintro _ _ ⟨_, rfl⟩; rfl)) rfl ?_
          rintro _ _ ⟨_, ⟨rfl, rfl⟩, rfl⟩
          refine RL.q (by first | exact Yld.notD rfl | exact Yld.not rfl) rfl ?_
          refine RL.q (Yld.move rfl) rfl ?_
          refine' RL.or (t := 55) (d := 62) 7 rfl (.cons (k := 2) rfl (.cons (k := 3) rfl (.cons (k := 5) rfl (.cons (k := 32) rfl (.cons (k := 33) rfl (.cons (k := 45) rfl (.cons (k := 46) rfl (.cons (k := 47) rfl (.cons (k := 48) rfl (.cons (k := 49) rfl (.cons (k := 50) rfl (.cons (k := 51) rfl (.cons (k := 52) rfl (.cons (k := 53) rfl (.cons (k := 54) rfl .nil))))))))))))))) (.cons (k := 0) rfl (.cons (k := 1) rfl (.cons (k := 102) rfl (.cons (k := 103) rfl (.cons (k := 105) rfl (.cons (k := 130) rfl .nil)))))) ?_ ?_ ?_
          rotate_left 1
          ·
            intro hg55
            refine RL.gq rfl rfl (Yld.fieldAddr fo44_4 rfl) rfl ?_
            refine RL.gq rfl rfl (Yld.load1 (c := 102) Tryd.underlying3 rfl rfl rfl (by first | exact single_self _ _ | exact pset_self _ _ _ | assumption) rfl) rfl ?_
            refine RL.gq rfl rfl (Yld.bin rfl rfl (by first | exact BinV.rem (by omega) (by omega) | exact BinV.remW (by omega))) rfl ?_
            refine RL.gq rfl rfl (Yld.fieldAddr fo44_1 rfl) rfl ?_
            refine RL.gq rfl rfl (Yld.load1 (c := 102) Tryd.underlying3 rfl rfl rfl (by first | exact single_self _ _ | exact pset_self _ _ _ | assumption) rfl) rfl ?_
            refine RL.gq rfl rfl (Yld.bin rfl rfl BinV.eql) rfl ?_
            refine RL.q (by first | exact Yld.pickT rfl rfl | exact Yld.pickF rfl rfl) rfl ?_
            exact RL.nil (N.meet (.cons rfl (.cons rfl (.cons rfl (.cons rfl (.cons rfl (.cons rfl (.cons rfl (.cons rfl (.cons rfl (.cons rfl (.cons rfl (.cons rfl (.cons rfl (.cons rfl (.cons rfl (.cons rfl .nil)))))))))))))))) (.cons rfl (.cons rfl (.cons rfl (.cons rfl (.cons rfl (.cons rfl .nil)))))))
          ·
            intro hg55
            refine RL.gskip rfl rfl rfl rfl ?_
            refine RL.gskip rfl rfl rfl rfl ?_
            refine RL.gskip rfl rfl rfl rfl ?_
            refine RL.gskip rfl rfl rfl rfl ?_
            refine RL.gskip rfl rfl rfl rfl ?_
            refine RL.gskip rfl rfl rfl rfl ?_
            refine RL.q (by first | exact Yld.pickT rfl rfl | exact Yld.pickF rfl rfl) rfl ?_
            exact RL.nil (N.meet (.cons rfl (.cons rfl (.cons rfl (.cons rfl (.cons rfl (.cons rfl (.cons rfl (.cons rfl (.cons rfl (.cons rfl (.cons rfl (.cons rfl (.cons rfl (.cons rfl (.cons rfl (.cons rfl .nil)))))))))))))))) (.cons rfl (.cons rfl (.cons rfl (.cons rfl (.cons rfl (.cons rfl .nil)))))))
          refine RL.nil ?_
          refine N.next ?_
          refine W.keep (.cons (k := 2) rfl (.cons (k := 3) rfl (.cons (k := 5) rfl (.cons (k := 62) rfl .nil)))) (.cons (k := 0) rfl (.cons (k := 1) rfl (.cons (k := 102) rfl (.cons (k := 103) rfl (.cons (k := 105) rfl (.cons (k := 130) rfl .nil)))))) ?_
          refine W.cond rfl (fun hc62 => ?_) (fun hc62 => ?_)
          ·
            have hm : a.r.tmod 100 = a.m := by simpa using hc62
            refine W.seq ?_
            refine W.region ?_
            refine RL.q (Yld.fieldAddr fo44_4 rfl) rfl ?_
            refine RL.q (Yld.load1 (c := 102) Tryd.underlying3 rfl rfl rfl (by first | exact single_self _ _ | exact pset_self _ _ _ | assumption) rfl) rfl ?_
            refine RL.q (Yld.bin rfl rfl (by first | exact BinV.rem (by omega) (by omega) | exact BinV.remW (by omega))) rfl ?_
            refine RL.q (Yld.fieldAddr fo44_1 rfl) rfl ?_
            refine RL.q (Yld.load1 (c := 102) Tryd.underlying3 rfl rfl rfl (by first | exact single_self _ _ | exact pset_self _ _ _ | assumption) rfl) rfl ?_
            refine RL.q (Yld.bin rfl rfl BinV.eql) rfl ?_
            refine RL.q (Yld.move rfl) rfl ?_
            refine' RL.and (t := 69) (d := 71) 2 rfl (.cons (k := 2) rfl (.cons (k := 3) rfl (.cons (k := 5) rfl (.cons (k := 62) rfl (.cons (k := 63) rfl (.cons (k := 64) rfl (.cons (k := 65) rfl (.cons (k := 66) rfl (.cons (k := 67) rfl (.cons (k := 68) rfl .nil)))))))))) (.cons (k := 0) rfl (.cons (k := 1) rfl (.cons (k := 102) rfl (.cons (k := 103) rfl (.cons (k := 105) rfl (.cons (k := 130) rfl .nil)))))) ?_ ?_ ?_
            rotate_left 1
            ·
              intro hg69
              refine RL.ge rfl rfl (Eff.call ent11 [1] [1] .nil (awake_ct H1 hT) rfl rfl rfl rfl (by rintro _ _ ⟨_, rfl⟩; rfl)) rfl ?_
              rintro _ _ ⟨_, ⟨rfl, rfl⟩, rfl⟩
              refine RL.q (by first | exact Yld.pickT rfl rfl | exact Yld.pickF rfl rfl) rfl ?_
              exact RL.nil (N.meet (.cons rfl (.cons rfl (.cons rfl (.cons rfl (.cons rfl (.cons rfl (.cons rfl (.cons rfl (.cons rfl (.cons rfl (.cons rfl .nil))))))))))) (.cons rfl (.cons rfl (.cons rfl (.cons rfl (.cons rfl (.cons rfl .nil)))))))
            ·
              intro hg69
              refine RL.gskip rfl rfl rfl rfl ?_
              refine RL.q (by first | exact Yld.pickT rfl rfl | exact Yld.pickF rfl rfl) rfl ?_
              exact RL.nil (N.meet (.cons rfl (.cons rfl (.cons rfl (.cons rfl (.cons rfl (.cons rfl (.cons rfl (.cons rfl (.cons rfl (.cons rfl (.cons rfl .nil))))))))))) (.cons rfl (.cons rfl (.cons rfl (.cons rfl (.cons rfl (.cons rfl .nil)))))))
            refine RL.q (Yld.assign rfl) rfl ?_
            refine RL.nil ?_
            refine N.next ?_
            refine W.keep (.cons (k := 4) rfl .nil) (.cons (k := 0) rfl (.cons (k := 1) rfl (.cons (k := 102) rfl (.cons (k := 103) rfl (.cons (k := 105) rfl (.cons (k := 130) rfl .nil)))))) ?_
            refine W.ret ?_
            refine N.then_ret ?_
            refine N.block_ret ?_
            refine N.then_ret ?_
            exact N.retBy [1] (.cons (.tmp rfl) .nil) rfl rfl rfl rfl ⟨by show Value.bool _ = _; rw [Value.bool.injEq]; simp [hm], rfl⟩
          ·
            have hm : ¬ a.r.tmod 100 = a.m := by simpa using hc62
            refine W.skip ?_
            refine N.next ?_
            refine W.region ?_
            refine RL.q (Yld.fieldAddr fo71_9 rfl) rfl ?_
            refine RL.q (Yld.fieldAddr fo66_3 rfl) rfl ?_
            refine RL.q (Yld.load1 (c := 105) Tryd.underlying54 rfl rfl rfl (by first | exact single_self _ _ | exact pset_self _ _ _ | assumption) rfl) rfl ?_
            refine RL.q (Yld.fieldAddr fo61_9 rfl) rfl ?_
            refine RL.q (Yld.fieldAddr fo59_0 rfl) rfl ?_
            refine RL.e0 (Eff.storeS (c := 103) _ sz54 rfl rfl rfl rfl rfl rfl rfl (by (try simp only [putAt, List.take, List.drop, List.nil_append, List.cons_append, List.append_nil, List.length_cons, List.length_nil, Nat.add_zero, Nat.zero_add, Nat.reduceAdd]); rfl)) ?_
            rintro _ _ rfl
            refine RL.nil ?_
            refine N.block_normal ?_
            refine N.merge 1 130 rfl rfl rfl fun ha1 => ?_
            exact N.famK ⟨z.withO xq xe (tgL z.o a.m a.r), _⟩ ⟨⟨hxt.mono ha1, hn.mono hjoin_l, hll.mono hjoin_l, hq.mono hjoin_l⟩, reach_o hk1 hc2 hlz hn0 hm, hjoin_l⟩ .nil (.cons rfl (.cons rfl .nil)) (.cons rfl (.cons rfl .nil)) (.cons rfl (.cons rfl (.cons rfl .nil)))
      rintro y ⟨hyz, hyr, hsub⟩
      refine W.keep (.cons (k := 2) rfl (.cons (k := 3) rfl .nil)) (.cons (k := 1) rfl (.cons (k := 103) rfl (.cons (k := 0) rfl (.cons (k := 102) rfl (.cons (k := 105) rfl .nil))))) ?_
      refine W.seq ?_
      refine W.region ?_
      refine RL.q (Yld.loadW (c := 102) Tryd.underlying44 rfl sz44 rfl rfl (by first | exact single_self _ _ | exact pset_self _ _ _ | assumption) rfl) rfl ?_
      refine RL.q (Yld.loadW (c := 103) Tryd.underlying61 rfl sz61 rfl rfl (by first | exact single_self _ _ | exact pset_self _ _ _ | assumption) rfl) rfl ?_
      refine RL.e (Eff.call ent23 [1] [1] (.cons rfl (.cons rfl .nil)) (reached_ct a y.z y.H hyz) rfl rfl rfl rfl (by rintro _ _ ⟨_, rfl⟩; rfl)) rfl ?_
      rintro _ _ ⟨_, ⟨rfl, rfl⟩, rfl⟩
      refine RL.q (Yld.move rfl) rfl ?_
      refine' RL.and (t := 80) (d := 82) 2 rfl (.cons (k := 2) rfl (.cons (k := 3) rfl (.cons (k := 77) rfl (.cons (k := 78) rfl (.cons (k := 79) rfl .nil))))) (.cons (k := 0) rfl (.cons (k := 1) rfl (.cons (k := 102) rfl (.cons (k := 103) rfl (.cons (k := 105) rfl .nil))))) ?_ ?_ ?_
      rotate_left 1
      ·
        intro hg80
        refine RL.ge rfl rfl (Eff.call ent11 [1] [1] .nil (awake_ct y.H (hT.mono hsub)) rfl rfl rfl rfl (by rintro _ _ ⟨_, rfl⟩; rfl)) rfl ?_
        rintro _ _ ⟨_, ⟨rfl, rfl⟩, rfl⟩
        refine RL.q (by first | exact Yld.pickT rfl rfl | exact Yld.pickF rfl rfl) rfl ?_
        exact RL.nil (N.meet (.cons rfl (.cons rfl (.cons rfl (.cons rfl (.cons rfl (.cons rfl .nil)))))) (.cons rfl (.cons rfl (.cons rfl (.cons rfl (.cons rfl .nil))))))
      ·
        intro hg80
        refine RL.gskip rfl rfl rfl rfl ?_
        refine RL.q (by first | exact Yld.pickT rfl rfl | exact Yld.pickF rfl rfl) rfl ?_
        exact RL.nil (N.meet (.cons rfl (.cons rfl (.cons rfl (.cons rfl (.cons rfl (.cons rfl .nil)))))) (.cons rfl (.cons rfl (.cons rfl (.cons rfl (.cons rfl .nil))))))
      refine RL.q (Yld.assign rfl) rfl ?_
      refine RL.nil ?_
      refine N.next ?_
      refine W.keep (.cons (k := 4) rfl .nil) (.cons (k := 0) rfl (.cons (k := 1) rfl (.cons (k := 102) rfl (.cons (k := 103) rfl (.cons (k := 105) rfl .nil))))) ?_
      refine W.ret ?_
      refine N.imp (Imp.sub (c := 1) rfl hsub) ?_
      exact N.retBy [1] (.cons (.tmp rfl) .nil) rfl rfl rfl rfl ⟨by show Value.bool _ = _; rw [Value.bool.injEq, hyr]; rfl, rfl⟩

end Go.Proofs.YtdblglgnhjankaaDoor
