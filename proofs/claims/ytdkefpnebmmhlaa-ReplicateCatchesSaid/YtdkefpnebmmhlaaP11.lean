/- The laws. Written by program (walk2.py). -/
import Derived.Test.YtdkefpnebmmhlaaP10
namespace Go.Proofs.Ytdkefpnebmmhlaa
open SL Cfg Rep
set_option linter.unusedVariables false
set_option linter.unusedSimpArgs false
theorem ent9 : Ent Try.prog 9 := ⟨_, _, Try.func9, by kernel_rfl, rfl⟩
theorem ent10 : Ent Try.prog 10 := ⟨_, _, Try.func10, by kernel_rfl, rfl⟩
theorem ent17 : Ent Try.prog 17 := ⟨_, _, Try.func17, by kernel_rfl, rfl⟩
theorem ent19 : Ent Try.prog 19 := ⟨_, _, Try.func19, by kernel_rfl, rfl⟩
theorem ent20 : Ent Try.prog 20 := ⟨_, _, Try.func20, by kernel_rfl, rfl⟩
theorem ent21 : Ent Try.prog 21 := ⟨_, _, Try.func21, by kernel_rfl, rfl⟩
theorem ent22 : Ent Try.prog 22 := ⟨_, _, Try.func22, by kernel_rfl, rfl⟩
theorem ent24 : Ent Try.prog 24 := ⟨_, _, Try.func24, by kernel_rfl, rfl⟩
theorem Rep.ag_quor {o n : List Int} {q : Int → Int} {V : List Int} (l : List Int) : ∀ b, l.foldl (agStep o n q V) b = b ∨ ∃ v, l.foldl (agStep o n q V) b = q v ∧ quor o n (V.filter fun r => !decide (q r < q v)) = true := by
  induction l with
  | nil => exact fun b => .inl rfl
  | cons a r ih =>
    intro b
    rw [List.foldl_cons]
    rcases ih (agStep o n q V b a) with h | h
    · unfold agStep at h ⊢
      split at h
      · rename_i h1; rw [if_pos h1]; exact .inr ⟨a, h, h1.2⟩
      · rename_i h1; rw [if_neg h1]; exact .inl h
    · exact .inr h
theorem Rep.cmt_ge (ms : List Mb) (o n : List Int) (g : Lg) (tm cm : Int) : cm ≤ cmt ms o n g tm cm := by
  unfold cmt; split
  · rename_i h; omega
  · omega
theorem Rep.cmt_quor {ms : List Mb} {o n : List Int} {g : Lg} {tm cm : Int} (h0 : 0 ≤ cm) (h : cmt ms o n g tm cm ≠ cm) : g.term (cmt ms o n g tm cm) = (tm, true) ∧ quor o n ((setL (o ++ n)).filter fun z => decide (cmt ms o n g tm cm ≤ qf ms g.last.1 z)) = true := by
  have hc : cmt ms o n g tm cm = agr o n (qf ms g.last.1) ∧ (cm < agr o n (qf ms g.last.1) ∧ (g.term (agr o n (qf ms g.last.1))).2 = true) ∧ (g.term (agr o n (qf ms g.last.1))).1 = tm := by
    unfold cmt at h ⊢
    split at h
    · rename_i h1; rw [if_pos h1]; exact ⟨rfl, h1⟩
    · exact absurd rfl h
  obtain ⟨h1, ⟨h2, h3⟩, h4⟩ := hc
  rw [h1]
  refine ⟨Prod.ext h4 h3, ?_⟩
  rcases ag_quor (o := o) (n := n) (q := qf ms g.last.1) (V := setL (o ++ n)) (setL (o ++ n)) 0 with h5 | ⟨v, h5, h6⟩
  · unfold agr at h2; omega
  · have h7 : agr o n (qf ms g.last.1) = qf ms g.last.1 v := h5
    rw [h7, ← h6]
    congr 1
    apply List.filter_congr
    intro z _
    rw [Bool.eq_iff_iff]; simp

set_option maxRecDepth 100000 in
set_option maxHeartbeats 3200000 in
theorem batches_ct (ops : List OpS) (H1 : PH) (p : Option Addr) (c : Nat) (hS : Sl H1 p c 4 (ops.map OpS.cells)) (hL : ∀ o ∈ ops, Sl H1 o.p o.c 1 (iz o.l)) (s : Int) (hs0 : 0 ≤ s) (hs1 : s ≤ 255) (bs : List Int) (hbs : ∀ b ∈ bs, 0 ≤ b ∧ b ≤ 255) (pb : Option Addr) (cb : Nat) (hB : Sl H1 pb cb 1 (by8 bs)) (a sz : Int) : Ct Try.prog 4 [.slice p ops.length c, .int .u8 s, .slice pb bs.length cb, .int .i64 a, .int .i64 sz] [H1] (fun v Hs => v = .bool true ∧ Hs = [H1]) := by
  refine Ct.body Try.func4 rfl Try.ntmps4 rfl ?_
  intro E F
  have hmx := hS.len_le
  simp only [List.length_map, maxLen] at hmx
  have hmb := hB.len_le
  simp only [by8_len, maxLen] at hmb
  refine W.seq ?_
  refine W.region ?_
  refine RL.q (Yld.assign rfl) rfl ?_
  refine RL.nil ?_
  refine N.next ?_
  refine W.seq ?_
  refine W.seq ?_
  refine W.region ?_
  refine RL.e (Eff.call ent9 [] [] .nil awake_ct rfl rfl rfl rfl (by rintro _ _ ⟨_, rfl⟩; rfl)) rfl ?_
  rintro _ _ ⟨_, ⟨rfl, rfl⟩, rfl⟩
  refine RL.q (by first | exact Yld.notD rfl | exact Yld.not rfl) rfl ?_
  refine RL.nil ?_
  refine N.next ?_
  first | (refine W.as (t := 27) rfl (boolF (by first | assumption | omega | (simp; done))) ?_; refine W.condF rfl ?_) | refine W.condF rfl ?_
  refine W.skip ?_
  refine N.next ?_
  refine W.seq ?_
  refine W.seq ?_
  refine W.region ?_
  refine RL.q (Yld.move rfl) rfl ?_
  refine RL.e (Eff.call ent10 [1] [1] (.cons rfl (.cons rfl .nil)) (few_ct ops _ _ _ hS hL 16) rfl rfl rfl rfl (by rintro _ _ ⟨_, rfl⟩; rfl)) rfl ?_
  rintro _ _ ⟨_, ⟨rfl, rfl⟩, rfl⟩
  refine RL.q (by first | exact Yld.notD rfl | exact Yld.not rfl) rfl ?_
  refine RL.q (Yld.move rfl) rfl ?_
  refine' RL.or (t := 31) (d := 35) 4 rfl (.cons (k := 0) rfl (.cons (k := 1) rfl (.cons (k := 2) rfl (.cons (k := 3) rfl (.cons (k := 4) rfl (.cons (k := 10) rfl (.cons (k := 26) rfl (.cons (k := 27) rfl (.cons (k := 28) rfl (.cons (k := 29) rfl (.cons (k := 30) rfl .nil))))))))))) (.cons (k := 0) rfl (.cons (k := 1) rfl .nil)) ?_ ?_ ?_
  rotate_left 1
  ·
    intro hg31
    refine RL.gq rfl rfl (Yld.move rfl) rfl ?_
    refine RL.gq rfl rfl (Yld.lenSl Try.underlying38 rfl) rfl ?_
    refine RL.gq rfl rfl (Yld.bin rfl rfl BinV.gtr) rfl ?_
    refine RL.q (by first | exact Yld.pickT rfl rfl | exact Yld.pickF rfl rfl) rfl ?_
    exact RL.nil (N.meet (.cons rfl (.cons rfl (.cons rfl (.cons rfl (.cons rfl (.cons rfl (.cons rfl (.cons rfl (.cons rfl (.cons rfl (.cons rfl (.cons rfl .nil)))))))))))) (.cons rfl (.cons rfl .nil)))
  ·
    intro hg31
    refine RL.gskip rfl rfl rfl rfl ?_
    refine RL.gskip rfl rfl rfl rfl ?_
    refine RL.gskip rfl rfl rfl rfl ?_
    refine RL.q (by first | exact Yld.pickT rfl rfl | exact Yld.pickF rfl rfl) rfl ?_
    exact RL.nil (N.meet (.cons rfl (.cons rfl (.cons rfl (.cons rfl (.cons rfl (.cons rfl (.cons rfl (.cons rfl (.cons rfl (.cons rfl (.cons rfl (.cons rfl .nil)))))))))))) (.cons rfl (.cons rfl .nil)))
  refine RL.nil ?_
  refine N.next ?_
  refine W.keep (.cons (k := 0) rfl (.cons (k := 1) rfl (.cons (k := 2) rfl (.cons (k := 3) rfl (.cons (k := 4) rfl (.cons (k := 35) rfl .nil)))))) (.cons (k := 0) rfl (.cons (k := 1) rfl .nil)) ?_
  refine W.cond rfl (fun hc35 => ?_) (fun hc35 => ?_)
  ·
    refine W.seq ?_
    refine W.region ?_
    refine RL.q (Yld.assign rfl) rfl ?_
    refine RL.nil ?_
    refine N.next ?_
    refine W.keep (.cons (k := 10) rfl .nil) (.cons (k := 0) rfl (.cons (k := 1) rfl .nil)) ?_
    refine W.ret ?_
    refine N.then_ret ?_
    exact N.retBy [1] (.cons (.tmp rfl) .nil) rfl rfl rfl rfl ⟨rfl, rfl⟩
  ·
    simp only [Bool.or_eq_false_iff, Bool.not_eq_false', decide_eq_true_eq, decide_eq_false_iff_not, Classical.not_not] at hc35
    have hok := hc35.1.1
    have hlb : bs.length ≤ 30 := by omega
    have hgl := lgs_ok hs0 hs1 hbs bs.length (by omega)
    have hll := Lg.last_ix hgl.1
    have hi0 := hgl.1.i0
    have hlast : (lgs s bs bs.length).1.last.1 ≤ 1099511627776 := by omega
    have hKr := runs_ok hok (MOK.nil.chg hlast (by simp) : MOK (chg 1 (lgs s bs bs.length).1.last.1 [] [2, 3, 4, 104]))
    refine W.skip ?_
    refine N.next ?_
    refine W.seq ?_
    refine W.region ?_
    refine RL.q (Yld.move rfl) rfl ?_
    refine RL.q (Yld.move rfl) rfl ?_
    refine RL.e (Eff.call ent15 [1] [1, 260, 261, 262] (.cons rfl (.cons rfl .nil)) (logs_ct s hs0 hs1 bs hbs (by omega) _ _ _ hB) rfl rfl rfl rfl (by rintro _ _ ⟨_, _, _, _, _, _, _, _, _, _, rfl⟩; rfl)) rfl ?_
    rintro _ _ ⟨_, ⟨lb, Hl, pl, cl, Hr, pr, cr, rfl, hOl, hTr, rfl⟩, rfl⟩
    refine RL.q (Yld.move rfl) rfl ?_
    refine RL.q (Yld.extract rfl rfl) rfl ?_
    refine RL.q (Yld.extract rfl rfl) rfl ?_
    refine RL.e (Eff.alloc 112 zc42) rfl ?_
    rintro _ _ ⟨b12, rfl, rfl⟩
    refine RL.q (Yld.assign rfl) rfl ?_
    refine RL.e0 (Eff.storeS (c := 112) _ sz42 rfl rfl rfl rfl rfl rfl rfl (by (try simp only [putAt, List.take, List.drop, List.nil_append, List.cons_append, List.append_nil, List.length_cons, List.length_nil, Nat.add_zero, Nat.zero_add, Nat.reduceAdd]); rfl)) ?_
    rintro _ _ rfl
    refine RL.nil ?_
    refine N.next ?_
    refine W.keep (.cons (k := 0) rfl (.cons (k := 3) rfl (.cons (k := 4) rfl (.cons (k := 11) rfl (.cons (k := 12) rfl .nil))))) (.cons (k := 0) rfl (.cons (k := 1) rfl (.cons (k := 112) rfl (.cons (k := 260) rfl (.cons (k := 261) rfl (.cons (k := 262) rfl .nil)))))) ?_
    refine W.seq ?_
    refine W.region ?_
    refine RL.q (Yld.loadW (c := 112) Try.underlying42 rfl sz42 rfl rfl (by first | exact single_self _ _ | exact pset_self _ _ _ | assumption) rfl) rfl ?_
    refine RL.e (Eff.call ent16 [262] [262] (.cons rfl .nil) (rllast_ct (lgs s bs bs.length).1 hgl.1 _ _ _ hTr) rfl rfl rfl rfl (by rintro _ _ ⟨_, rfl⟩; rfl)) rfl ?_
    rintro _ _ ⟨_, ⟨rfl, rfl⟩, rfl⟩
    refine RL.q (Yld.move rfl) rfl ?_
    refine RL.q (Yld.extract rfl rfl) rfl ?_
    refine RL.q (Yld.extract rfl rfl) rfl ?_
    refine RL.q (Yld.assign rfl) rfl ?_
    refine RL.q (Yld.assign rfl) rfl ?_
    refine RL.nil ?_
    refine N.next ?_
    refine W.keep (.cons (k := 0) rfl (.cons (k := 3) rfl (.cons (k := 4) rfl (.cons (k := 11) rfl (.cons (k := 12) rfl (.cons (k := 13) rfl .nil)))))) (.cons (k := 0) rfl (.cons (k := 1) rfl (.cons (k := 112) rfl (.cons (k := 260) rfl (.cons (k := 261) rfl (.cons (k := 262) rfl .nil)))))) ?_
    refine W.seq ?_
    refine W.region ?_
    refine RL.q (Yld.move rfl) rfl ?_
    refine RL.q (Yld.move rfl) rfl ?_
    refine RL.e (Eff.call ent17 [1] [1, 263, 264, 265] (.cons rfl (.cons rfl .nil)) (run_ct (lgs s bs bs.length).1.last.1 hlast ops _ _ _ hS hL hok) rfl rfl rfl rfl (by rintro _ _ ⟨_, _, _, _, _, _, _, _, _, _, _, _, rfl⟩; rfl)) rfl ?_
    rintro _ _ ⟨_, ⟨bp, bm, es, ck, m, Hn, pn, cn, rfl, hM, hR, hSn, rfl⟩, rfl⟩
    refine RL.q (Yld.move rfl) rfl ?_
    refine RL.q (Yld.extract rfl rfl) rfl ?_
    refine RL.q (Yld.extract rfl rfl) rfl ?_
    refine RL.q (Yld.extract rfl rfl) rfl ?_
    refine RL.e (Eff.alloc 116 zc30) rfl ?_
    rintro _ _ ⟨b16, rfl, rfl⟩
    refine RL.q (Yld.assign rfl) rfl ?_
    refine RL.e0 (Eff.storeS (c := 116) _ sz30 rfl rfl rfl rfl rfl rfl rfl (by (try simp only [putAt, List.take, List.drop, List.nil_append, List.cons_append, List.append_nil, List.length_cons, List.length_nil, Nat.add_zero, Nat.zero_add, Nat.reduceAdd]); rfl)) ?_
    rintro _ _ rfl
    refine RL.q (Yld.assign rfl) rfl ?_
    refine RL.nil ?_
    refine N.next ?_
    refine W.keep (.cons (k := 3) rfl (.cons (k := 4) rfl (.cons (k := 11) rfl (.cons (k := 12) rfl (.cons (k := 15) rfl (.cons (k := 16) rfl (.cons (k := 17) rfl .nil))))))) (.cons (k := 0) rfl (.cons (k := 1) rfl (.cons (k := 112) rfl (.cons (k := 116) rfl (.cons (k := 260) rfl (.cons (k := 261) rfl (.cons (k := 262) rfl (.cons (k := 263) rfl (.cons (k := 264) rfl (.cons (k := 265) rfl .nil)))))))))) ?_
    refine W.seq ?_
    refine W.seq ?_
    refine W.region ?_
    refine RL.q (Yld.move rfl) rfl ?_
    refine RL.q (by first | exact Yld.notD rfl | exact Yld.not rfl) rfl ?_
    refine RL.nil ?_
    refine N.next ?_
    first | (refine W.as (t := 55) rfl (boolF (by first | assumption | omega | (simp; done))) ?_; refine W.condF rfl ?_) | refine W.condF rfl ?_
    refine W.skip ?_
    refine N.next ?_
    refine W.seq ?_
    refine W.region ?_
    refine RL.q (Yld.move rfl) rfl ?_
    refine RL.q (Yld.move rfl) rfl ?_
    refine RL.q (Yld.move rfl) rfl ?_
    refine RL.q (Yld.move rfl) rfl ?_
    refine RL.e (Eff.call ent18 [263, 264, 260, 261] [263, 264, 260, 261, 266] (.cons rfl (.cons rfl (.cons rfl (.cons rfl .nil)))) (pbatch_ct bp bm es ck m (ops.foldl OpS.run (chg 1 ((lgs s bs bs.length).1.last.1) [] [2, 3, 4, 104])) hM hR hKr lb (lgs s bs bs.length).1 hgl.1 Hl pl cl hOl a sz) rfl rfl rfl rfl (by rintro _ _ ⟨_, _, _, _, _, rfl⟩; rfl)) rfl ?_
    rintro _ _ ⟨_, ⟨Hb, pb2, cb2, rfl, hOb, rfl⟩, rfl⟩
    refine RL.q (Yld.move rfl) rfl ?_
    refine RL.q (Yld.extract rfl rfl) rfl ?_
    refine RL.q (Yld.extract rfl rfl) rfl ?_
    refine RL.q (Yld.extract rfl rfl) rfl ?_
    refine RL.q (Yld.extract rfl rfl) rfl ?_
    refine RL.q (Yld.assign rfl) rfl ?_
    refine RL.q (Yld.assign rfl) rfl ?_
    refine RL.q (Yld.assign rfl) rfl ?_
    refine RL.q (Yld.assign rfl) rfl ?_
    refine RL.nil ?_
    refine N.next ?_
    refine W.keep (.cons (k := 3) rfl (.cons (k := 4) rfl (.cons (k := 12) rfl (.cons (k := 16) rfl (.cons (k := 18) rfl (.cons (k := 19) rfl (.cons (k := 20) rfl (.cons (k := 21) rfl .nil)))))))) (.cons (k := 0) rfl (.cons (k := 1) rfl (.cons (k := 112) rfl (.cons (k := 116) rfl (.cons (k := 260) rfl (.cons (k := 261) rfl (.cons (k := 262) rfl (.cons (k := 263) rfl (.cons (k := 264) rfl (.cons (k := 265) rfl (.cons (k := 266) rfl .nil))))))))))) ?_
    refine W.seq ?_
    refine W.region ?_
    refine RL.q (Yld.loadW (c := 116) Try.underlying30 rfl sz30 rfl rfl (by first | exact single_self _ _ | exact pset_self _ _ _ | assumption) rfl) rfl ?_
    refine RL.q (Yld.loadW (c := 112) Try.underlying42 rfl sz42 rfl rfl (by first | exact single_self _ _ | exact pset_self _ _ _ | assumption) rfl) rfl ?_
    refine RL.q (Yld.move rfl) rfl ?_
    refine RL.q (Yld.move rfl) rfl ?_
    refine RL.e (Eff.call ent19 [265, 262] [265, 262, 267] (.cons rfl (.cons rfl (.cons rfl (.cons rfl .nil)))) (rbatch_ct (ops.foldl OpS.run (chg 1 ((lgs s bs bs.length).1.last.1) [] [2, 3, 4, 104])) _ _ _ hSn hKr (lgs s bs bs.length).1 hgl.1 _ _ _ hTr a sz) rfl rfl rfl rfl (by rintro _ _ ⟨_, _, _, _, _, rfl⟩; rfl)) rfl ?_
    rintro _ _ ⟨_, ⟨Hc, pc, cc, rfl, hOc, rfl⟩, rfl⟩
    refine RL.q (Yld.move rfl) rfl ?_
    refine RL.q (Yld.extract rfl rfl) rfl ?_
    refine RL.q (Yld.extract rfl rfl) rfl ?_
    refine RL.q (Yld.extract rfl rfl) rfl ?_
    refine RL.q (Yld.extract rfl rfl) rfl ?_
    refine RL.q (Yld.assign rfl) rfl ?_
    refine RL.q (Yld.assign rfl) rfl ?_
    refine RL.q (Yld.assign rfl) rfl ?_
    refine RL.q (Yld.assign rfl) rfl ?_
    refine RL.nil ?_
    refine N.next ?_
    refine W.keep (.cons (k := 18) rfl (.cons (k := 19) rfl (.cons (k := 20) rfl (.cons (k := 21) rfl (.cons (k := 22) rfl (.cons (k := 23) rfl (.cons (k := 24) rfl (.cons (k := 25) rfl .nil)))))))) (.cons (k := 0) rfl (.cons (k := 1) rfl (.cons (k := 112) rfl (.cons (k := 116) rfl (.cons (k := 260) rfl (.cons (k := 261) rfl (.cons (k := 262) rfl (.cons (k := 263) rfl (.cons (k := 264) rfl (.cons (k := 265) rfl (.cons (k := 266) rfl (.cons (k := 267) rfl .nil)))))))))))) ?_
    refine W.seq ?_
    refine W.region ?_
    refine RL.q (Yld.move rfl) rfl ?_
    refine RL.q (Yld.move rfl) rfl ?_
    refine RL.q (Yld.bin rfl rfl BinV.eql) rfl ?_
    refine RL.q (Yld.move rfl) rfl ?_
    refine' RL.and (t := 79) (d := 83) 4 rfl (.cons (k := 18) rfl (.cons (k := 19) rfl (.cons (k := 20) rfl (.cons (k := 21) rfl (.cons (k := 22) rfl (.cons (k := 23) rfl (.cons (k := 24) rfl (.cons (k := 25) rfl (.cons (k := 76) rfl (.cons (k := 77) rfl (.cons (k := 78) rfl .nil))))))))))) (.cons (k := 0) rfl (.cons (k := 1) rfl (.cons (k := 112) rfl (.cons (k := 116) rfl (.cons (k := 260) rfl (.cons (k := 261) rfl (.cons (k := 262) rfl (.cons (k := 263) rfl (.cons (k := 264) rfl (.cons (k := 265) rfl (.cons (k := 266) rfl (.cons (k := 267) rfl .nil)))))))))))) ?_ ?_ ?_
    rotate_left 1
    ·
      intro hg79
      refine RL.gq rfl rfl (Yld.move rfl) rfl ?_
      refine RL.gq rfl rfl (Yld.move rfl) rfl ?_
      refine RL.gq rfl rfl (Yld.bin rfl rfl BinV.eql) rfl ?_
      refine RL.q (by first | exact Yld.pickT rfl rfl | exact Yld.pickF rfl rfl) rfl ?_
      exact RL.nil (N.meet (.cons rfl (.cons rfl (.cons rfl (.cons rfl (.cons rfl (.cons rfl (.cons rfl (.cons rfl (.cons rfl (.cons rfl (.cons rfl (.cons rfl .nil)))))))))))) (.cons rfl (.cons rfl (.cons rfl (.cons rfl (.cons rfl (.cons rfl (.cons rfl (.cons rfl (.cons rfl (.cons rfl (.cons rfl (.cons rfl .nil)))))))))))))
    ·
      intro hg79
      refine RL.gskip rfl rfl rfl rfl ?_
      refine RL.gskip rfl rfl rfl rfl ?_
      refine RL.gskip rfl rfl rfl rfl ?_
      refine RL.q (by first | exact Yld.pickT rfl rfl | exact Yld.pickF rfl rfl) rfl ?_
      exact RL.nil (N.meet (.cons rfl (.cons rfl (.cons rfl (.cons rfl (.cons rfl (.cons rfl (.cons rfl (.cons rfl (.cons rfl (.cons rfl (.cons rfl (.cons rfl .nil)))))))))))) (.cons rfl (.cons rfl (.cons rfl (.cons rfl (.cons rfl (.cons rfl (.cons rfl (.cons rfl (.cons rfl (.cons rfl (.cons rfl (.cons rfl .nil)))))))))))))
    refine RL.q (Yld.move rfl) rfl ?_
    refine' RL.and (t := 84) (d := 88) 4 rfl (.cons (k := 18) rfl (.cons (k := 19) rfl (.cons (k := 20) rfl (.cons (k := 21) rfl (.cons (k := 22) rfl (.cons (k := 23) rfl (.cons (k := 24) rfl (.cons (k := 25) rfl (.cons (k := 76) rfl (.cons (k := 77) rfl (.cons (k := 78) rfl (.cons (k := 83) rfl .nil)))))))))))) (.cons (k := 0) rfl (.cons (k := 1) rfl (.cons (k := 112) rfl (.cons (k := 116) rfl (.cons (k := 260) rfl (.cons (k := 261) rfl (.cons (k := 262) rfl (.cons (k := 263) rfl (.cons (k := 264) rfl (.cons (k := 265) rfl (.cons (k := 266) rfl (.cons (k := 267) rfl .nil)))))))))))) ?_ ?_ ?_
    rotate_left 1
    ·
      intro hg84
      refine RL.gq rfl rfl (Yld.move rfl) rfl ?_
      refine RL.gq rfl rfl (Yld.move rfl) rfl ?_
      refine RL.gq rfl rfl (Yld.bin rfl rfl (BinV.eqlB Try.underlying4)) rfl ?_
      refine RL.q (by first | exact Yld.pickT rfl rfl | exact Yld.pickF rfl rfl) rfl ?_
      exact RL.nil (N.meet (.cons rfl (.cons rfl (.cons rfl (.cons rfl (.cons rfl (.cons rfl (.cons rfl (.cons rfl (.cons rfl (.cons rfl (.cons rfl (.cons rfl (.cons rfl .nil))))))))))))) (.cons rfl (.cons rfl (.cons rfl (.cons rfl (.cons rfl (.cons rfl (.cons rfl (.cons rfl (.cons rfl (.cons rfl (.cons rfl (.cons rfl .nil)))))))))))))
    ·
      intro hg84
      refine RL.gskip rfl rfl rfl rfl ?_
      refine RL.gskip rfl rfl rfl rfl ?_
      refine RL.gskip rfl rfl rfl rfl ?_
      refine RL.q (by first | exact Yld.pickT rfl rfl | exact Yld.pickF rfl rfl) rfl ?_
      exact RL.nil (N.meet (.cons rfl (.cons rfl (.cons rfl (.cons rfl (.cons rfl (.cons rfl (.cons rfl (.cons rfl (.cons rfl (.cons rfl (.cons rfl (.cons rfl (.cons rfl .nil))))))))))))) (.cons rfl (.cons rfl (.cons rfl (.cons rfl (.cons rfl (.cons rfl (.cons rfl (.cons rfl (.cons rfl (.cons rfl (.cons rfl (.cons rfl .nil)))))))))))))
    refine RL.q (Yld.move rfl) rfl ?_
    refine' RL.and (t := 89) (d := 93) 4 rfl (.cons (k := 18) rfl (.cons (k := 19) rfl (.cons (k := 20) rfl (.cons (k := 21) rfl (.cons (k := 22) rfl (.cons (k := 23) rfl (.cons (k := 24) rfl (.cons (k := 25) rfl (.cons (k := 76) rfl (.cons (k := 77) rfl (.cons (k := 78) rfl (.cons (k := 83) rfl (.cons (k := 88) rfl .nil))))))))))))) (.cons (k := 0) rfl (.cons (k := 1) rfl (.cons (k := 112) rfl (.cons (k := 116) rfl (.cons (k := 260) rfl (.cons (k := 261) rfl (.cons (k := 262) rfl (.cons (k := 263) rfl (.cons (k := 264) rfl (.cons (k := 265) rfl (.cons (k := 266) rfl (.cons (k := 267) rfl .nil)))))))))))) ?_ ?_ ?_
    rotate_left 1
    ·
      intro hg89
      refine RL.gq rfl rfl (Yld.move rfl) rfl ?_
      refine RL.gq rfl rfl (Yld.move rfl) rfl ?_
      refine RL.ge rfl rfl (Eff.call ent20 [266, 267] [266, 267] (.cons rfl (.cons rfl .nil)) (sameE_ct _ _ _ _ hOb.sl _ _ _ _ hOc.sl) rfl rfl rfl rfl (by rintro _ _ ⟨_, rfl⟩; rfl)) rfl ?_
      rintro _ _ ⟨_, ⟨rfl, rfl⟩, rfl⟩
      refine RL.q (by first | exact Yld.pickT rfl rfl | exact Yld.pickF rfl rfl) rfl ?_
      exact RL.nil (N.meet (.cons rfl (.cons rfl (.cons rfl (.cons rfl (.cons rfl (.cons rfl (.cons rfl (.cons rfl (.cons rfl (.cons rfl (.cons rfl (.cons rfl (.cons rfl (.cons rfl .nil)))))))))))))) (.cons rfl (.cons rfl (.cons rfl (.cons rfl (.cons rfl (.cons rfl (.cons rfl (.cons rfl (.cons rfl (.cons rfl (.cons rfl (.cons rfl .nil)))))))))))))
    ·
      intro hg89
      refine RL.gskip rfl rfl rfl rfl ?_
      refine RL.gskip rfl rfl rfl rfl ?_
      refine RL.gskip rfl rfl rfl rfl ?_
      refine RL.q (by first | exact Yld.pickT rfl rfl | exact Yld.pickF rfl rfl) rfl ?_
      exact RL.nil (N.meet (.cons rfl (.cons rfl (.cons rfl (.cons rfl (.cons rfl (.cons rfl (.cons rfl (.cons rfl (.cons rfl (.cons rfl (.cons rfl (.cons rfl (.cons rfl (.cons rfl .nil)))))))))))))) (.cons rfl (.cons rfl (.cons rfl (.cons rfl (.cons rfl (.cons rfl (.cons rfl (.cons rfl (.cons rfl (.cons rfl (.cons rfl (.cons rfl .nil)))))))))))))
    refine RL.q (Yld.assign rfl) rfl ?_
    refine RL.nil ?_
    refine N.next ?_
    refine W.keep (.cons (k := 10) rfl .nil) (.cons (k := 0) rfl (.cons (k := 1) rfl (.cons (k := 112) rfl (.cons (k := 116) rfl (.cons (k := 260) rfl (.cons (k := 261) rfl (.cons (k := 262) rfl (.cons (k := 263) rfl (.cons (k := 264) rfl (.cons (k := 265) rfl (.cons (k := 266) rfl (.cons (k := 267) rfl .nil)))))))))))) ?_
    refine W.ret ?_
    exact N.retBy [1] (.cons (.tmp rfl) .nil) rfl rfl rfl rfl ⟨by show Value.bool _ = _; rw [Value.bool.injEq]; simp, rfl⟩

set_option maxRecDepth 100000 in
set_option maxHeartbeats 3200000 in
theorem commits_ct (ops : List OpS) (H1 : PH) (p : Option Addr) (c : Nat) (hS : Sl H1 p c 4 (ops.map OpS.cells)) (hL : ∀ o ∈ ops, Sl H1 o.p o.c 1 (iz o.l)) (s : Int) (hs0 : 0 ≤ s) (hs1 : s ≤ 255) (bs : List Int) (hbs : ∀ b ∈ bs, 0 ≤ b ∧ b ≤ 255) (pb : Option Addr) (cb : Nat) (hB : Sl H1 pb cb 1 (by8 bs)) (x : Cf) (hx : x.In H1) (tm cm : Int) (hcm2 : -9223372036854775808 ≤ cm ∧ cm ≤ 9223372036854775807) : Ct Try.prog 5 [.slice p ops.length c, .int .u8 s, .slice pb bs.length cb, .agg [.slice x.po x.o.length x.co, .slice x.pn x.n.length x.cn, .slice x.pl x.l.length x.cl].toArray, .int .i64 tm, .int .i64 cm] [H1] (fun v Hs => v = .bool true ∧ Hs = [H1]) := by
  refine Ct.body Try.func5 rfl Try.ntmps5 rfl ?_
  intro E F
  have hmx := hS.len_le
  simp only [List.length_map, maxLen] at hmx
  have hmb := hB.len_le
  simp only [by8_len, maxLen] at hmb
  refine W.seq ?_
  refine W.region ?_
  refine RL.e (Eff.box 109 _ rfl rfl) rfl ?_
  rintro _ _ ⟨b9, rfl, rfl⟩
  refine RL.q (Yld.assign rfl) rfl ?_
  refine RL.nil ?_
  refine N.next ?_
  refine W.seq ?_
  refine W.seq ?_
  refine W.region ?_
  refine RL.e (Eff.call ent9 [] [] .nil awake_ct rfl rfl rfl rfl (by rintro _ _ ⟨_, rfl⟩; rfl)) rfl ?_
  rintro _ _ ⟨_, ⟨rfl, rfl⟩, rfl⟩
  refine RL.q (by first | exact Yld.notD rfl | exact Yld.not rfl) rfl ?_
  refine RL.nil ?_
  refine N.next ?_
  first | (refine W.as (t := 27) rfl (boolF (by first | assumption | omega | (simp; done))) ?_; refine W.condF rfl ?_) | refine W.condF rfl ?_
  refine W.skip ?_
  refine N.next ?_
  refine W.keep (.cons (k := 0) rfl (.cons (k := 1) rfl (.cons (k := 2) rfl (.cons (k := 4) rfl (.cons (k := 5) rfl (.cons (k := 9) rfl .nil)))))) (.cons (k := 0) rfl (.cons (k := 1) rfl (.cons (k := 109) rfl .nil))) ?_
  refine W.seq ?_
  refine W.seq ?_
  refine W.region ?_
  refine RL.q (Yld.move rfl) rfl ?_
  refine RL.e (Eff.call ent10 [1] [1] (.cons rfl (.cons rfl .nil)) (few_ct ops _ _ _ hS hL 16) rfl rfl rfl rfl (by rintro _ _ ⟨_, rfl⟩; rfl)) rfl ?_
  rintro _ _ ⟨_, ⟨rfl, rfl⟩, rfl⟩
  refine RL.q (by first | exact Yld.notD rfl | exact Yld.not rfl) rfl ?_
  refine RL.q (Yld.move rfl) rfl ?_
  refine' RL.or (t := 31) (d := 35) 4 rfl (.cons (k := 0) rfl (.cons (k := 1) rfl (.cons (k := 2) rfl (.cons (k := 4) rfl (.cons (k := 5) rfl (.cons (k := 9) rfl (.cons (k := 28) rfl (.cons (k := 29) rfl (.cons (k := 30) rfl .nil))))))))) (.cons (k := 0) rfl (.cons (k := 1) rfl (.cons (k := 109) rfl .nil))) ?_ ?_ ?_
  rotate_left 1
  ·
    intro hg31
    refine RL.gq rfl rfl (Yld.move rfl) rfl ?_
    refine RL.gq rfl rfl (Yld.lenSl Try.underlying38 rfl) rfl ?_
    refine RL.gq rfl rfl (Yld.bin rfl rfl BinV.gtr) rfl ?_
    refine RL.q (by first | exact Yld.pickT rfl rfl | exact Yld.pickF rfl rfl) rfl ?_
    exact RL.nil (N.meet (.cons rfl (.cons rfl (.cons rfl (.cons rfl (.cons rfl (.cons rfl (.cons rfl (.cons rfl (.cons rfl (.cons rfl .nil)))))))))) (.cons rfl (.cons rfl (.cons rfl .nil))))
  ·
    intro hg31
    refine RL.gskip rfl rfl rfl rfl ?_
    refine RL.gskip rfl rfl rfl rfl ?_
    refine RL.gskip rfl rfl rfl rfl ?_
    refine RL.q (by first | exact Yld.pickT rfl rfl | exact Yld.pickF rfl rfl) rfl ?_
    exact RL.nil (N.meet (.cons rfl (.cons rfl (.cons rfl (.cons rfl (.cons rfl (.cons rfl (.cons rfl (.cons rfl (.cons rfl (.cons rfl .nil)))))))))) (.cons rfl (.cons rfl (.cons rfl .nil))))
  refine RL.q (Yld.move rfl) rfl ?_
  refine' RL.or (t := 36) (d := 40) 4 rfl (.cons (k := 0) rfl (.cons (k := 1) rfl (.cons (k := 2) rfl (.cons (k := 4) rfl (.cons (k := 5) rfl (.cons (k := 9) rfl (.cons (k := 28) rfl (.cons (k := 29) rfl (.cons (k := 30) rfl (.cons (k := 35) rfl .nil)))))))))) (.cons (k := 0) rfl (.cons (k := 1) rfl (.cons (k := 109) rfl .nil))) ?_ ?_ ?_
  rotate_left 1
  ·
    intro hg36
    refine RL.gq rfl rfl (Yld.loadW (c := 109) Try.underlying55 rfl sz55 rfl rfl (by first | exact single_self _ _ | exact pset_self _ _ _ | assumption) rfl) rfl ?_
    refine RL.ge rfl rfl (Eff.call ent21 [1] [1] (.cons rfl (.cons rfl .nil)) (cfew_ct x H1 hx 6) rfl rfl rfl rfl (by rintro _ _ ⟨_, rfl⟩; rfl)) rfl ?_
    rintro _ _ ⟨_, ⟨rfl, rfl⟩, rfl⟩
    refine RL.gq rfl rfl (by first | exact Yld.notD rfl | exact Yld.not rfl) rfl ?_
    refine RL.q (by first | exact Yld.pickT rfl rfl | exact Yld.pickF rfl rfl) rfl ?_
    exact RL.nil (N.meet (.cons rfl (.cons rfl (.cons rfl (.cons rfl (.cons rfl (.cons rfl (.cons rfl (.cons rfl (.cons rfl (.cons rfl (.cons rfl .nil))))))))))) (.cons rfl (.cons rfl (.cons rfl .nil))))
  ·
    intro hg36
    refine RL.gskip rfl rfl rfl rfl ?_
    refine RL.gskip rfl rfl rfl rfl ?_
    refine RL.gskip rfl rfl rfl rfl ?_
    refine RL.q (by first | exact Yld.pickT rfl rfl | exact Yld.pickF rfl rfl) rfl ?_
    exact RL.nil (N.meet (.cons rfl (.cons rfl (.cons rfl (.cons rfl (.cons rfl (.cons rfl (.cons rfl (.cons rfl (.cons rfl (.cons rfl (.cons rfl .nil))))))))))) (.cons rfl (.cons rfl (.cons rfl .nil))))
  refine RL.q (Yld.move rfl) rfl ?_
  refine' RL.or (t := 41) (d := 45) 4 rfl (.cons (k := 0) rfl (.cons (k := 1) rfl (.cons (k := 2) rfl (.cons (k := 4) rfl (.cons (k := 5) rfl (.cons (k := 9) rfl (.cons (k := 28) rfl (.cons (k := 29) rfl (.cons (k := 30) rfl (.cons (k := 35) rfl (.cons (k := 40) rfl .nil))))))))))) (.cons (k := 0) rfl (.cons (k := 1) rfl (.cons (k := 109) rfl .nil))) ?_ ?_ ?_
  rotate_left 1
  ·
    intro hg41
    have hf6 : (x.o.length : Int) ≤ 6 ∧ (x.n.length : Int) ≤ 6 ∧ (x.l.length : Int) ≤ 6 := by
      have h := hg41
      simp only [Bool.or_eq_false_iff, Bool.not_eq_false', decide_eq_true_eq, decide_eq_false_iff_not, Classical.not_not] at h
      exact h.2
    refine RL.gq rfl rfl (Yld.loadW (c := 109) Try.underlying55 rfl sz55 rfl rfl (by first | exact single_self _ _ | exact pset_self _ _ _ | assumption) rfl) rfl ?_
    refine RL.ge rfl rfl (Eff.call ent22 [1] [1] (.cons rfl .nil) (plain_ct x H1 hx (by omega) (by omega) (by omega)) rfl rfl rfl rfl (by rintro _ _ ⟨_, rfl⟩; rfl)) rfl ?_
    rintro _ _ ⟨_, ⟨rfl, rfl⟩, rfl⟩
    refine RL.gq rfl rfl (by first | exact Yld.notD rfl | exact Yld.not rfl) rfl ?_
    refine RL.q (by first | exact Yld.pickT rfl rfl | exact Yld.pickF rfl rfl) rfl ?_
    exact RL.nil (N.meet (.cons rfl (.cons rfl (.cons rfl (.cons rfl (.cons rfl (.cons rfl (.cons rfl (.cons rfl (.cons rfl (.cons rfl (.cons rfl (.cons rfl .nil)))))))))))) (.cons rfl (.cons rfl (.cons rfl .nil))))
  ·
    intro hg41
    refine RL.gskip rfl rfl rfl rfl ?_
    refine RL.gskip rfl rfl rfl rfl ?_
    refine RL.gskip rfl rfl rfl rfl ?_
    refine RL.q (by first | exact Yld.pickT rfl rfl | exact Yld.pickF rfl rfl) rfl ?_
    exact RL.nil (N.meet (.cons rfl (.cons rfl (.cons rfl (.cons rfl (.cons rfl (.cons rfl (.cons rfl (.cons rfl (.cons rfl (.cons rfl (.cons rfl (.cons rfl .nil)))))))))))) (.cons rfl (.cons rfl (.cons rfl .nil))))
  refine RL.nil ?_
  refine N.next ?_
  refine W.keep (.cons (k := 0) rfl (.cons (k := 1) rfl (.cons (k := 2) rfl (.cons (k := 4) rfl (.cons (k := 5) rfl (.cons (k := 9) rfl (.cons (k := 45) rfl .nil))))))) (.cons (k := 0) rfl (.cons (k := 1) rfl (.cons (k := 109) rfl .nil))) ?_
  refine W.cond rfl (fun hc45 => ?_) (fun hc45 => ?_)
  ·
    refine W.seq ?_
    refine W.region ?_
    refine RL.q (Yld.assign rfl) rfl ?_
    refine RL.nil ?_
    refine N.next ?_
    refine W.keep (.cons (k := 12) rfl .nil) (.cons (k := 0) rfl (.cons (k := 1) rfl (.cons (k := 109) rfl .nil))) ?_
    refine W.ret ?_
    refine N.then_ret ?_
    exact N.retBy [1] (.cons (.tmp rfl) .nil) rfl rfl rfl rfl ⟨rfl, rfl⟩
  ·
    have hf6 : (x.o.length : Int) ≤ 6 ∧ (x.n.length : Int) ≤ 6 ∧ (x.l.length : Int) ≤ 6 := by
      have h := hc45
      simp only [Bool.or_eq_false_iff, Bool.not_eq_false', decide_eq_true_eq, decide_eq_false_iff_not, Classical.not_not] at h
      exact h.1.2
    simp only [Bool.or_eq_false_iff, Bool.not_eq_false', decide_eq_true_eq, decide_eq_false_iff_not, Classical.not_not] at hc45
    have hok := hc45.1.1.1.1
    have hlb : bs.length ≤ 30 := by omega
    have hgl := lgs_ok hs0 hs1 hbs bs.length (by omega)
    have hll := Lg.last_ix hgl.1
    have hi0 := hgl.1.i0
    have hlast : (lgs s bs bs.length).1.last.1 ≤ 1099511627776 := by omega
    have hKr := runs_ok hok (MOK.nil.chg hlast (by simp) : MOK (chg 1 (lgs s bs bs.length).1.last.1 [] [2, 3, 4, 104]))
    refine W.skip ?_
    refine N.next ?_
    refine W.seq ?_
    refine W.region ?_
    refine RL.q (Yld.move rfl) rfl ?_
    refine RL.q (Yld.move rfl) rfl ?_
    refine RL.e (Eff.call ent15 [1] [1, 260, 261, 262] (.cons rfl (.cons rfl .nil)) (logs_ct s hs0 hs1 bs hbs (by omega) _ _ _ hB) rfl rfl rfl rfl (by rintro _ _ ⟨_, _, _, _, _, _, _, _, _, _, rfl⟩; rfl)) rfl ?_
    rintro _ _ ⟨_, ⟨lb, Hl, pl, cl, Hr, pr, cr, rfl, hOl, hTr, rfl⟩, rfl⟩
    refine RL.q (Yld.move rfl) rfl ?_
    refine RL.q (Yld.extract rfl rfl) rfl ?_
    refine RL.q (Yld.extract rfl rfl) rfl ?_
    refine RL.e (Eff.alloc 114 zc42) rfl ?_
    rintro _ _ ⟨b14, rfl, rfl⟩
    refine RL.q (Yld.assign rfl) rfl ?_
    refine RL.e0 (Eff.storeS (c := 114) _ sz42 rfl rfl rfl rfl rfl rfl rfl (by (try simp only [putAt, List.take, List.drop, List.nil_append, List.cons_append, List.append_nil, List.length_cons, List.length_nil, Nat.add_zero, Nat.zero_add, Nat.reduceAdd]); rfl)) ?_
    rintro _ _ rfl
    refine RL.nil ?_
    refine N.next ?_
    refine W.keep (.cons (k := 0) rfl (.cons (k := 4) rfl (.cons (k := 5) rfl (.cons (k := 9) rfl (.cons (k := 13) rfl (.cons (k := 14) rfl .nil)))))) (.cons (k := 0) rfl (.cons (k := 1) rfl (.cons (k := 109) rfl (.cons (k := 114) rfl (.cons (k := 260) rfl (.cons (k := 261) rfl (.cons (k := 262) rfl .nil))))))) ?_
    refine W.seq ?_
    refine W.region ?_
    refine RL.q (Yld.loadW (c := 114) Try.underlying42 rfl sz42 rfl rfl (by first | exact single_self _ _ | exact pset_self _ _ _ | assumption) rfl) rfl ?_
    refine RL.e (Eff.call ent16 [262] [262] (.cons rfl .nil) (rllast_ct (lgs s bs bs.length).1 hgl.1 _ _ _ hTr) rfl rfl rfl rfl (by rintro _ _ ⟨_, rfl⟩; rfl)) rfl ?_
    rintro _ _ ⟨_, ⟨rfl, rfl⟩, rfl⟩
    refine RL.q (Yld.move rfl) rfl ?_
    refine RL.q (Yld.extract rfl rfl) rfl ?_
    refine RL.q (Yld.extract rfl rfl) rfl ?_
    refine RL.q (Yld.assign rfl) rfl ?_
    refine RL.q (Yld.assign rfl) rfl ?_
    refine RL.nil ?_
    refine N.next ?_
    refine W.keep (.cons (k := 0) rfl (.cons (k := 4) rfl (.cons (k := 5) rfl (.cons (k := 9) rfl (.cons (k := 13) rfl (.cons (k := 14) rfl (.cons (k := 15) rfl .nil))))))) (.cons (k := 0) rfl (.cons (k := 1) rfl (.cons (k := 109) rfl (.cons (k := 114) rfl (.cons (k := 260) rfl (.cons (k := 261) rfl (.cons (k := 262) rfl .nil))))))) ?_
    refine W.seq ?_
    refine W.region ?_
    refine RL.q (Yld.move rfl) rfl ?_
    refine RL.q (Yld.move rfl) rfl ?_
    refine RL.e (Eff.call ent17 [1] [1, 263, 264, 265] (.cons rfl (.cons rfl .nil)) (run_ct (lgs s bs bs.length).1.last.1 hlast ops _ _ _ hS hL hok) rfl rfl rfl rfl (by rintro _ _ ⟨_, _, _, _, _, _, _, _, _, _, _, _, rfl⟩; rfl)) rfl ?_
    rintro _ _ ⟨_, ⟨bp, bm, es, ck, m, Hn, pn, cn, rfl, hM, hR, hSn, rfl⟩, rfl⟩
    refine RL.q (Yld.move rfl) rfl ?_
    refine RL.q (Yld.extract rfl rfl) rfl ?_
    refine RL.q (Yld.extract rfl rfl) rfl ?_
    refine RL.q (Yld.extract rfl rfl) rfl ?_
    refine RL.e (Eff.alloc 118 zc30) rfl ?_
    rintro _ _ ⟨b18, rfl, rfl⟩
    refine RL.q (Yld.assign rfl) rfl ?_
    refine RL.e0 (Eff.storeS (c := 118) _ sz30 rfl rfl rfl rfl rfl rfl rfl (by (try simp only [putAt, List.take, List.drop, List.nil_append, List.cons_append, List.append_nil, List.length_cons, List.length_nil, Nat.add_zero, Nat.zero_add, Nat.reduceAdd]); rfl)) ?_
    rintro _ _ rfl
    refine RL.q (Yld.assign rfl) rfl ?_
    refine RL.nil ?_
    refine N.next ?_
    refine W.keep (.cons (k := 4) rfl (.cons (k := 5) rfl (.cons (k := 9) rfl (.cons (k := 13) rfl (.cons (k := 14) rfl (.cons (k := 15) rfl (.cons (k := 17) rfl (.cons (k := 18) rfl (.cons (k := 19) rfl .nil))))))))) (.cons (k := 0) rfl (.cons (k := 1) rfl (.cons (k := 109) rfl (.cons (k := 114) rfl (.cons (k := 118) rfl (.cons (k := 260) rfl (.cons (k := 261) rfl (.cons (k := 262) rfl (.cons (k := 263) rfl (.cons (k := 264) rfl (.cons (k := 265) rfl .nil))))))))))) ?_
    refine W.seq ?_
    refine W.seq ?_
    refine W.region ?_
    refine RL.q (Yld.move rfl) rfl ?_
    refine RL.q (by first | exact Yld.notD rfl | exact Yld.not rfl) rfl ?_
    refine RL.nil ?_
    refine N.next ?_
    first | (refine W.as (t := 65) rfl (boolF (by first | assumption | omega | (simp; done))) ?_; refine W.condF rfl ?_) | refine W.condF rfl ?_
    refine W.skip ?_
    refine N.next ?_
    refine W.seq ?_
    refine W.region ?_
    refine RL.q (Yld.move rfl) rfl ?_
    refine RL.q (Yld.loadW (c := 109) Try.underlying55 rfl sz55 rfl rfl (by first | exact single_self _ _ | exact pset_self _ _ _ | assumption) rfl) rfl ?_
    refine RL.q (Yld.move rfl) rfl ?_
    refine RL.q (Yld.move rfl) rfl ?_
    refine RL.q (Yld.move rfl) rfl ?_
    refine RL.e (Eff.call ent23 [263, 264, 1, 260, 261] [263, 264, 1, 260, 261] (.cons rfl (.cons rfl (.cons rfl (.cons rfl (.cons rfl .nil))))) (pcommit_ct bp bm es ck m (ops.foldl OpS.run (chg 1 ((lgs s bs bs.length).1.last.1) [] [2, 3, 4, 104])) hM hR hKr x H1 hx (by omega) (by omega) lb (lgs s bs bs.length).1 hgl.1 Hl pl cl hOl tm cm) rfl rfl rfl rfl (by rintro _ _ ⟨_, rfl⟩; rfl)) rfl ?_
    rintro _ _ ⟨_, ⟨rfl, rfl⟩, rfl⟩
    obtain ⟨cc, hcc⟩ : ∃ cc, (cmt (ops.foldl OpS.run (chg 1 ((lgs s bs bs.length).1.last.1) [] [2, 3, 4, 104])) x.o x.n (lgs s bs bs.length).1 tm cm) = cc := ⟨_, rfl⟩
    rw [hcc]
    refine RL.q (Yld.assign rfl) rfl ?_
    refine RL.nil ?_
    refine N.next ?_
    refine W.keep (.cons (k := 4) rfl (.cons (k := 5) rfl (.cons (k := 9) rfl (.cons (k := 13) rfl (.cons (k := 14) rfl (.cons (k := 15) rfl (.cons (k := 17) rfl (.cons (k := 18) rfl (.cons (k := 20) rfl .nil))))))))) (.cons (k := 0) rfl (.cons (k := 1) rfl (.cons (k := 109) rfl (.cons (k := 114) rfl (.cons (k := 118) rfl (.cons (k := 260) rfl (.cons (k := 261) rfl (.cons (k := 262) rfl (.cons (k := 263) rfl (.cons (k := 264) rfl (.cons (k := 265) rfl .nil))))))))))) ?_
    refine W.seq ?_
    refine W.seq ?_
    refine W.region ?_
    refine RL.q (Yld.move rfl) rfl ?_
    refine RL.q (Yld.loadW (c := 118) Try.underlying30 rfl sz30 rfl rfl (by first | exact single_self _ _ | exact pset_self _ _ _ | assumption) rfl) rfl ?_
    refine RL.q (Yld.loadW (c := 109) Try.underlying55 rfl sz55 rfl rfl (by first | exact single_self _ _ | exact pset_self _ _ _ | assumption) rfl) rfl ?_
    refine RL.q (Yld.loadW (c := 114) Try.underlying42 rfl sz42 rfl rfl (by first | exact single_self _ _ | exact pset_self _ _ _ | assumption) rfl) rfl ?_
    refine RL.q (Yld.move rfl) rfl ?_
    refine RL.q (Yld.move rfl) rfl ?_
    refine RL.e (Eff.call ent24 [265, 1, 262] [265, 1, 262] (.cons rfl (.cons rfl (.cons rfl (.cons rfl (.cons rfl .nil))))) (rcommit_ct (ops.foldl OpS.run (chg 1 ((lgs s bs bs.length).1.last.1) [] [2, 3, 4, 104])) _ _ _ hSn hKr x H1 hx (by omega) (by omega) (lgs s bs bs.length).1 hgl.1 _ _ _ hTr tm cm) rfl rfl rfl rfl (by rintro _ _ ⟨_, rfl⟩; rfl)) rfl ?_
    rintro _ _ ⟨_, ⟨rfl, rfl⟩, rfl⟩
    rw [hcc]
    refine RL.q (Yld.bin rfl rfl BinV.neq) rfl ?_
    refine RL.q (Yld.move rfl) rfl ?_
    refine' RL.or (t := 80) (d := 84) 4 rfl (.cons (k := 4) rfl (.cons (k := 5) rfl (.cons (k := 9) rfl (.cons (k := 13) rfl (.cons (k := 14) rfl (.cons (k := 15) rfl (.cons (k := 17) rfl (.cons (k := 18) rfl (.cons (k := 20) rfl (.cons (k := 72) rfl (.cons (k := 73) rfl (.cons (k := 74) rfl (.cons (k := 75) rfl (.cons (k := 76) rfl (.cons (k := 77) rfl (.cons (k := 78) rfl (.cons (k := 79) rfl .nil))))))))))))))))) (.cons (k := 0) rfl (.cons (k := 1) rfl (.cons (k := 109) rfl (.cons (k := 114) rfl (.cons (k := 118) rfl (.cons (k := 260) rfl (.cons (k := 261) rfl (.cons (k := 262) rfl (.cons (k := 263) rfl (.cons (k := 264) rfl (.cons (k := 265) rfl .nil))))))))))) ?_ ?_ ?_
    rotate_left 1
    ·
      intro hg80
      refine RL.gq rfl rfl (Yld.move rfl) rfl ?_
      refine RL.gq rfl rfl (Yld.move rfl) rfl ?_
      refine RL.gq rfl rfl (Yld.bin rfl rfl BinV.lss) rfl ?_
      refine RL.q (by first | exact Yld.pickT rfl rfl | exact Yld.pickF rfl rfl) rfl ?_
      exact RL.nil (N.meet (.cons rfl (.cons rfl (.cons rfl (.cons rfl (.cons rfl (.cons rfl (.cons rfl (.cons rfl (.cons rfl (.cons rfl (.cons rfl (.cons rfl (.cons rfl (.cons rfl (.cons rfl (.cons rfl (.cons rfl (.cons rfl .nil)))))))))))))))))) (.cons rfl (.cons rfl (.cons rfl (.cons rfl (.cons rfl (.cons rfl (.cons rfl (.cons rfl (.cons rfl (.cons rfl (.cons rfl .nil))))))))))))
    ·
      intro hg80
      refine RL.gskip rfl rfl rfl rfl ?_
      refine RL.gskip rfl rfl rfl rfl ?_
      refine RL.gskip rfl rfl rfl rfl ?_
      refine RL.q (by first | exact Yld.pickT rfl rfl | exact Yld.pickF rfl rfl) rfl ?_
      exact RL.nil (N.meet (.cons rfl (.cons rfl (.cons rfl (.cons rfl (.cons rfl (.cons rfl (.cons rfl (.cons rfl (.cons rfl (.cons rfl (.cons rfl (.cons rfl (.cons rfl (.cons rfl (.cons rfl (.cons rfl (.cons rfl (.cons rfl .nil)))))))))))))))))) (.cons rfl (.cons rfl (.cons rfl (.cons rfl (.cons rfl (.cons rfl (.cons rfl (.cons rfl (.cons rfl (.cons rfl (.cons rfl .nil))))))))))))
    refine RL.nil ?_
    refine N.next ?_
    refine W.keep (.cons (k := 4) rfl (.cons (k := 5) rfl (.cons (k := 9) rfl (.cons (k := 13) rfl (.cons (k := 15) rfl (.cons (k := 17) rfl (.cons (k := 20) rfl (.cons (k := 84) rfl .nil)))))))) (.cons (k := 0) rfl (.cons (k := 1) rfl (.cons (k := 109) rfl (.cons (k := 114) rfl (.cons (k := 118) rfl (.cons (k := 260) rfl (.cons (k := 261) rfl (.cons (k := 262) rfl (.cons (k := 263) rfl (.cons (k := 264) rfl (.cons (k := 265) rfl .nil))))))))))) ?_
    refine W.cond rfl (fun hc84 => ?_) (fun hc84 => ?_)
    ·
      have hge := cmt_ge (ops.foldl OpS.run (chg 1 ((lgs s bs bs.length).1.last.1) [] [2, 3, 4, 104])) x.o x.n (lgs s bs bs.length).1 tm cm
      rw [hcc] at hge
      simp at hc84
      omega --stop
    ·
      refine W.skip ?_
      refine N.next ?_
      refine W.seq ?_
      refine W.seq ?_
      refine W.region ?_
      refine RL.q (Yld.move rfl) rfl ?_
      refine RL.q (Yld.move rfl) rfl ?_
      refine RL.q (Yld.bin rfl rfl BinV.eql) rfl ?_
      refine RL.q (Yld.move rfl) rfl ?_
      refine' RL.or (t := 88) (d := 91) 3 rfl (.cons (k := 4) rfl (.cons (k := 5) rfl (.cons (k := 9) rfl (.cons (k := 13) rfl (.cons (k := 15) rfl (.cons (k := 17) rfl (.cons (k := 20) rfl (.cons (k := 84) rfl (.cons (k := 85) rfl (.cons (k := 86) rfl (.cons (k := 87) rfl .nil))))))))))) (.cons (k := 0) rfl (.cons (k := 1) rfl (.cons (k := 109) rfl (.cons (k := 114) rfl (.cons (k := 118) rfl (.cons (k := 260) rfl (.cons (k := 261) rfl (.cons (k := 262) rfl (.cons (k := 263) rfl (.cons (k := 264) rfl (.cons (k := 265) rfl .nil))))))))))) ?_ ?_ ?_
      rotate_left 1
      ·
        intro hg88
        refine RL.gq rfl rfl (Yld.move rfl) rfl ?_
        refine RL.gq rfl rfl (Yld.bin rfl rfl BinV.lss) rfl ?_
        refine RL.q (by first | exact Yld.pickT rfl rfl | exact Yld.pickF rfl rfl) rfl ?_
        exact RL.nil (N.meet (.cons rfl (.cons rfl (.cons rfl (.cons rfl (.cons rfl (.cons rfl (.cons rfl (.cons rfl (.cons rfl (.cons rfl (.cons rfl (.cons rfl .nil)))))))))))) (.cons rfl (.cons rfl (.cons rfl (.cons rfl (.cons rfl (.cons rfl (.cons rfl (.cons rfl (.cons rfl (.cons rfl (.cons rfl .nil))))))))))))
      ·
        intro hg88
        refine RL.gskip rfl rfl rfl rfl ?_
        refine RL.gskip rfl rfl rfl rfl ?_
        refine RL.q (by first | exact Yld.pickT rfl rfl | exact Yld.pickF rfl rfl) rfl ?_
        exact RL.nil (N.meet (.cons rfl (.cons rfl (.cons rfl (.cons rfl (.cons rfl (.cons rfl (.cons rfl (.cons rfl (.cons rfl (.cons rfl (.cons rfl (.cons rfl .nil)))))))))))) (.cons rfl (.cons rfl (.cons rfl (.cons rfl (.cons rfl (.cons rfl (.cons rfl (.cons rfl (.cons rfl (.cons rfl (.cons rfl .nil))))))))))))
      refine RL.nil ?_
      refine N.next ?_
      refine W.keep (.cons (k := 4) rfl (.cons (k := 9) rfl (.cons (k := 13) rfl (.cons (k := 15) rfl (.cons (k := 17) rfl (.cons (k := 20) rfl (.cons (k := 91) rfl .nil))))))) (.cons (k := 0) rfl (.cons (k := 1) rfl (.cons (k := 109) rfl (.cons (k := 114) rfl (.cons (k := 118) rfl (.cons (k := 260) rfl (.cons (k := 261) rfl (.cons (k := 262) rfl (.cons (k := 263) rfl (.cons (k := 264) rfl (.cons (k := 265) rfl .nil))))))))))) ?_
      refine W.cond rfl (fun hc91 => ?_) (fun hc91 => ?_)
      ·
        refine W.seq ?_
        refine W.region ?_
        refine RL.q (Yld.assign rfl) rfl ?_
        refine RL.nil ?_
        refine N.next ?_
        refine W.keep (.cons (k := 12) rfl .nil) (.cons (k := 0) rfl (.cons (k := 1) rfl (.cons (k := 109) rfl (.cons (k := 114) rfl (.cons (k := 118) rfl (.cons (k := 260) rfl (.cons (k := 261) rfl (.cons (k := 262) rfl (.cons (k := 263) rfl (.cons (k := 264) rfl (.cons (k := 265) rfl .nil))))))))))) ?_
        refine W.ret ?_
        refine N.then_ret ?_
        exact N.retBy [1] (.cons (.tmp rfl) .nil) rfl rfl rfl rfl ⟨rfl, rfl⟩
      ·
        simp only [Bool.or_eq_false_iff, decide_eq_false_iff_not] at hc91
        have hcq := cmt_quor (ms := (ops.foldl OpS.run (chg 1 ((lgs s bs bs.length).1.last.1) [] [2, 3, 4, 104]))) (o := x.o) (n := x.n) (g := (lgs s bs bs.length).1) (tm := tm) (cm := cm) (by omega) (by rw [hcc]; exact hc91.1)
        rw [hcc] at hcq
        have hbd : 0 ≤ cc ∧ cc ≤ 1099511628780 := by
          have h1 := cmt_ge (ops.foldl OpS.run (chg 1 ((lgs s bs bs.length).1.last.1) [] [2, 3, 4, 104])) x.o x.n (lgs s bs bs.length).1 tm cm
          have h2 := agr_bound (o := x.o) (n := x.n) (qf_bound hKr (last := (lgs s bs bs.length).1.last.1) (by omega) (by omega)) (by omega)
          have h3 : cc = agr x.o x.n (qf (ops.foldl OpS.run (chg 1 ((lgs s bs bs.length).1.last.1) [] [2, 3, 4, 104])) (lgs s bs bs.length).1.last.1) := by
            rw [← hcc]; unfold cmt; split
            · rfl
            · rename_i h; exfalso; apply hc91.1; rw [← hcc]; unfold cmt; rw [if_neg h]
          omega
        refine W.skip ?_
        refine N.next ?_
        refine W.seq ?_
        refine W.region ?_
        refine RL.e (Eff.buildSlice 192 Try.underlying22 sz3 zc3 rfl rfl .nil rfl) rfl ?_
        rintro _ _ ⟨b92, rfl, rfl⟩
        refine RL.q (Yld.assign rfl) rfl ?_
        refine RL.nil ?_
        refine N.next ?_
        refine W.seq ?_
        refine W.seq ?_
        refine W.region ?_
        refine RL.q (Yld.loadW (c := 109) Try.underlying55 rfl sz55 rfl rfl (by first | exact single_self _ _ | exact pset_self _ _ _ | assumption) rfl) rfl ?_
        refine RL.e (Eff.call ent25 [1] [1, 268] (.cons rfl .nil) (cvoters_ct x H1 hx (by simp; omega)) rfl rfl rfl rfl (by rintro _ _ ⟨_, _, _, _, _, rfl⟩; rfl)) rfl ?_
        rintro _ _ ⟨_, ⟨Hv, pv, cv, rfl, hOv, rfl⟩, rfl⟩
        have hcx := hOv.sl.len_le
        simp only [iz_len, maxLen] at hcx
        have hVl := setL_len (x.o ++ x.n)
        rw [List.length_append] at hVl
        obtain ⟨V, hV⟩ : ∃ V, setL (x.o ++ x.n) = V := ⟨_, rfl⟩
        rw [hV] at hOv hcx hVl hcq ⊢
        refine RL.q (Yld.lenSl Try.underlying22 rfl) rfl ?_
        refine RL.q (Yld.move rfl) rfl ?_
        refine RL.nil ?_
        refine N.next ?_
        refine W.block ?_
        refine W.loopK (ι := SI) (fun y => (y.i ≤ V.length ∧ Own y.H y.p y.c 3 1 (iz y.s) ∧ y.s = (V.take y.i).filter (fun z => decide (cc ≤ qf (ops.foldl OpS.run (chg 1 ((lgs s bs bs.length).1.last.1) [] [2, 3, 4, 104])) (lgs s bs bs.length).1.last.1 z)))) (fun y => [(21, .slice y.p y.s.length y.c), (96, .int .i64 (y.i : Nat))]) (fun y => [(192, y.H)]) (fun y => V.length - y.i) (.cons (k := 4) rfl (.cons (k := 9) rfl (.cons (k := 13) rfl (.cons (k := 15) rfl (.cons (k := 17) rfl (.cons (k := 20) rfl (.cons (k := 94) rfl (.cons (k := 95) rfl .nil)))))))) (.cons (k := 0) rfl (.cons (k := 1) rfl (.cons (k := 109) rfl (.cons (k := 114) rfl (.cons (k := 118) rfl (.cons (k := 260) rfl (.cons (k := 261) rfl (.cons (k := 262) rfl (.cons (k := 263) rfl (.cons (k := 264) rfl (.cons (k := 265) rfl (.cons (k := 268) rfl .nil)))))))))))) ⟨0, single b92 (.cells [].toArray 3 (0, 0)), some ⟨b92, 0, none⟩, 0, []⟩ ?_ ?_ ?_ ?_
        · exact ⟨Nat.zero_le _, iz_none rfl, rfl⟩
        · exact (.as rfl (by first | rfl | (simp; done) | (congr 1; simp; done) | (congr 1; omega)) (.as rfl (by first | rfl | (simp; done) | (congr 1; simp; done) | (congr 1; omega)) .nil))
        · exact (.cons rfl .nil)
        rintro y ⟨hj, hO, hs⟩
        refine W.keep (.cons (k := 21) rfl (.cons (k := 96) rfl (.cons (k := 4) rfl (.cons (k := 9) rfl (.cons (k := 13) rfl (.cons (k := 15) rfl (.cons (k := 17) rfl (.cons (k := 20) rfl (.cons (k := 94) rfl (.cons (k := 95) rfl .nil)))))))))) (.cons (k := 192) rfl (.cons (k := 0) rfl (.cons (k := 1) rfl (.cons (k := 109) rfl (.cons (k := 114) rfl (.cons (k := 118) rfl (.cons (k := 260) rfl (.cons (k := 261) rfl (.cons (k := 262) rfl (.cons (k := 263) rfl (.cons (k := 264) rfl (.cons (k := 265) rfl (.cons (k := 268) rfl .nil))))))))))))) ?_
        refine W.seq ?_
        refine W.region ?_
        refine RL.q (Yld.bin rfl rfl BinV.lss) rfl ?_
        refine RL.nil ?_
        refine N.next ?_
        refine W.seq ?_
        refine W.cond rfl (fun hc97 => ?_) (fun hc97 => ?_) <;> simp only [decide_eq_true_eq, decide_eq_false_iff_not] at hc97
        ·
          obtain ⟨z, hz, hlz⟩ : ∃ z, V[y.i]? = some z ∧ (iz V)[y.i]? = some [.int .i64 z] := iz_at (show y.i < V.length by omega)
          have hsl : y.s.length ≤ V.length := by rw [hs]; exact Nat.le_trans (List.length_filter_le _ _) (by rw [List.length_take]; omega)
          refine W.skip ?_
          refine N.next ?_
          refine W.seq ?_
          refine W.block ?_
          refine W.seq ?_
          refine W.region ?_
          refine RL.q (Yld.indexRow Try.underlying22 sz3 rfl rfl (by first | assumption | exact Own.sl (by assumption)) (by first | rfl | omega | (simp; done) | (simp; omega)) (by omega) (by first | omega | (simp; done) | (simp; omega))) rfl ?_
          refine RL.q (by first | exact (by first | exact Yld.loadRow1 (cl := 1) Try.underlying3 rfl rfl rfl (by first | assumption | exact Own.sl (by assumption)) (by assumption) | exact Yld.loadRow1 (cl := 109) Try.underlying3 rfl rfl rfl (by first | assumption | exact Own.sl (by assumption)) (by assumption) | exact Yld.loadRow1 (cl := 114) Try.underlying3 rfl rfl rfl (by first | assumption | exact Own.sl (by assumption)) (by assumption) | exact Yld.loadRow1 (cl := 118) Try.underlying3 rfl rfl rfl (by first | assumption | exact Own.sl (by assumption)) (by assumption) | exact Yld.loadRow1 (cl := 260) Try.underlying3 rfl rfl rfl (by first | assumption | exact Own.sl (by assumption)) (by assumption) | exact Yld.loadRow1 (cl := 261) Try.underlying3 rfl rfl rfl (by first | assumption | exact Own.sl (by assumption)) (by assumption) | exact Yld.loadRow1 (cl := 262) Try.underlying3 rfl rfl rfl (by first | assumption | exact Own.sl (by assumption)) (by assumption) | exact Yld.loadRow1 (cl := 263) Try.underlying3 rfl rfl rfl (by first | assumption | exact Own.sl (by assumption)) (by assumption) | exact Yld.loadRow1 (cl := 264) Try.underlying3 rfl rfl rfl (by first | assumption | exact Own.sl (by assumption)) (by assumption) | exact Yld.loadRow1 (cl := 265) Try.underlying3 rfl rfl rfl (by first | assumption | exact Own.sl (by assumption)) (by assumption) | exact Yld.loadRow1 (cl := 268) Try.underlying3 rfl rfl rfl (by first | assumption | exact Own.sl (by assumption)) (by assumption) | exact Yld.loadRow1 (cl := 192) Try.underlying3 rfl rfl rfl (by first | assumption | exact Own.sl (by assumption)) (by assumption)) | exact (by first | exact Yld.loadRowF (cl := 1) (j := 0) Try.underlying3 rfl rfl rfl (by first | assumption | exact Own.sl (by assumption)) (by assumption) rfl | exact Yld.loadRowF (cl := 109) (j := 0) Try.underlying3 rfl rfl rfl (by first | assumption | exact Own.sl (by assumption)) (by assumption) rfl | exact Yld.loadRowF (cl := 114) (j := 0) Try.underlying3 rfl rfl rfl (by first | assumption | exact Own.sl (by assumption)) (by assumption) rfl | exact Yld.loadRowF (cl := 118) (j := 0) Try.underlying3 rfl rfl rfl (by first | assumption | exact Own.sl (by assumption)) (by assumption) rfl | exact Yld.loadRowF (cl := 260) (j := 0) Try.underlying3 rfl rfl rfl (by first | assumption | exact Own.sl (by assumption)) (by assumption) rfl | exact Yld.loadRowF (cl := 261) (j := 0) Try.underlying3 rfl rfl rfl (by first | assumption | exact Own.sl (by assumption)) (by assumption) rfl | exact Yld.loadRowF (cl := 262) (j := 0) Try.underlying3 rfl rfl rfl (by first | assumption | exact Own.sl (by assumption)) (by assumption) rfl | exact Yld.loadRowF (cl := 263) (j := 0) Try.underlying3 rfl rfl rfl (by first | assumption | exact Own.sl (by assumption)) (by assumption) rfl | exact Yld.loadRowF (cl := 264) (j := 0) Try.underlying3 rfl rfl rfl (by first | assumption | exact Own.sl (by assumption)) (by assumption) rfl | exact Yld.loadRowF (cl := 265) (j := 0) Try.underlying3 rfl rfl rfl (by first | assumption | exact Own.sl (by assumption)) (by assumption) rfl | exact Yld.loadRowF (cl := 268) (j := 0) Try.underlying3 rfl rfl rfl (by first | assumption | exact Own.sl (by assumption)) (by assumption) rfl | exact Yld.loadRowF (cl := 192) (j := 0) Try.underlying3 rfl rfl rfl (by first | assumption | exact Own.sl (by assumption)) (by assumption) rfl)) rfl ?_
          refine RL.q (Yld.assign rfl) rfl ?_
          refine RL.nil ?_
          refine N.next ?_
          refine W.seq ?_
          refine W.region ?_
          refine RL.q (Yld.move rfl) rfl ?_
          refine RL.q (Yld.bin rfl rfl BinV.eql) rfl ?_
          refine RL.q (Yld.move rfl) rfl ?_
          refine' RL.and (t := 102) (d := 106) 4 rfl (.cons (k := 4) rfl (.cons (k := 9) rfl (.cons (k := 13) rfl (.cons (k := 15) rfl (.cons (k := 17) rfl (.cons (k := 20) rfl (.cons (k := 21) rfl (.cons (k := 23) rfl (.cons (k := 94) rfl (.cons (k := 95) rfl (.cons (k := 96) rfl (.cons (k := 97) rfl (.cons (k := 98) rfl (.cons (k := 99) rfl (.cons (k := 100) rfl (.cons (k := 101) rfl .nil)))))))))))))))) (.cons (k := 0) rfl (.cons (k := 1) rfl (.cons (k := 109) rfl (.cons (k := 114) rfl (.cons (k := 118) rfl (.cons (k := 192) rfl (.cons (k := 260) rfl (.cons (k := 261) rfl (.cons (k := 262) rfl (.cons (k := 263) rfl (.cons (k := 264) rfl (.cons (k := 265) rfl (.cons (k := 268) rfl .nil))))))))))))) ?_ ?_ ?_
          rotate_left 1
          ·
            intro hg102
            refine RL.gq rfl rfl (Yld.move rfl) rfl ?_
            refine RL.gq rfl rfl (Yld.move rfl) rfl ?_
            refine RL.gq rfl rfl (Yld.bin rfl rfl BinV.geq) rfl ?_
            refine RL.q (by first | exact Yld.pickT rfl rfl | exact Yld.pickF rfl rfl) rfl ?_
            exact RL.nil (N.meet (.cons rfl (.cons rfl (.cons rfl (.cons rfl (.cons rfl (.cons rfl (.cons rfl (.cons rfl (.cons rfl (.cons rfl (.cons rfl (.cons rfl (.cons rfl (.cons rfl (.cons rfl (.cons rfl (.cons rfl .nil))))))))))))))))) (.cons rfl (.cons rfl (.cons rfl (.cons rfl (.cons rfl (.cons rfl (.cons rfl (.cons rfl (.cons rfl (.cons rfl (.cons rfl (.cons rfl (.cons rfl .nil))))))))))))))
          ·
            intro hg102
            refine RL.gskip rfl rfl rfl rfl ?_
            refine RL.gskip rfl rfl rfl rfl ?_
            refine RL.gskip rfl rfl rfl rfl ?_
            refine RL.q (by first | exact Yld.pickT rfl rfl | exact Yld.pickF rfl rfl) rfl ?_
            exact RL.nil (N.meet (.cons rfl (.cons rfl (.cons rfl (.cons rfl (.cons rfl (.cons rfl (.cons rfl (.cons rfl (.cons rfl (.cons rfl (.cons rfl (.cons rfl (.cons rfl (.cons rfl (.cons rfl (.cons rfl (.cons rfl .nil))))))))))))))))) (.cons rfl (.cons rfl (.cons rfl (.cons rfl (.cons rfl (.cons rfl (.cons rfl (.cons rfl (.cons rfl (.cons rfl (.cons rfl (.cons rfl (.cons rfl .nil))))))))))))))
          refine RL.q (Yld.move rfl) rfl ?_
          refine' RL.or (t := 107) (d := 117) 10 rfl (.cons (k := 4) rfl (.cons (k := 9) rfl (.cons (k := 13) rfl (.cons (k := 15) rfl (.cons (k := 17) rfl (.cons (k := 20) rfl (.cons (k := 21) rfl (.cons (k := 23) rfl (.cons (k := 94) rfl (.cons (k := 95) rfl (.cons (k := 96) rfl (.cons (k := 97) rfl (.cons (k := 98) rfl (.cons (k := 99) rfl (.cons (k := 100) rfl (.cons (k := 101) rfl (.cons (k := 106) rfl .nil))))))))))))))))) (.cons (k := 0) rfl (.cons (k := 1) rfl (.cons (k := 109) rfl (.cons (k := 114) rfl (.cons (k := 118) rfl (.cons (k := 192) rfl (.cons (k := 260) rfl (.cons (k := 261) rfl (.cons (k := 262) rfl (.cons (k := 263) rfl (.cons (k := 264) rfl (.cons (k := 265) rfl (.cons (k := 268) rfl .nil))))))))))))) ?_ ?_ ?_
          rotate_left 1
          ·
            intro hg107
            refine RL.gq rfl rfl (Yld.move rfl) rfl ?_
            refine RL.gq rfl rfl (Yld.bin rfl rfl BinV.neq) rfl ?_
            refine RL.gq rfl rfl (Yld.move rfl) rfl ?_
            refine' RL.and (t := 110) (d := 116) 6 rfl (.cons (k := 4) rfl (.cons (k := 9) rfl (.cons (k := 13) rfl (.cons (k := 15) rfl (.cons (k := 17) rfl (.cons (k := 20) rfl (.cons (k := 21) rfl (.cons (k := 23) rfl (.cons (k := 94) rfl (.cons (k := 95) rfl (.cons (k := 96) rfl (.cons (k := 97) rfl (.cons (k := 98) rfl (.cons (k := 99) rfl (.cons (k := 100) rfl (.cons (k := 101) rfl (.cons (k := 106) rfl (.cons (k := 107) rfl (.cons (k := 108) rfl (.cons (k := 109) rfl .nil)))))))))))))))))))) (.cons (k := 0) rfl (.cons (k := 1) rfl (.cons (k := 109) rfl (.cons (k := 114) rfl (.cons (k := 118) rfl (.cons (k := 192) rfl (.cons (k := 260) rfl (.cons (k := 261) rfl (.cons (k := 262) rfl (.cons (k := 263) rfl (.cons (k := 264) rfl (.cons (k := 265) rfl (.cons (k := 268) rfl .nil))))))))))))) ?_ ?_ ?_
            rotate_left 1
            ·
              intro hg110
              refine RL.gq rfl rfl (Yld.move rfl) rfl ?_
              refine RL.gq rfl rfl (Yld.move rfl) rfl ?_
              refine RL.ge rfl rfl (Eff.call ent26 [263, 264] [263, 264] (.cons rfl (.cons rfl .nil)) (pmatch_ct bp bm es ck m (ops.foldl OpS.run (chg 1 ((lgs s bs bs.length).1.last.1) [] [2, 3, 4, 104])) hM hR hKr z) rfl rfl rfl rfl (by rintro _ _ ⟨_, rfl⟩; rfl)) rfl ?_
              rintro _ _ ⟨_, ⟨rfl, rfl⟩, rfl⟩
              refine RL.gq rfl rfl (Yld.move rfl) rfl ?_
              refine RL.gq rfl rfl (Yld.bin rfl rfl BinV.geq) rfl ?_
              refine RL.gq rfl rfl (by first | exact Yld.pickT rfl rfl | exact Yld.pickF rfl rfl) rfl ?_
              exact RL.nil (N.meet (.cons rfl (.cons rfl (.cons rfl (.cons rfl (.cons rfl (.cons rfl (.cons rfl (.cons rfl (.cons rfl (.cons rfl (.cons rfl (.cons rfl (.cons rfl (.cons rfl (.cons rfl (.cons rfl (.cons rfl (.cons rfl (.cons rfl (.cons rfl (.cons rfl .nil))))))))))))))))))))) (.cons rfl (.cons rfl (.cons rfl (.cons rfl (.cons rfl (.cons rfl (.cons rfl (.cons rfl (.cons rfl (.cons rfl (.cons rfl (.cons rfl (.cons rfl .nil))))))))))))))
            ·
              intro hg110
              refine RL.gskip rfl rfl rfl rfl ?_
              refine RL.gskip rfl rfl rfl rfl ?_
              refine RL.gskip rfl rfl rfl rfl ?_
              refine RL.gskip rfl rfl rfl rfl ?_
              refine RL.gskip rfl rfl rfl rfl ?_
              refine RL.gq rfl rfl (by first | exact Yld.pickT rfl rfl | exact Yld.pickF rfl rfl) rfl ?_
              exact RL.nil (N.meet (.cons rfl (.cons rfl (.cons rfl (.cons rfl (.cons rfl (.cons rfl (.cons rfl (.cons rfl (.cons rfl (.cons rfl (.cons rfl (.cons rfl (.cons rfl (.cons rfl (.cons rfl (.cons rfl (.cons rfl (.cons rfl (.cons rfl (.cons rfl (.cons rfl .nil))))))))))))))))))))) (.cons rfl (.cons rfl (.cons rfl (.cons rfl (.cons rfl (.cons rfl (.cons rfl (.cons rfl (.cons rfl (.cons rfl (.cons rfl (.cons rfl (.cons rfl .nil))))))))))))))
            refine RL.q (by first | exact Yld.pickT rfl rfl | exact Yld.pickF rfl rfl) rfl ?_
            exact RL.nil (N.meet (.cons rfl (.cons rfl (.cons rfl (.cons rfl (.cons rfl (.cons rfl (.cons rfl (.cons rfl (.cons rfl (.cons rfl (.cons rfl (.cons rfl (.cons rfl (.cons rfl (.cons rfl (.cons rfl (.cons rfl (.cons rfl .nil)))))))))))))))))) (.cons rfl (.cons rfl (.cons rfl (.cons rfl (.cons rfl (.cons rfl (.cons rfl (.cons rfl (.cons rfl (.cons rfl (.cons rfl (.cons rfl (.cons rfl .nil))))))))))))))
          ·
            intro hg107
            refine RL.gskip rfl rfl rfl rfl ?_
            refine RL.gskip rfl rfl rfl rfl ?_
            refine RL.gskip rfl rfl rfl rfl ?_
            refine RL.gskipU rfl rfl rfl ?_
            refine RL.gskipU rfl rfl rfl ?_
            refine RL.gskipU rfl rfl rfl ?_
            refine RL.gskipU rfl rfl rfl ?_
            refine RL.gskipU rfl rfl rfl ?_
            refine RL.gskip rfl rfl rfl rfl ?_
            refine RL.q (by first | exact Yld.pickT rfl rfl | exact Yld.pickF rfl rfl) rfl ?_
            exact RL.nil (N.meet (.cons rfl (.cons rfl (.cons rfl (.cons rfl (.cons rfl (.cons rfl (.cons rfl (.cons rfl (.cons rfl (.cons rfl (.cons rfl (.cons rfl (.cons rfl (.cons rfl (.cons rfl (.cons rfl (.cons rfl (.cons rfl .nil)))))))))))))))))) (.cons rfl (.cons rfl (.cons rfl (.cons rfl (.cons rfl (.cons rfl (.cons rfl (.cons rfl (.cons rfl (.cons rfl (.cons rfl (.cons rfl (.cons rfl .nil))))))))))))))
          refine RL.nil ?_
          refine N.next ?_
          refine W.keep (.cons (k := 4) rfl (.cons (k := 9) rfl (.cons (k := 13) rfl (.cons (k := 15) rfl (.cons (k := 17) rfl (.cons (k := 20) rfl (.cons (k := 21) rfl (.cons (k := 23) rfl (.cons (k := 94) rfl (.cons (k := 95) rfl (.cons (k := 96) rfl (.cons (k := 117) rfl .nil)))))))))))) (.cons (k := 0) rfl (.cons (k := 1) rfl (.cons (k := 109) rfl (.cons (k := 114) rfl (.cons (k := 118) rfl (.cons (k := 192) rfl (.cons (k := 260) rfl (.cons (k := 261) rfl (.cons (k := 262) rfl (.cons (k := 263) rfl (.cons (k := 264) rfl (.cons (k := 265) rfl (.cons (k := 268) rfl .nil))))))))))))) ?_
          refine W.cond rfl (fun hc117 => ?_) (fun hc117 => ?_)
          ·
            have hqz : decide (cc ≤ qf (ops.foldl OpS.run (chg 1 ((lgs s bs bs.length).1.last.1) [] [2, 3, 4, 104])) (lgs s bs bs.length).1.last.1 z) = true := by
              rw [← hc117]; unfold qf; by_cases h : z = 1 <;> simp [h]
            refine W.region ?_
            refine RL.q (Yld.move rfl) rfl ?_
            refine RL.q (Yld.move rfl) rfl ?_
            refine RL.e (Eff.buildSlice 220 Try.underlying22 sz3 zc3 rfl rfl (.cons rfl rfl .nil) rfl) rfl ?_
            rintro _ _ ⟨b120, rfl, rfl⟩
            refine RL.e (Eff.appendE (tc := 192) (sc := 220) (fun z : Int => [Value.int .i64 z]) Try.underlying22 el3 rfl rfl rfl rfl hO rfl (iz_single rfl) rfl (iz_one1 _) (by decide) (by first | (simp; done) | (simp; omega)) (by first | (simp [maxLen]; done) | (simp [maxLen]; omega))) rfl ?_
            rintro _ _ ⟨Ha, pa, ca, rfl, hOa, rfl⟩
            refine RL.q (Yld.assign rfl) rfl ?_
            refine RL.nil ?_
            refine N.block_normal ?_
            refine N.next ?_
            refine W.keep (.cons (k := 4) rfl (.cons (k := 9) rfl (.cons (k := 13) rfl (.cons (k := 15) rfl (.cons (k := 17) rfl (.cons (k := 20) rfl (.cons (k := 21) rfl (.cons (k := 94) rfl (.cons (k := 95) rfl (.cons (k := 96) rfl .nil)))))))))) (.cons (k := 0) rfl (.cons (k := 1) rfl (.cons (k := 109) rfl (.cons (k := 114) rfl (.cons (k := 118) rfl (.cons (k := 192) rfl (.cons (k := 220) rfl (.cons (k := 260) rfl (.cons (k := 261) rfl (.cons (k := 262) rfl (.cons (k := 263) rfl (.cons (k := 264) rfl (.cons (k := 265) rfl (.cons (k := 268) rfl .nil)))))))))))))) ?_
            refine W.region ?_
            refine RL.q (Yld.bin rfl rfl (by first | exact BinV.add (by omega) (by omega) | exact BinV.addW)) rfl ?_
            refine RL.q (Yld.move rfl) rfl ?_
            refine RL.nil ?_
            exact N.famK ⟨y.i + 1, Ha, pa, ca, y.s ++ [z]⟩ ⟨⟨by dsimp only; omega, hOa, by dsimp only; rw [filter_take hz, if_pos hqz, hs]⟩, by dsimp only; omega⟩ (.as rfl (by first | rfl | (simp; done) | (congr 1; simp; done) | (congr 1; omega)) (.as rfl (by first | rfl | (simp; done) | (congr 1; simp; done) | (congr 1; omega)) .nil)) (.cons rfl (.cons rfl (.cons rfl (.cons rfl (.cons rfl (.cons rfl (.cons rfl (.cons rfl .nil)))))))) (.cons rfl .nil) (.cons rfl (.cons rfl (.cons rfl (.cons rfl (.cons rfl (.cons rfl (.cons rfl (.cons rfl (.cons rfl (.cons rfl (.cons rfl (.cons rfl .nil))))))))))))
          ·
            have hqz : ¬ decide (cc ≤ qf (ops.foldl OpS.run (chg 1 ((lgs s bs bs.length).1.last.1) [] [2, 3, 4, 104])) (lgs s bs bs.length).1.last.1 z) = true := by
              rw [Bool.not_eq_true, ← hc117]; unfold qf; by_cases h : z = 1 <;> simp [h]
            refine W.skip ?_
            refine N.block_normal ?_
            refine N.next ?_
            refine W.region ?_
            refine RL.q (Yld.bin rfl rfl (by first | exact BinV.add (by omega) (by omega) | exact BinV.addW)) rfl ?_
            refine RL.q (Yld.move rfl) rfl ?_
            refine RL.nil ?_
            exact N.famK ⟨y.i + 1, y.H, y.p, y.c, y.s⟩ ⟨⟨by dsimp only; omega, hO, by dsimp only; rw [filter_take hz, if_neg hqz]; exact hs⟩, by dsimp only; omega⟩ (.as rfl (by first | rfl | (simp; done) | (congr 1; simp; done) | (congr 1; omega)) (.as rfl (by first | rfl | (simp; done) | (congr 1; simp; done) | (congr 1; omega)) .nil)) (.cons rfl (.cons rfl (.cons rfl (.cons rfl (.cons rfl (.cons rfl (.cons rfl (.cons rfl .nil)))))))) (.cons rfl .nil) (.cons rfl (.cons rfl (.cons rfl (.cons rfl (.cons rfl (.cons rfl (.cons rfl (.cons rfl (.cons rfl (.cons rfl (.cons rfl (.cons rfl .nil))))))))))))
        ·
          have hend : y.i = V.length := by omega
          rw [hend, List.take_length] at hs
          rw [← hs] at hcq
          refine W.exit ?_
          refine N.then_exit ?_
          refine N.then_exit ?_
          refine N.block_eq ?_
          refine N.next ?_
          refine W.keep (.cons (k := 4) rfl (.cons (k := 9) rfl (.cons (k := 13) rfl (.cons (k := 20) rfl (.cons (k := 21) rfl .nil))))) (.cons (k := 0) rfl (.cons (k := 1) rfl (.cons (k := 109) rfl (.cons (k := 114) rfl (.cons (k := 118) rfl (.cons (k := 192) rfl (.cons (k := 260) rfl (.cons (k := 261) rfl (.cons (k := 262) rfl (.cons (k := 263) rfl (.cons (k := 264) rfl (.cons (k := 265) rfl (.cons (k := 268) rfl .nil))))))))))))) ?_
          refine W.seq ?_
          refine W.region ?_
          refine RL.q (Yld.move rfl) rfl ?_
          refine RL.q (Yld.move rfl) rfl ?_
          refine RL.e (Eff.call ent27 [260, 261] [260, 261] (.cons rfl (.cons rfl .nil)) (lterm_ct lb (lgs s bs bs.length).1 hgl.1 _ _ _ hOl cc (by omega) (by omega)) rfl rfl rfl rfl (by rintro _ _ ⟨_, rfl⟩; rfl)) rfl ?_
          rintro _ _ ⟨_, ⟨rfl, rfl⟩, rfl⟩
          rw [hcq.1]
          refine RL.q (Yld.move rfl) rfl ?_
          refine RL.q (Yld.extract rfl rfl) rfl ?_
          refine RL.q (Yld.extract rfl rfl) rfl ?_
          refine RL.q (Yld.assign rfl) rfl ?_
          refine RL.q (Yld.assign rfl) rfl ?_
          refine RL.nil ?_
          refine N.next ?_
          refine W.keep (.cons (k := 4) rfl (.cons (k := 9) rfl (.cons (k := 21) rfl (.cons (k := 24) rfl (.cons (k := 25) rfl .nil))))) (.cons (k := 0) rfl (.cons (k := 1) rfl (.cons (k := 109) rfl (.cons (k := 114) rfl (.cons (k := 118) rfl (.cons (k := 192) rfl (.cons (k := 260) rfl (.cons (k := 261) rfl (.cons (k := 262) rfl (.cons (k := 263) rfl (.cons (k := 264) rfl (.cons (k := 265) rfl (.cons (k := 268) rfl .nil))))))))))))) ?_
          refine W.seq ?_
          refine W.region ?_
          refine RL.q (Yld.move rfl) rfl ?_
          refine RL.q (Yld.move rfl) rfl ?_
          refine' RL.and (t := 130) (d := 134) 4 rfl (.cons (k := 4) rfl (.cons (k := 9) rfl (.cons (k := 21) rfl (.cons (k := 24) rfl (.cons (k := 25) rfl (.cons (k := 129) rfl .nil)))))) (.cons (k := 0) rfl (.cons (k := 1) rfl (.cons (k := 109) rfl (.cons (k := 114) rfl (.cons (k := 118) rfl (.cons (k := 192) rfl (.cons (k := 260) rfl (.cons (k := 261) rfl (.cons (k := 262) rfl (.cons (k := 263) rfl (.cons (k := 264) rfl (.cons (k := 265) rfl (.cons (k := 268) rfl .nil))))))))))))) ?_ ?_ ?_
          rotate_left 1
          ·
            intro hg130
            refine RL.gq rfl rfl (Yld.move rfl) rfl ?_
            refine RL.gq rfl rfl (Yld.move rfl) rfl ?_
            refine RL.gq rfl rfl (Yld.bin rfl rfl BinV.eql) rfl ?_
            refine RL.q (by first | exact Yld.pickT rfl rfl | exact Yld.pickF rfl rfl) rfl ?_
            exact RL.nil (N.meet (.cons rfl (.cons rfl (.cons rfl (.cons rfl (.cons rfl (.cons rfl (.cons rfl .nil))))))) (.cons rfl (.cons rfl (.cons rfl (.cons rfl (.cons rfl (.cons rfl (.cons rfl (.cons rfl (.cons rfl (.cons rfl (.cons rfl (.cons rfl (.cons rfl .nil))))))))))))))
          ·
            intro hg130
            refine RL.gskip rfl rfl rfl rfl ?_
            refine RL.gskip rfl rfl rfl rfl ?_
            refine RL.gskip rfl rfl rfl rfl ?_
            refine RL.q (by first | exact Yld.pickT rfl rfl | exact Yld.pickF rfl rfl) rfl ?_
            exact RL.nil (N.meet (.cons rfl (.cons rfl (.cons rfl (.cons rfl (.cons rfl (.cons rfl (.cons rfl .nil))))))) (.cons rfl (.cons rfl (.cons rfl (.cons rfl (.cons rfl (.cons rfl (.cons rfl (.cons rfl (.cons rfl (.cons rfl (.cons rfl (.cons rfl (.cons rfl .nil))))))))))))))
          refine RL.q (Yld.move rfl) rfl ?_
          refine' RL.and (t := 135) (d := 139) 4 rfl (.cons (k := 4) rfl (.cons (k := 9) rfl (.cons (k := 21) rfl (.cons (k := 24) rfl (.cons (k := 25) rfl (.cons (k := 129) rfl (.cons (k := 134) rfl .nil))))))) (.cons (k := 0) rfl (.cons (k := 1) rfl (.cons (k := 109) rfl (.cons (k := 114) rfl (.cons (k := 118) rfl (.cons (k := 192) rfl (.cons (k := 260) rfl (.cons (k := 261) rfl (.cons (k := 262) rfl (.cons (k := 263) rfl (.cons (k := 264) rfl (.cons (k := 265) rfl (.cons (k := 268) rfl .nil))))))))))))) ?_ ?_ ?_
          rotate_left 1
          ·
            intro hg135
            refine RL.gq rfl rfl (Yld.loadW (c := 109) Try.underlying55 rfl sz55 rfl rfl (by first | exact single_self _ _ | exact pset_self _ _ _ | assumption) rfl) rfl ?_
            refine RL.gq rfl rfl (Yld.move rfl) rfl ?_
            refine RL.ge rfl rfl (Eff.call ent28 [1, 192] [1, 192] (.cons rfl (.cons rfl .nil)) (cquorum_ct x H1 hx y.s _ _ _ hO.sl (by omega) (by omega)) rfl rfl rfl rfl (by rintro _ _ ⟨_, rfl⟩; rfl)) rfl ?_
            rintro _ _ ⟨_, ⟨rfl, rfl⟩, rfl⟩
            refine RL.q (by first | exact Yld.pickT rfl rfl | exact Yld.pickF rfl rfl) rfl ?_
            exact RL.nil (N.meet (.cons rfl (.cons rfl (.cons rfl (.cons rfl (.cons rfl (.cons rfl (.cons rfl (.cons rfl .nil)))))))) (.cons rfl (.cons rfl (.cons rfl (.cons rfl (.cons rfl (.cons rfl (.cons rfl (.cons rfl (.cons rfl (.cons rfl (.cons rfl (.cons rfl (.cons rfl .nil))))))))))))))
          ·
            intro hg135
            refine RL.gskip rfl rfl rfl rfl ?_
            refine RL.gskip rfl rfl rfl rfl ?_
            refine RL.gskip rfl rfl rfl rfl ?_
            refine RL.q (by first | exact Yld.pickT rfl rfl | exact Yld.pickF rfl rfl) rfl ?_
            exact RL.nil (N.meet (.cons rfl (.cons rfl (.cons rfl (.cons rfl (.cons rfl (.cons rfl (.cons rfl (.cons rfl .nil)))))))) (.cons rfl (.cons rfl (.cons rfl (.cons rfl (.cons rfl (.cons rfl (.cons rfl (.cons rfl (.cons rfl (.cons rfl (.cons rfl (.cons rfl (.cons rfl .nil))))))))))))))
          refine RL.q (Yld.assign rfl) rfl ?_
          refine RL.nil ?_
          refine N.next ?_
          refine W.keep (.cons (k := 12) rfl .nil) (.cons (k := 0) rfl (.cons (k := 1) rfl (.cons (k := 109) rfl (.cons (k := 114) rfl (.cons (k := 118) rfl (.cons (k := 192) rfl (.cons (k := 260) rfl (.cons (k := 261) rfl (.cons (k := 262) rfl (.cons (k := 263) rfl (.cons (k := 264) rfl (.cons (k := 265) rfl (.cons (k := 268) rfl .nil))))))))))))) ?_
          refine W.ret ?_
          exact N.retBy [1] (.cons (.tmp rfl) .nil) rfl rfl rfl rfl ⟨by show Value.bool _ = _; rw [Value.bool.injEq]; simp [hcq.2], rfl⟩

set_option maxRecDepth 100000 in
set_option maxHeartbeats 3200000 in
theorem calls_ct (last : Int) (l : List Int) (H1 : PH) (q : Option Addr) (d : Nat) (hl : Sl H1 q d 1 (iz l)) (ops : List OpS) (p : Option Addr) (c : Nat) (hS : Sl H1 p c 4 (ops.map OpS.cells)) (hL : ∀ o ∈ ops, Sl H1 o.p o.c 1 (iz o.l)) : Ct Try.prog 3 [.int .i64 last, .slice q l.length d, .slice p ops.length c] [H1] (fun v Hs => v = .bool true ∧ Hs = [H1]) := by
  refine Ct.body Try.func3 rfl Try.ntmps3 rfl ?_
  intro E F
  have hmx := hS.len_le
  simp only [List.length_map, maxLen] at hmx
  have hmxl := hl.len_le
  simp only [iz_len, maxLen] at hmxl
  refine W.seq ?_
  refine W.region ?_
  refine RL.q (Yld.assign rfl) rfl ?_
  refine RL.nil ?_
  refine N.next ?_
  refine W.seq ?_
  refine W.seq ?_
  refine W.region ?_
  refine RL.e (Eff.call ent9 [] [] .nil awake_ct rfl rfl rfl rfl (by rintro _ _ ⟨_, rfl⟩; rfl)) rfl ?_
  rintro _ _ ⟨_, ⟨rfl, rfl⟩, rfl⟩
  refine RL.q (by first | exact Yld.notD rfl | exact Yld.not rfl) rfl ?_
  refine RL.nil ?_
  refine N.next ?_
  first | (refine W.as (t := 13) rfl (boolF (by first | assumption | omega | (simp; done))) ?_; refine W.condF rfl ?_) | refine W.condF rfl ?_
  refine W.skip ?_
  refine N.next ?_
  refine W.seq ?_
  refine W.seq ?_
  refine W.region ?_
  refine RL.q (Yld.move rfl) rfl ?_
  refine RL.e (Eff.call ent10 [1] [1] (.cons rfl (.cons rfl .nil)) (few_ct ops _ _ _ hS hL 24) rfl rfl rfl rfl (by rintro _ _ ⟨_, rfl⟩; rfl)) rfl ?_
  rintro _ _ ⟨_, ⟨rfl, rfl⟩, rfl⟩
  refine RL.q (by first | exact Yld.notD rfl | exact Yld.not rfl) rfl ?_
  refine RL.q (Yld.move rfl) rfl ?_
  refine' RL.or (t := 17) (d := 21) 4 rfl (.cons (k := 0) rfl (.cons (k := 1) rfl (.cons (k := 2) rfl (.cons (k := 6) rfl (.cons (k := 12) rfl (.cons (k := 13) rfl (.cons (k := 14) rfl (.cons (k := 15) rfl (.cons (k := 16) rfl .nil))))))))) (.cons (k := 0) rfl (.cons (k := 1) rfl .nil)) ?_ ?_ ?_
  rotate_left 1
  ·
    intro hg17
    refine RL.gq rfl rfl (Yld.move rfl) rfl ?_
    refine RL.gq rfl rfl (Yld.lenSl Try.underlying22 rfl) rfl ?_
    refine RL.gq rfl rfl (Yld.bin rfl rfl BinV.gtr) rfl ?_
    refine RL.q (by first | exact Yld.pickT rfl rfl | exact Yld.pickF rfl rfl) rfl ?_
    exact RL.nil (N.meet (.cons rfl (.cons rfl (.cons rfl (.cons rfl (.cons rfl (.cons rfl (.cons rfl (.cons rfl (.cons rfl (.cons rfl .nil)))))))))) (.cons rfl (.cons rfl .nil)))
  ·
    intro hg17
    refine RL.gskip rfl rfl rfl rfl ?_
    refine RL.gskip rfl rfl rfl rfl ?_
    refine RL.gskip rfl rfl rfl rfl ?_
    refine RL.q (by first | exact Yld.pickT rfl rfl | exact Yld.pickF rfl rfl) rfl ?_
    exact RL.nil (N.meet (.cons rfl (.cons rfl (.cons rfl (.cons rfl (.cons rfl (.cons rfl (.cons rfl (.cons rfl (.cons rfl (.cons rfl .nil)))))))))) (.cons rfl (.cons rfl .nil)))
  refine RL.q (Yld.move rfl) rfl ?_
  refine' RL.or (t := 22) (d := 25) 3 rfl (.cons (k := 0) rfl (.cons (k := 1) rfl (.cons (k := 2) rfl (.cons (k := 6) rfl (.cons (k := 12) rfl (.cons (k := 13) rfl (.cons (k := 14) rfl (.cons (k := 15) rfl (.cons (k := 16) rfl (.cons (k := 21) rfl .nil)))))))))) (.cons (k := 0) rfl (.cons (k := 1) rfl .nil)) ?_ ?_ ?_
  rotate_left 1
  ·
    intro hg22
    refine RL.gq rfl rfl (Yld.move rfl) rfl ?_
    refine RL.gq rfl rfl (Yld.bin rfl rfl BinV.gtr) rfl ?_
    refine RL.q (by first | exact Yld.pickT rfl rfl | exact Yld.pickF rfl rfl) rfl ?_
    exact RL.nil (N.meet (.cons rfl (.cons rfl (.cons rfl (.cons rfl (.cons rfl (.cons rfl (.cons rfl (.cons rfl (.cons rfl (.cons rfl (.cons rfl .nil))))))))))) (.cons rfl (.cons rfl .nil)))
  ·
    intro hg22
    refine RL.gskip rfl rfl rfl rfl ?_
    refine RL.gskip rfl rfl rfl rfl ?_
    refine RL.q (by first | exact Yld.pickT rfl rfl | exact Yld.pickF rfl rfl) rfl ?_
    exact RL.nil (N.meet (.cons rfl (.cons rfl (.cons rfl (.cons rfl (.cons rfl (.cons rfl (.cons rfl (.cons rfl (.cons rfl (.cons rfl (.cons rfl .nil))))))))))) (.cons rfl (.cons rfl .nil)))
  refine RL.nil ?_
  refine N.next ?_
  refine W.keep (.cons (k := 0) rfl (.cons (k := 1) rfl (.cons (k := 2) rfl (.cons (k := 25) rfl .nil)))) (.cons (k := 0) rfl (.cons (k := 1) rfl .nil)) ?_
  refine W.cond rfl (fun hc25 => ?_) (fun hc25 => ?_)
  ·
    refine W.seq ?_
    refine W.region ?_
    refine RL.q (Yld.assign rfl) rfl ?_
    refine RL.nil ?_
    refine N.next ?_
    refine W.keep (.cons (k := 6) rfl .nil) (.cons (k := 0) rfl (.cons (k := 1) rfl .nil)) ?_
    refine W.ret ?_
    refine N.then_ret ?_
    exact N.retBy [1] (.cons (.tmp rfl) .nil) rfl rfl rfl rfl ⟨rfl, rfl⟩
  ·
    simp only [Bool.or_eq_false_iff, Bool.not_eq_false', decide_eq_true_eq, decide_eq_false_iff_not, Classical.not_not] at hc25
    have hok := hc25.1.1.1
    have hlast : last ≤ 1099511627776 := by omega
    have hl8 : l.length ≤ 8 := by omega
    have hk0 : MOK (chg 1 last [] l) := MOK.nil.chg hlast (by omega)
    refine W.skip ?_
    refine N.next ?_
    refine W.seq ?_
    refine W.region ?_
    refine RL.q (Yld.move rfl) rfl ?_
    refine RL.q (Yld.move rfl) rfl ?_
    refine RL.e (Eff.call ent11 [1] [1, 240, 241] (.cons rfl (.cons rfl (.cons rfl .nil))) (pnew_ct last hlast l _ _ _ hl) rfl rfl rfl rfl (by rintro _ _ ⟨_, _, _, _, _, _, _, _, rfl⟩; rfl)) rfl ?_
    rintro _ _ ⟨_, ⟨bp, bm, es0, ck0, m0, rfl, hM0, hR0, rfl⟩, rfl⟩
    refine RL.q (Yld.move rfl) rfl ?_
    refine RL.q (Yld.move rfl) rfl ?_
    refine RL.e (Eff.call ent12 [1] [242, 1] (.cons rfl (.cons rfl (.cons rfl .nil))) (rnew39_ct last hlast l _ _ _ hl (by omega)) rfl rfl rfl rfl (by rintro _ _ ⟨_, _, _, _, _, rfl⟩; rfl)) rfl ?_
    rintro _ _ ⟨_, ⟨Hn, pn, cn, rfl, hSn, rfl⟩, rfl⟩
    refine RL.e (Eff.alloc 108 zc30) rfl ?_
    rintro _ _ ⟨b8, rfl, rfl⟩
    refine RL.q (Yld.assign rfl) rfl ?_
    refine RL.e0 (Eff.storeS (c := 108) _ sz30 rfl rfl rfl rfl rfl rfl rfl (by (try simp only [putAt, List.take, List.drop, List.nil_append, List.cons_append, List.append_nil, List.length_cons, List.length_nil, Nat.add_zero, Nat.zero_add, Nat.reduceAdd]); rfl)) ?_
    rintro _ _ rfl
    refine RL.nil ?_
    refine N.next ?_
    refine W.keep (.cons (k := 2) rfl (.cons (k := 7) rfl (.cons (k := 8) rfl .nil))) (.cons (k := 0) rfl (.cons (k := 1) rfl (.cons (k := 108) rfl (.cons (k := 240) rfl (.cons (k := 241) rfl (.cons (k := 242) rfl .nil)))))) ?_
    refine W.seq ?_
    refine W.seq ?_
    refine W.region ?_
    refine RL.q (Yld.move rfl) rfl ?_
    refine RL.q (Yld.bin rfl rfl (BinV.eqlPN Try.underlying26)) rfl ?_
    refine RL.q (Yld.move rfl) rfl ?_
    first | refine RL.as (t := 34) rfl (boolF (by first | assumption | omega | (simp; done))) ?_ | refine RL.as (t := 34) (v := .bool false) rfl rfl ?_
    refine RL.gq rfl rfl (Yld.move rfl) rfl ?_
    refine RL.gq rfl rfl (Yld.loadW (c := 108) Try.underlying30 rfl sz30 rfl rfl (by first | exact single_self _ _ | exact pset_self _ _ _ | assumption) rfl) rfl ?_
    refine RL.ge rfl rfl (Eff.call ent13 [240, 241, 242] [240, 241, 242] (.cons rfl (.cons rfl .nil)) (same_ct bp bm es0 ck0 m0 (chg 1 last [] l) hM0 hR0 hk0 _ _ _ hSn) rfl rfl rfl rfl (by rintro _ _ ⟨_, rfl⟩; rfl)) rfl ?_
    rintro _ _ ⟨_, ⟨rfl, rfl⟩, rfl⟩
    refine RL.gq rfl rfl (by first | exact Yld.notD rfl | exact Yld.not rfl) rfl ?_
    refine RL.q (by first | exact Yld.pickT rfl rfl | exact Yld.pickF rfl rfl) rfl ?_
    refine RL.nil ?_
    refine N.next ?_
    refine W.keep (.cons (k := 2) rfl (.cons (k := 7) rfl (.cons (k := 8) rfl (.cons (k := 39) rfl .nil)))) (.cons (k := 0) rfl (.cons (k := 1) rfl (.cons (k := 108) rfl (.cons (k := 240) rfl (.cons (k := 241) rfl (.cons (k := 242) rfl .nil)))))) ?_
    first | (refine W.as (t := 39) rfl (boolF (by first | assumption | omega | (simp; done))) ?_; refine W.condF rfl ?_) | refine W.condF rfl ?_
    refine W.skip ?_
    refine N.next ?_
    refine W.seq ?_
    refine W.seq ?_
    refine W.region ?_
    refine RL.q (Yld.move rfl) rfl ?_
    refine RL.q (Yld.lenSl Try.underlying23 rfl) rfl ?_
    refine RL.q (Yld.move rfl) rfl ?_
    refine RL.nil ?_
    refine N.next ?_
    refine W.block ?_
    refine W.loopK (ι := RI) (fun x => (x.i ≤ ops.length ∧ MapP (fun a : Int => Value.int .i64 a) x.es x.ck x.m ∧ MR x.m ((ops.take x.i).foldl OpS.run (chg 1 last [] l)) ∧ Sl x.H x.p x.c 3 (((ops.take x.i).foldl OpS.run (chg 1 last [] l)).map Mb.c))) (fun x => [(42, .int .i64 (x.i : Nat))]) (fun x => [(108, single b8 (.cells [.int .i64 1, .slice x.p ((ops.take x.i).foldl OpS.run (chg 1 last [] l)).length x.c].toArray 30 (0, 0))), (241, single bm (.map x.es x.ck)), (242, x.H)]) (fun x => ops.length - x.i) (.cons (k := 2) rfl (.cons (k := 7) rfl (.cons (k := 8) rfl (.cons (k := 41) rfl .nil)))) (.cons (k := 0) rfl (.cons (k := 1) rfl (.cons (k := 240) rfl .nil))) ⟨0, es0, ck0, m0, Hn, pn, cn⟩ ?_ ?_ ?_ ?_
    · exact ⟨Nat.zero_le _, hM0, hR0, hSn⟩
    · exact (.as rfl (by first | rfl | (simp; done) | (congr 1; simp; done) | (congr 1; omega)) .nil)
    · exact (.cons rfl (.cons rfl (.cons rfl .nil)))
    rintro x ⟨hi, hMx, hRx, hSx⟩
    refine W.keep (.cons (k := 42) rfl (.cons (k := 2) rfl (.cons (k := 7) rfl (.cons (k := 8) rfl (.cons (k := 41) rfl .nil))))) (.cons (k := 108) rfl (.cons (k := 241) rfl (.cons (k := 242) rfl (.cons (k := 0) rfl (.cons (k := 1) rfl (.cons (k := 240) rfl .nil)))))) ?_
    refine W.seq ?_
    refine W.region ?_
    refine RL.q (Yld.bin rfl rfl BinV.lss) rfl ?_
    refine RL.nil ?_
    refine N.next ?_
    refine W.seq ?_
    first | refine W.condD rfl (fun hc43 => ?_) (fun hc43 => ?_) | (refine W.cond rfl (fun hc43 => ?_) (fun hc43 => ?_) <;> try simp only [Bool.or_eq_true, Bool.and_eq_true, Bool.not_eq_true', Bool.not_eq_false', decide_eq_true_eq, Bool.or_eq_false_iff, Bool.and_eq_false_iff, decide_eq_false_iff_not, beq_iff_eq, beq_eq_false_iff_ne, ne_eq, Decidable.not_not] at hc43)
    ·
      obtain ⟨o, ho⟩ : ∃ o, ops[x.i]? = some o := ⟨_, List.getElem?_eq_getElem (show x.i < ops.length by omega)⟩
      have hlo : (ops.map OpS.cells)[x.i]? = some [.int .i64 o.kd, .int .i64 o.a, .int .i64 o.b, .slice o.p o.l.length o.c] := by simp [ho, OpS.cells]
      have hlo2 := hL o (List.mem_of_getElem? ho)
      have hlo3 := hlo2.len_le
      simp only [iz_len, maxLen] at hlo3
      have hoo := hok o (List.mem_of_getElem? ho)
      have hKx := runs_ok (ops := ops.take x.i) (fun o h => hok o (List.mem_of_mem_take h)) hk0
      refine W.skip ?_
      refine N.next ?_
      refine W.seq ?_
      refine W.block ?_
      refine W.seq ?_
      refine W.region ?_
      refine RL.q (Yld.move rfl) rfl ?_
      refine RL.q (Yld.assign rfl) rfl ?_
      refine RL.nil ?_
      refine N.next ?_
      refine W.seq ?_
      refine W.draw (.q 0 (.q 1 (.q 2 (.q 3 (.q 4 (.q 5 (.two 6 (.q 7 (.q 8 (.q 9 (.one 10 (.one 11 (.q 12 .done)))))) 10 (.one 6 (.q 7 (.q 8 (.q 9 (.one 11 (.q 12 .done))))))))))))) (.cons (k := 0) rfl (.cons (k := 1) rfl (.cons (k := 108) rfl (.cons (k := 240) rfl .nil)))) mix (by kernel_rfl) (by kernel_rfl) ?_
      refine DL.q rfl (Yld.move rfl) rfl ?_
      refine DL.q rfl (Yld.loadW (c := 108) Try.underlying30 rfl sz30 rfl rfl (by first | exact single_self _ _ | exact pset_self _ _ _ | assumption) rfl) rfl ?_
      refine DL.q rfl (Yld.move rfl) rfl ?_
      refine DL.q rfl (Yld.move rfl) rfl ?_
      refine DL.q rfl (Yld.indexRow Try.underlying23 sz36 rfl rfl (by first | assumption | exact Own.sl (by assumption)) (by first | rfl | omega | (simp; done) | (simp; omega)) (by omega) (by first | omega | (simp; done) | (simp; omega))) rfl ?_
      refine DL.q rfl (by first | exact Yld.loadRow (cl := 1) Try.underlying36 rfl sz36 rfl rfl (by first | assumption | exact Own.sl (by assumption)) (by assumption) | exact Yld.loadRow (cl := 240) Try.underlying36 rfl sz36 rfl rfl (by first | assumption | exact Own.sl (by assumption)) (by assumption) | exact Yld.loadRow (cl := 108) Try.underlying36 rfl sz36 rfl rfl (by first | assumption | exact Own.sl (by assumption)) (by assumption) | exact Yld.loadRow (cl := 241) Try.underlying36 rfl sz36 rfl rfl (by first | assumption | exact Own.sl (by assumption)) (by assumption) | exact Yld.loadRow (cl := 242) Try.underlying36 rfl sz36 rfl rfl (by first | assumption | exact Own.sl (by assumption)) (by assumption)) rfl ?_
      refine DL.two ?_ ?_
      ·
        refine DL.one rfl (Eff.call ent14 [240, 241, 242, 1] [240, 241, 242, 1] (.cons rfl (.cons rfl (.cons rfl .nil))) (step_ct bp bm x.es x.ck x.m ((ops.take x.i).foldl OpS.run (chg 1 last [] l)) hMx hRx hKx _ _ _ hSx o.kd o.a o.b hoo.2.1 hoo.2.2.1 hoo.2.2.2 o.l _ _ _ hlo2 hoo.1) rfl rfl rfl rfl (by rintro _ _ ⟨_, _, _, _, _, _, _, _, _, _, rfl⟩; rfl)) rfl (by rintro _ _ ⟨_, ⟨es', ck', m', H', p', c', rfl, hM', hR', hS', rfl⟩, rfl⟩; repeat (first | exact .nil | refine .cons rfl ?_)) ?_
        rintro _ _ ⟨_, ⟨es', ck', m', H', p', c', rfl, hM', hR', hS', rfl⟩, rfl⟩
        have hKy : MOK (OpS.run ((ops.take x.i).foldl OpS.run (chg 1 last [] l)) o) := hKx.stp hoo.2.1 hoo.2.2.1 hoo.1
        refine DL.q rfl (Yld.move rfl) rfl ?_
        refine DL.q rfl (Yld.extract rfl rfl) rfl ?_
        refine DL.q rfl (Yld.extract rfl rfl) rfl ?_
        refine DL.one rfl (Eff.alloc 110 zc30) rfl (by rintro _ _ ⟨b10, rfl, rfl⟩; repeat (first | exact .nil | refine .cons rfl ?_)) ?_
        rintro _ _ ⟨b10, rfl, rfl⟩
        refine DL.one0 rfl (Eff.storeS (c := 110) _ sz30 rfl rfl rfl rfl rfl rfl rfl (by (try simp only [putAt, List.take, List.drop, List.nil_append, List.cons_append, List.append_nil, List.length_cons, List.length_nil, Nat.add_zero, Nat.zero_add, Nat.reduceAdd]); rfl)) (by rintro _ _ rfl; repeat (first | exact .nil | refine .cons rfl ?_)) ?_
        rintro _ _ rfl
        refine DL.q rfl (Yld.assign rfl) rfl ?_
        refine DL.done ?_
        refine N.next ?_
        refine W.keep (.cons (k := 2) rfl (.cons (k := 7) rfl (.cons (k := 8) rfl (.cons (k := 10) rfl (.cons (k := 11) rfl (.cons (k := 41) rfl (.cons (k := 42) rfl .nil))))))) (.cons (k := 0) rfl (.cons (k := 1) rfl (.cons (k := 108) rfl (.cons (k := 110) rfl (.cons (k := 240) rfl (.cons (k := 241) rfl (.cons (k := 242) rfl .nil))))))) ?_
        refine W.seq ?_
        refine W.region ?_
        refine RL.q (Yld.loadW (c := 110) Try.underlying30 rfl sz30 rfl rfl (by first | exact single_self _ _ | exact pset_self _ _ _ | assumption) rfl) rfl ?_
        refine RL.e0 (Eff.storeS (c := 108) _ sz30 rfl rfl rfl rfl rfl rfl rfl (by (try simp only [putAt, List.take, List.drop, List.nil_append, List.cons_append, List.append_nil, List.length_cons, List.length_nil, Nat.add_zero, Nat.zero_add, Nat.reduceAdd]); rfl)) ?_
        rintro _ _ rfl
        refine RL.nil ?_
        refine N.next ?_
        refine W.seq ?_
        refine W.region ?_
        refine RL.q (Yld.move rfl) rfl ?_
        refine RL.q (by first | exact Yld.notD rfl | exact Yld.not rfl) rfl ?_
        refine RL.q (Yld.move rfl) rfl ?_
        first | refine RL.as (t := 58) rfl (boolF (by first | assumption | omega | (simp; done))) ?_ | refine RL.as (t := 58) (v := .bool false) rfl rfl ?_
        refine RL.gq rfl rfl (Yld.move rfl) rfl ?_
        refine RL.gq rfl rfl (Yld.loadW (c := 108) Try.underlying30 rfl sz30 rfl rfl (by first | exact single_self _ _ | exact pset_self _ _ _ | assumption) rfl) rfl ?_
        refine RL.ge rfl rfl (Eff.call ent13 [240, 241, 242] [240, 241, 242] (.cons rfl (.cons rfl .nil)) (same_ct bp bm es' ck' m' (OpS.run ((ops.take x.i).foldl OpS.run (chg 1 last [] l)) o) hM' hR' hKy _ _ _ hS') rfl rfl rfl rfl (by rintro _ _ ⟨_, rfl⟩; rfl)) rfl ?_
        rintro _ _ ⟨_, ⟨rfl, rfl⟩, rfl⟩
        refine RL.gq rfl rfl (by first | exact Yld.notD rfl | exact Yld.not rfl) rfl ?_
        refine RL.q (by first | exact Yld.pickT rfl rfl | exact Yld.pickF rfl rfl) rfl ?_
        refine RL.nil ?_
        refine N.next ?_
        refine W.keep (.cons (k := 2) rfl (.cons (k := 7) rfl (.cons (k := 8) rfl (.cons (k := 41) rfl (.cons (k := 42) rfl (.cons (k := 63) rfl .nil)))))) (.cons (k := 0) rfl (.cons (k := 1) rfl (.cons (k := 108) rfl (.cons (k := 110) rfl (.cons (k := 240) rfl (.cons (k := 241) rfl (.cons (k := 242) rfl .nil))))))) ?_
        first | (refine W.as (t := 63) rfl (boolF (by first | assumption | omega | (simp; done))) ?_; refine W.condF rfl ?_) | refine W.condF rfl ?_
        refine W.skip ?_
        refine N.block_normal ?_
        refine N.next ?_
        refine W.region ?_
        refine RL.q (Yld.bin rfl rfl (by first | exact BinV.add (by omega) (by omega) | exact BinV.addW)) rfl ?_
        refine RL.q (Yld.move rfl) rfl ?_
        refine RL.nil ?_
        exact N.famK ⟨x.i + 1, es', ck', m', H', p', c'⟩ ⟨⟨by dsimp only; omega, hM', by dsimp only; rw [foldl_take ho]; exact hR', by dsimp only; rw [foldl_take ho]; exact hS'⟩, by dsimp only; omega⟩ (.as rfl (by first | rfl | (simp; done) | (congr 1; simp; done) | (congr 1; omega)) .nil) (.cons rfl (.cons rfl (.cons rfl (.cons rfl .nil)))) (.as rfl (by rw [foldl_take ho]; rfl) (.cons rfl (.cons rfl .nil))) (.cons rfl (.cons rfl (.cons rfl .nil)))
      ·
        refine DL.one rfl (Eff.alloc 110 zc30) rfl (by rintro _ _ ⟨b10, rfl, rfl⟩; repeat (first | exact .nil | refine .cons rfl ?_)) ?_
        rintro _ _ ⟨b10, rfl, rfl⟩
        refine DL.one rfl (Eff.call ent14 [240, 241, 242, 1] [240, 241, 242, 1] (.cons rfl (.cons rfl (.cons rfl .nil))) (step_ct bp bm x.es x.ck x.m ((ops.take x.i).foldl OpS.run (chg 1 last [] l)) hMx hRx hKx _ _ _ hSx o.kd o.a o.b hoo.2.1 hoo.2.2.1 hoo.2.2.2 o.l _ _ _ hlo2 hoo.1) rfl rfl rfl rfl (by rintro _ _ ⟨_, _, _, _, _, _, _, _, _, _, rfl⟩; rfl)) rfl (by rintro _ _ ⟨_, ⟨es', ck', m', H', p', c', rfl, hM', hR', hS', rfl⟩, rfl⟩; repeat (first | exact .nil | refine .cons rfl ?_)) ?_
        rintro _ _ ⟨_, ⟨es', ck', m', H', p', c', rfl, hM', hR', hS', rfl⟩, rfl⟩
        have hKy : MOK (OpS.run ((ops.take x.i).foldl OpS.run (chg 1 last [] l)) o) := hKx.stp hoo.2.1 hoo.2.2.1 hoo.1
        refine DL.q rfl (Yld.move rfl) rfl ?_
        refine DL.q rfl (Yld.extract rfl rfl) rfl ?_
        refine DL.q rfl (Yld.extract rfl rfl) rfl ?_
        refine DL.one0 rfl (Eff.storeS (c := 110) _ sz30 rfl rfl rfl rfl rfl rfl rfl (by (try simp only [putAt, List.take, List.drop, List.nil_append, List.cons_append, List.append_nil, List.length_cons, List.length_nil, Nat.add_zero, Nat.zero_add, Nat.reduceAdd]); rfl)) (by rintro _ _ rfl; repeat (first | exact .nil | refine .cons rfl ?_)) ?_
        rintro _ _ rfl
        refine DL.q rfl (Yld.assign rfl) rfl ?_
        refine DL.done ?_
        refine N.next ?_
        refine W.keep (.cons (k := 2) rfl (.cons (k := 7) rfl (.cons (k := 8) rfl (.cons (k := 10) rfl (.cons (k := 11) rfl (.cons (k := 41) rfl (.cons (k := 42) rfl .nil))))))) (.cons (k := 0) rfl (.cons (k := 1) rfl (.cons (k := 108) rfl (.cons (k := 110) rfl (.cons (k := 240) rfl (.cons (k := 241) rfl (.cons (k := 242) rfl .nil))))))) ?_
        refine W.seq ?_
        refine W.region ?_
        refine RL.q (Yld.loadW (c := 110) Try.underlying30 rfl sz30 rfl rfl (by first | exact single_self _ _ | exact pset_self _ _ _ | assumption) rfl) rfl ?_
        refine RL.e0 (Eff.storeS (c := 108) _ sz30 rfl rfl rfl rfl rfl rfl rfl (by (try simp only [putAt, List.take, List.drop, List.nil_append, List.cons_append, List.append_nil, List.length_cons, List.length_nil, Nat.add_zero, Nat.zero_add, Nat.reduceAdd]); rfl)) ?_
        rintro _ _ rfl
        refine RL.nil ?_
        refine N.next ?_
        refine W.seq ?_
        refine W.region ?_
        refine RL.q (Yld.move rfl) rfl ?_
        refine RL.q (by first | exact Yld.notD rfl | exact Yld.not rfl) rfl ?_
        refine RL.q (Yld.move rfl) rfl ?_
        first | refine RL.as (t := 58) rfl (boolF (by first | assumption | omega | (simp; done))) ?_ | refine RL.as (t := 58) (v := .bool false) rfl rfl ?_
        refine RL.gq rfl rfl (Yld.move rfl) rfl ?_
        refine RL.gq rfl rfl (Yld.loadW (c := 108) Try.underlying30 rfl sz30 rfl rfl (by first | exact single_self _ _ | exact pset_self _ _ _ | assumption) rfl) rfl ?_
        refine RL.ge rfl rfl (Eff.call ent13 [240, 241, 242] [240, 241, 242] (.cons rfl (.cons rfl .nil)) (same_ct bp bm es' ck' m' (OpS.run ((ops.take x.i).foldl OpS.run (chg 1 last [] l)) o) hM' hR' hKy _ _ _ hS') rfl rfl rfl rfl (by rintro _ _ ⟨_, rfl⟩; rfl)) rfl ?_
        rintro _ _ ⟨_, ⟨rfl, rfl⟩, rfl⟩
        refine RL.gq rfl rfl (by first | exact Yld.notD rfl | exact Yld.not rfl) rfl ?_
        refine RL.q (by first | exact Yld.pickT rfl rfl | exact Yld.pickF rfl rfl) rfl ?_
        refine RL.nil ?_
        refine N.next ?_
        refine W.keep (.cons (k := 2) rfl (.cons (k := 7) rfl (.cons (k := 8) rfl (.cons (k := 41) rfl (.cons (k := 42) rfl (.cons (k := 63) rfl .nil)))))) (.cons (k := 0) rfl (.cons (k := 1) rfl (.cons (k := 108) rfl (.cons (k := 110) rfl (.cons (k := 240) rfl (.cons (k := 241) rfl (.cons (k := 242) rfl .nil))))))) ?_
        first | (refine W.as (t := 63) rfl (boolF (by first | assumption | omega | (simp; done))) ?_; refine W.condF rfl ?_) | refine W.condF rfl ?_
        refine W.skip ?_
        refine N.block_normal ?_
        refine N.next ?_
        refine W.region ?_
        refine RL.q (Yld.bin rfl rfl (by first | exact BinV.add (by omega) (by omega) | exact BinV.addW)) rfl ?_
        refine RL.q (Yld.move rfl) rfl ?_
        refine RL.nil ?_
        exact N.famK ⟨x.i + 1, es', ck', m', H', p', c'⟩ ⟨⟨by dsimp only; omega, hM', by dsimp only; rw [foldl_take ho]; exact hR', by dsimp only; rw [foldl_take ho]; exact hS'⟩, by dsimp only; omega⟩ (.as rfl (by first | rfl | (simp; done) | (congr 1; simp; done) | (congr 1; omega)) .nil) (.cons rfl (.cons rfl (.cons rfl (.cons rfl .nil)))) (.as rfl (by rw [foldl_take ho]; rfl) (.cons rfl (.cons rfl .nil))) (.cons rfl (.cons rfl (.cons rfl .nil)))
    ·
      refine W.exit ?_
      refine N.then_exit ?_
      refine N.then_exit ?_
      refine N.block_eq ?_
      refine N.next ?_
      refine W.keep .nil (.cons (k := 0) rfl (.cons (k := 1) rfl (.cons (k := 108) rfl (.cons (k := 240) rfl (.cons (k := 241) rfl (.cons (k := 242) rfl .nil)))))) ?_
      refine W.seq ?_
      refine W.region ?_
      refine RL.q (Yld.assign rfl) rfl ?_
      refine RL.nil ?_
      refine N.next ?_
      refine W.ret ?_
      exact N.retBy [1] (.cons (.tmp rfl) .nil) rfl rfl rfl rfl ⟨rfl, rfl⟩

end Go.Proofs.Ytdkefpnebmmhlaa
