/- Readers, what they read. Written by program (walk2.py). -/
import Derived.Test.YtdjmdfnhnlijiaaGreatDoorW2
namespace Go.Proofs.YtdjmdfnhnlijiaaGreatDoor
open SL Cfg
set_option linter.unusedVariables false
set_option linter.unusedSimpArgs false
theorem ent78 : Ent Tryz.prog 78 := ⟨_, _, Tryz.func78, by kernel_rfl, rfl⟩
theorem ent76 : Ent Tryz.prog 76 := ⟨_, _, Tryz.func76, by kernel_rfl, rfl⟩
theorem ent79 : Ent Tryz.prog 79 := ⟨_, _, Tryz.func79, by kernel_rfl, rfl⟩
theorem ent77 : Ent Tryz.prog 77 := ⟨_, _, Tryz.func77, by kernel_rfl, rfl⟩
theorem ent75 : Ent Tryz.prog 75 := ⟨_, _, Tryz.func75, by kernel_rfl, rfl⟩
theorem lay108 : layS Tryz.prog 108 = some ([.slice none 0 0, .int .i64 0], [(0, 1), (1, 1)]) := by kernel_rfl
theorem readN_ct (r : Nat) (x : Rd) (H1 K G : PH) (hx : x.In H1) : Ct Tryz.prog 76 [.pointer (some ⟨r, 0, none⟩), .func (.func 78) [.pointer (some ⟨r, 0, none⟩)].toArray [].toArray] [single r (.cells [.slice x.p x.l.length x.c, .int .i64 x.e].toArray 108 (0, 0)), H1, K, G] (fun v Hs => ∃ y : Rd, y.In H1 ∧ y.s = (rdN x.s).2 ∧ v = .int .u64 (rdN x.s).1 ∧ Hs = [single r (.cells [.slice y.p y.l.length y.c, .int .i64 y.e].toArray 108 (0, 0)), H1, K, G]) :=
  (read_ct r x H1 K G G hx 78 [.pointer (some ⟨r, 0, none⟩)] [] (numV x.l) (numE x.l) (fun y => ∀ n q, decN x.l = some (n, q) → y.l = q) ent78 (fun _ => (number_ct r x H1 K G hx).mono fun v Hs ⟨y, h1, h2, h3, h4, h5⟩ => ⟨y, h1, h2, h3, h4, h5⟩)).mono (by
    obtain ⟨xp, xc, xl, xe⟩ := x
    rintro v Hs ⟨y, hy, ⟨he, rfl, rfl, rfl⟩ | ⟨he, hn, hl, hye, rfl, rfl⟩ | ⟨he, hn, hye, hR, rfl, rfl⟩⟩
    · have e1 : rdN (Rd.s ⟨xp, xc, xl, xe⟩) = (0, (xl, xe)) := rdN_err he
      exact ⟨_, hy, by rw [e1]; rfl, by rw [e1], rfl⟩
    · dsimp only at he hn; subst he
      have e0 := numE_ne hn
      have e1 : rdN (Rd.s ⟨xp, xc, xl, 0⟩) = (0, ([], 11)) := rdN_none e0
      exact ⟨y, hy, by rw [e1]; show (y.l, y.e) = _; rw [hl, hye]; dsimp only; rw [(num_none e0).2], by rw [e1], rfl⟩
    · dsimp only at he hn; subst he
      obtain ⟨n, q, e0⟩ := numE_eq hn
      have e1 : rdN (Rd.s ⟨xp, xc, xl, 0⟩) = (n, (q, 0)) := rdN_some e0
      exact ⟨y, hy, by rw [e1]; show (y.l, y.e) = _; rw [hR n q e0, hye], by rw [e1]; dsimp only; rw [(num_some e0).1], rfl⟩)

set_option maxRecDepth 100000 in
set_option maxHeartbeats 400000 in
theorem Number_ct (r : Nat) (x : Rd) (H1 : PH) (hx : x.In H1) : Ct Tryz.prog 79 [.pointer (some ⟨r, 0, none⟩)] [single r (.cells [.slice x.p x.l.length x.c, .int .i64 x.e].toArray 108 (0, 0)), H1] (fun v Hs => ∃ y : Rd, y.In H1 ∧ y.s = (rdN x.s).2 ∧ v = .int .u64 (rdN x.s).1 ∧ Hs = [single r (.cells [.slice y.p y.l.length y.c, .int .i64 y.e].toArray 108 (0, 0)), H1]) := by
  refine Ct.body Tryz.func79 rfl Tryz.ntmps79 rfl ?_
  intro E F
  refine W.seq ?_
  refine W.imp (Imp.empty _ 90) ?_
  refine W.imp (Imp.empty _ 91) ?_
  refine W.region ?_
  refine RL.q (Yld.assign rfl) rfl ?_
  refine RL.nil ?_
  refine N.next ?_
  refine W.seq ?_
  refine W.region ?_
  refine RL.q (Yld.move rfl) rfl ?_
  refine RL.q (Yld.move rfl) rfl ?_
  refine RL.q (Yld.makeFunc (eval1 rfl) eval0) rfl ?_
  refine RL.e (Eff.call ent76 [1, 2, 90, 91] [1, 2, 90, 91] (.cons rfl (.cons rfl .nil)) (readN_ct r x H1 emp emp hx) rfl rfl rfl rfl (by rintro _ _ ⟨_, _, _, _, rfl⟩; rfl)) rfl ?_
  rintro _ _ ⟨_, ⟨y, hy, hys, rfl, rfl⟩, rfl⟩
  refine RL.q (Yld.assign rfl) rfl ?_
  refine RL.nil ?_
  refine N.next ?_
  refine W.keep (.cons (k := 2) rfl .nil) (.cons (k := 0) rfl (.cons (k := 1) rfl (.cons (k := 2) rfl (.cons (k := 90) rfl (.cons (k := 91) rfl .nil))))) ?_
  refine W.ret ?_
  exact N.retBy [1, 2] (.cons (.tmp rfl) .nil) rfl rfl rfl rfl ⟨y, hy, hys, rfl, rfl⟩

set_option maxRecDepth 100000 in
set_option maxHeartbeats 1600000 in
theorem Int_ct (r : Nat) (x : Rd) (H1 : PH) (hx : x.In H1) : Ct Tryz.prog 49 [.pointer (some ⟨r, 0, none⟩)] [single r (.cells [.slice x.p x.l.length x.c, .int .i64 x.e].toArray 108 (0, 0)), H1] (fun v Hs => ∃ y : Rd, y.In H1 ∧ y.s = (rdZ x.s).2 ∧ v = .int .i64 (rdZ x.s).1 ∧ Hs = [single r (.cells [.slice y.p y.l.length y.c, .int .i64 y.e].toArray 108 (0, 0)), H1]) := by
  refine Ct.body Tryz.func49 rfl Tryz.ntmps49 rfl ?_
  intro E F
  have hu := (rdN_byt (s := x.s) hx.byt).2
  obtain ⟨n, hn⟩ : ∃ n, (rdN x.s).1 = n := ⟨_, rfl⟩
  rw [hn] at hu
  refine W.seq ?_
  refine W.region ?_
  refine RL.q (Yld.assign rfl) rfl ?_
  refine RL.nil ?_
  refine N.next ?_
  refine W.seq ?_
  refine W.region ?_
  refine RL.q (Yld.move rfl) rfl ?_
  refine RL.e (Eff.call ent79 [1, 2] [1, 2] (.cons rfl .nil) (Number_ct r x H1 hx) rfl rfl rfl rfl (by rintro _ _ ⟨_, _, _, _, rfl⟩; rfl)) rfl ?_
  rintro _ _ ⟨_, ⟨y, hy, hys, rfl, rfl⟩, rfl⟩
  rw [hn]
  refine RL.q (Yld.assign rfl) rfl ?_
  refine RL.nil ?_
  refine N.next ?_
  refine W.keep (.cons (k := 3) rfl .nil) (.cons (k := 0) rfl (.cons (k := 1) rfl (.cons (k := 2) rfl .nil))) ?_
  refine W.seq ?_
  refine W.region ?_
  refine RL.q (Yld.move rfl) rfl ?_
  refine RL.q (Yld.bin rfl rfl (BinV.shr (by omega) (by first | decide | (simp [IntKind.bits]; done) | (simp [IntKind.bits]; omega)))) rfl ?_
  refine RL.q (Yld.convIs Tryz.underlying82 Tryz.underlying2 rfl rfl) rfl ?_
  refine RL.q (Yld.move rfl) rfl ?_
  refine RL.q (Yld.bin rfl rfl BinV.and) rfl ?_
  refine RL.q (Yld.convIs Tryz.underlying82 Tryz.underlying2 rfl rfl) rfl ?_
  refine RL.q (Yld.neg rfl) rfl ?_
  refine RL.q (Yld.eq (v' := .int .i64 (unzig n)) (Yld.bin rfl rfl BinV.xor) (by rw [← unzig_bits hu])) rfl ?_
  refine RL.q (Yld.assign rfl) rfl ?_
  refine RL.nil ?_
  refine N.next ?_
  refine W.keep (.cons (k := 2) rfl .nil) (.cons (k := 0) rfl (.cons (k := 1) rfl (.cons (k := 2) rfl .nil))) ?_
  refine W.ret ?_
  exact N.retBy [1, 2] (.cons (.tmp rfl) .nil) rfl rfl rfl rfl ⟨y, hy, hys, by unfold rdZ; rw [hn]; rfl, rfl⟩

set_option maxRecDepth 100000 in
set_option maxHeartbeats 3200000 in
theorem countC_ct (r b b3 : Nat) (x : Rd) (H1 : PH) (hx : x.In H1) (most : Int) (hm : most ≤ 9223372036854775807) (he : x.e = 0) : Ct Tryz.prog 77 [.pointer (some ⟨b, 0, none⟩), .pointer (some ⟨b3, 0, none⟩)] [single r (.cells [.slice x.p x.l.length x.c, .int .i64 x.e].toArray 108 (0, 0)), H1, single b (.cells [Value.pointer (some ⟨r, 0, none⟩)].toArray 71 (0, 0)), single b3 (.cells [Value.int .i64 most].toArray 3 (0, 0))] (fun v Hs => ∃ y : Rd, y.In H1 ∧ y.e = x.e ∧ (∀ n q, decN x.l = some (n, q) → y.l = q) ∧ v = .tuple #[.int .u64 (cntV x.l most), .int .i64 (cntE x.l most)] ∧ Hs = [single r (.cells [.slice y.p y.l.length y.c, .int .i64 y.e].toArray 108 (0, 0)), H1, single b (.cells [Value.pointer (some ⟨r, 0, none⟩)].toArray 71 (0, 0)), single b3 (.cells [Value.int .i64 most].toArray 3 (0, 0))]) := by
  refine Ct.body Tryz.func77 rfl Tryz.ntmps77 rfl ?_
  intro E F
  have hmx := hx.sl.len_le
  simp only [bz_len, maxLen] at hmx
  have hxs := hx.sl
  have hnu := numV_u64 hx.byt
  refine W.seq ?_
  refine W.region ?_
  refine RL.q (Yld.assign rfl) rfl ?_
  refine RL.q (Yld.assign rfl) rfl ?_
  refine RL.nil ?_
  refine N.next ?_
  refine W.seq ?_
  refine W.region ?_
  refine RL.q (Yld.load1 (c := 3) Tryz.underlying71 rfl rfl rfl (by first | exact single_self _ _ | exact pset_self _ _ _ | assumption) rfl) rfl ?_
  refine RL.e (Eff.call ent78 [1, 2, 3, 4] [1, 2, 3, 4] (.cons rfl .nil) (number_ct r x H1 (single b (.cells [Value.pointer (some ⟨r, 0, none⟩)].toArray 71 (0, 0))) (single b3 (.cells [Value.int .i64 most].toArray 3 (0, 0))) hx) rfl rfl rfl rfl (by rintro _ _ ⟨_, _, _, _, _, rfl⟩; rfl)) rfl ?_
  rintro _ _ ⟨_, ⟨y, hy, hye, hyl, rfl, rfl⟩, rfl⟩
  obtain ⟨nu, hN⟩ : ∃ nu, numV x.l = nu := ⟨_, rfl⟩
  rw [hN] at hnu ⊢
  obtain ⟨hnu0, hnu1⟩ := hnu
  refine RL.q (Yld.move rfl) rfl ?_
  refine RL.q (Yld.extract rfl rfl) rfl ?_
  refine RL.q (Yld.extract rfl rfl) rfl ?_
  refine RL.q (Yld.assign rfl) rfl ?_
  refine RL.q (Yld.assign rfl) rfl ?_
  refine RL.nil ?_
  refine N.next ?_
  refine W.keep (.cons (k := 1) rfl (.cons (k := 4) rfl (.cons (k := 5) rfl .nil))) (.cons (k := 0) rfl (.cons (k := 1) rfl (.cons (k := 2) rfl (.cons (k := 3) rfl (.cons (k := 4) rfl .nil))))) ?_
  refine W.seq ?_
  refine W.block ?_
  refine W.seq ?_
  refine W.region ?_
  refine RL.q (Yld.move rfl) rfl ?_
  refine RL.q (Yld.bin rfl rfl BinV.neq) rfl ?_
  refine RL.q (Yld.assign rfl) rfl ?_
  refine RL.nil ?_
  refine N.next ?_
  first | refine W.condD rfl (fun hc13 => ?_) (fun hc13 => ?_) | (refine W.cond rfl (fun hc13 => ?_) (fun hc13 => ?_) <;> try simp only [Bool.or_eq_true, Bool.and_eq_true, Bool.not_eq_true', Bool.not_eq_false', decide_eq_true_eq, Bool.or_eq_false_iff, Bool.and_eq_false_iff, decide_eq_false_iff_not, beq_iff_eq, beq_eq_false_iff_ne, ne_eq, Decidable.not_not] at hc13)
  ·
    have hnone : decN x.l = none := numE_ne hc13
    obtain ⟨e1, e2⟩ := num_none hnone
    obtain ⟨e3, e4⟩ := cnt_none (most := most) hnone
    refine W.seq ?_
    refine W.region ?_
    refine RL.q (Yld.move rfl) rfl ?_
    refine RL.q (Yld.assign rfl) rfl ?_
    refine RL.q (Yld.assign rfl) rfl ?_
    refine RL.nil ?_
    refine N.next ?_
    refine W.keep (.cons (k := 2) rfl (.cons (k := 3) rfl .nil)) (.cons (k := 0) rfl (.cons (k := 1) rfl (.cons (k := 2) rfl (.cons (k := 3) rfl (.cons (k := 4) rfl .nil))))) ?_
    refine W.ret ?_
    refine N.block_ret ?_
    refine N.then_ret ?_
    exact N.retBy [1, 2, 3, 4] (.cons (.tmp rfl) (.cons (.tmp rfl) .nil)) rfl rfl rfl rfl ⟨y, hy, hye, hyl, by rw [e3, e4, e2]; rfl, rfl⟩
  ·
    obtain ⟨n, q, e⟩ := numE_eq (l := x.l) (by omega)
    obtain ⟨e1, e2⟩ := num_some e
    obtain rfl : n = nu := by rw [← hN, e1]
    obtain ⟨e3, e4⟩ := cnt_some (most := most) e
    refine W.seq ?_
    refine W.region ?_
    refine RL.q (Yld.load1 (c := 4) Tryz.underlying3 rfl rfl rfl (by first | exact single_self _ _ | exact pset_self _ _ _ | assumption) rfl) rfl ?_
    refine RL.q (Yld.bin rfl rfl BinV.lss) rfl ?_
    refine RL.q (Yld.move rfl) rfl ?_
    refine' RL.or (t := 18) (d := 23) 5 rfl (.cons (k := 1) rfl (.cons (k := 4) rfl (.cons (k := 5) rfl (.cons (k := 11) rfl (.cons (k := 12) rfl (.cons (k := 13) rfl (.cons (k := 16) rfl (.cons (k := 17) rfl .nil)))))))) (.cons (k := 0) rfl (.cons (k := 1) rfl (.cons (k := 2) rfl (.cons (k := 3) rfl (.cons (k := 4) rfl .nil))))) ?_ ?_ ?_
    rotate_left 1
    ·
      intro hg18
      have hg18 := of_decide_eq_false hg18
      refine RL.gq rfl rfl (Yld.move rfl) rfl ?_
      refine RL.gq rfl rfl (Yld.load1 (c := 4) Tryz.underlying3 rfl rfl rfl (by first | exact single_self _ _ | exact pset_self _ _ _ | assumption) rfl) rfl ?_
      refine RL.gq rfl rfl (Yld.convIs Tryz.underlying3 Tryz.underlying82 rfl (by first | exact IntWalk.u64_in _ ⟨by omega, by omega⟩ | rfl)) rfl ?_
      refine RL.gq rfl rfl (Yld.bin rfl rfl BinV.gtr) rfl ?_
      refine RL.q (by first | exact Yld.pickT rfl rfl | exact Yld.pickF rfl rfl) rfl ?_
      exact RL.nil (N.meet (.cons rfl (.cons rfl (.cons rfl (.cons rfl (.cons rfl (.cons rfl (.cons rfl (.cons rfl (.cons rfl .nil))))))))) (.cons rfl (.cons rfl (.cons rfl (.cons rfl (.cons rfl .nil))))))
    ·
      intro hg18
      refine RL.gskip rfl rfl rfl rfl ?_
      refine RL.gskip rfl rfl rfl rfl ?_
      refine RL.gskip rfl rfl rfl rfl ?_
      refine RL.gskip rfl rfl rfl rfl ?_
      refine RL.q (by first | exact Yld.pickT rfl rfl | exact Yld.pickF rfl rfl) rfl ?_
      exact RL.nil (N.meet (.cons rfl (.cons rfl (.cons rfl (.cons rfl (.cons rfl (.cons rfl (.cons rfl (.cons rfl (.cons rfl .nil))))))))) (.cons rfl (.cons rfl (.cons rfl (.cons rfl (.cons rfl .nil))))))
    refine RL.q (Yld.assign rfl) rfl ?_
    refine RL.nil ?_
    refine N.next ?_
    refine W.keep (.cons (k := 4) rfl (.cons (k := 15) rfl .nil)) (.cons (k := 0) rfl (.cons (k := 1) rfl (.cons (k := 2) rfl (.cons (k := 3) rfl (.cons (k := 4) rfl .nil))))) ?_
    first | refine W.condD rfl (fun hc15 => ?_) (fun hc15 => ?_) | (refine W.cond rfl (fun hc15 => ?_) (fun hc15 => ?_) <;> try simp only [Bool.or_eq_true, Bool.and_eq_true, Bool.not_eq_true', Bool.not_eq_false', decide_eq_true_eq, Bool.or_eq_false_iff, Bool.and_eq_false_iff, decide_eq_false_iff_not, beq_iff_eq, beq_eq_false_iff_ne, ne_eq, Decidable.not_not] at hc15)
    ·
      refine W.seq ?_
      refine W.region ?_
      refine RL.q (Yld.assign rfl) rfl ?_
      refine RL.q (Yld.assign rfl) rfl ?_
      refine RL.nil ?_
      refine N.next ?_
      refine W.ret ?_
      refine N.block_ret ?_
      refine N.then_ret ?_
      exact N.retBy [1, 2, 3, 4] (.cons (.tmp rfl) (.cons (.tmp rfl) .nil)) rfl rfl rfl rfl ⟨y, hy, hye, hyl, by rw [e3, e4, if_pos (by omega), if_pos (by omega)]; rfl, rfl⟩
    ·
      refine W.skip ?_
      refine N.block_normal ?_
      refine N.next ?_
      refine W.seq ?_
      refine W.region ?_
      refine RL.q (Yld.move rfl) rfl ?_
      refine RL.q (Yld.assign rfl) rfl ?_
      refine RL.q (Yld.assign rfl) rfl ?_
      refine RL.nil ?_
      refine N.next ?_
      refine W.ret ?_
      exact N.retBy [1, 2, 3, 4] (.cons (.tmp rfl) (.cons (.tmp rfl) .nil)) rfl rfl rfl rfl ⟨y, hy, hye, hyl, by rw [e3, e4, if_neg (by omega), if_neg (by omega)]; rfl, rfl⟩

theorem readC_ct (r b b3 : Nat) (x : Rd) (H1 : PH) (hx : x.In H1) (most : Int) (hm : most ≤ 9223372036854775807) : Ct Tryz.prog 76 [.pointer (some ⟨r, 0, none⟩), .func (.func 77) [].toArray [.pointer (some ⟨b, 0, none⟩), .pointer (some ⟨b3, 0, none⟩)].toArray] [single r (.cells [.slice x.p x.l.length x.c, .int .i64 x.e].toArray 108 (0, 0)), H1, single b (.cells [Value.pointer (some ⟨r, 0, none⟩)].toArray 71 (0, 0)), single b3 (.cells [Value.int .i64 most].toArray 3 (0, 0))] (fun v Hs => ∃ y : Rd, y.In H1 ∧ y.s = (rdC x.s most).2 ∧ v = .int .u64 (rdC x.s most).1 ∧ Hs = [single r (.cells [.slice y.p y.l.length y.c, .int .i64 y.e].toArray 108 (0, 0)), H1, single b (.cells [Value.pointer (some ⟨r, 0, none⟩)].toArray 71 (0, 0)), single b3 (.cells [Value.int .i64 most].toArray 3 (0, 0))]) :=
  (read_ct r x H1 (single b (.cells [Value.pointer (some ⟨r, 0, none⟩)].toArray 71 (0, 0))) (single b3 (.cells [Value.int .i64 most].toArray 3 (0, 0))) (single b3 (.cells [Value.int .i64 most].toArray 3 (0, 0))) hx 77 [] [Value.pointer (some ⟨b, 0, none⟩), Value.pointer (some ⟨b3, 0, none⟩)] (cntV x.l most) (cntE x.l most) (fun y => ∀ n q, decN x.l = some (n, q) → y.l = q) ent77 (fun he => countC_ct r b b3 x H1 hx most hm he)).mono (by
    obtain ⟨xp, xc, xl, xe⟩ := x
    rintro v Hs ⟨y, hy, ⟨he, rfl, rfl, rfl⟩ | ⟨he, hn, hl, hye, rfl, rfl⟩ | ⟨he, hn, hye, hR, rfl, rfl⟩⟩
    · have e1 : rdC (Rd.s ⟨xp, xc, xl, xe⟩) most = (0, (xl, xe)) := rdC_err he
      exact ⟨_, hy, by rw [e1]; rfl, by rw [e1], rfl⟩
    · dsimp only at he hn hye ⊢; subst he
      have e1 : rdC (Rd.s ⟨xp, xc, xl, 0⟩) most = (0, ([], cntE xl most)) := by
        cases e0 : decN xl with
        | none => rw [(cnt_none e0).1]; exact rdC_none e0
        | some z =>
          have h5 := (cnt_some (n := z.1) (r := z.2) (most := most) e0).1
          by_cases e4 : most < 0 ∨ most < z.1
          · rw [if_pos e4] at h5; rw [h5]; exact (rdC_some (n := z.1) (r := z.2) e0).trans (if_pos e4)
          · rw [if_neg e4] at h5; exact absurd h5 hn
      exact ⟨y, hy, by rw [e1]; show (y.l, y.e) = _; rw [hl, hye], by rw [e1], rfl⟩
    · dsimp only at he hn hR ⊢; subst he
      cases e0 : decN xl with
      | none => rw [(cnt_none e0).1] at hn; cases hn
      | some z =>
        have h5 := cnt_some (n := z.1) (r := z.2) (most := most) e0
        by_cases e4 : most < 0 ∨ most < z.1
        · rw [if_pos e4] at h5; rw [h5.1] at hn; cases hn
        · have e1 : rdC (Rd.s ⟨xp, xc, xl, 0⟩) most = (z.1, (z.2, 0)) := (rdC_some (n := z.1) (r := z.2) e0).trans (if_neg e4)
          rw [if_neg e4, if_neg e4] at h5
          exact ⟨y, hy, by rw [e1]; show (y.l, y.e) = _; rw [hR z.1 z.2 e0, hye], by rw [e1, h5.2], rfl⟩)

set_option maxRecDepth 100000 in
set_option maxHeartbeats 1600000 in
theorem Count_ct (r : Nat) (x : Rd) (H1 : PH) (hx : x.In H1) (most : Int) (hm : most ≤ 9223372036854775807) : Ct Tryz.prog 47 [.pointer (some ⟨r, 0, none⟩), .int .i64 most] [single r (.cells [.slice x.p x.l.length x.c, .int .i64 x.e].toArray 108 (0, 0)), H1] (fun v Hs => ∃ y : Rd, y.In H1 ∧ y.s = (rdC x.s most).2 ∧ v = .int .i64 (rdC x.s most).1 ∧ Hs = [single r (.cells [.slice y.p y.l.length y.c, .int .i64 y.e].toArray 108 (0, 0)), H1]) := by
  refine Ct.body Tryz.func47 rfl Tryz.ntmps47 rfl ?_
  intro E F
  have hcr := rdC_range (s := x.s) (most := most) hx.byt hm
  obtain ⟨cv, hcv⟩ : ∃ cv, (rdC x.s most).1 = cv := ⟨_, rfl⟩
  rw [hcv] at hcr ⊢
  refine W.seq ?_
  refine W.region ?_
  refine RL.e (Eff.box 102 _ rfl rfl) rfl ?_
  rintro _ _ ⟨b2, rfl, rfl⟩
  refine RL.e (Eff.box 103 _ rfl rfl) rfl ?_
  rintro _ _ ⟨b3, rfl, rfl⟩
  refine RL.q (Yld.assign rfl) rfl ?_
  refine RL.nil ?_
  refine N.next ?_
  refine W.seq ?_
  refine W.region ?_
  refine RL.q (Yld.load1 (c := 102) Tryz.underlying71 rfl rfl rfl (by first | exact single_self _ _ | exact pset_self _ _ _ | assumption) rfl) rfl ?_
  refine RL.q (Yld.makeFunc eval0 (eval2 rfl rfl)) rfl ?_
  refine RL.e (Eff.call ent76 [1, 2, 102, 103] [1, 2, 102, 103] (.cons rfl (.cons rfl .nil)) (readC_ct r b2 b3 x H1 hx most hm) rfl rfl rfl rfl (by rintro _ _ ⟨_, _, _, _, rfl⟩; rfl)) rfl ?_
  rintro _ _ ⟨_, ⟨y, hy, hys, rfl, rfl⟩, rfl⟩
  rw [hcv]
  refine RL.q (Yld.convIs Tryz.underlying82 Tryz.underlying3 rfl (by first | exact IntWalk.i64_in _ ⟨by omega, by omega⟩ | rfl)) rfl ?_
  refine RL.q (Yld.assign rfl) rfl ?_
  refine RL.nil ?_
  refine N.next ?_
  refine W.keep (.cons (k := 4) rfl .nil) (.cons (k := 0) rfl (.cons (k := 1) rfl (.cons (k := 2) rfl (.cons (k := 102) rfl (.cons (k := 103) rfl .nil))))) ?_
  refine W.ret ?_
  exact N.retBy [1, 2] (.cons (.tmp rfl) .nil) rfl rfl rfl rfl ⟨y, hy, hys, rfl, rfl⟩

set_option maxRecDepth 100000 in
set_option maxHeartbeats 400000 in
theorem End_ct (r : Nat) (x : Rd) (H1 : PH) (hx : x.In H1) : Ct Tryz.prog 50 [.pointer (some ⟨r, 0, none⟩)] [single r (.cells [.slice x.p x.l.length x.c, .int .i64 x.e].toArray 108 (0, 0)), H1] (fun v Hs => v = .int .i64 (rdE x.s) ∧ Hs = [single r (.cells [.slice x.p x.l.length x.c, .int .i64 x.e].toArray 108 (0, 0)), H1]) := by
  refine Ct.body Tryz.func50 rfl Tryz.ntmps50 rfl ?_
  intro E F
  have hmx := hx.sl.len_le
  simp only [bz_len, maxLen] at hmx
  have hxs := hx.sl
  refine W.seq ?_
  refine W.region ?_
  refine RL.q (Yld.assign rfl) rfl ?_
  refine RL.nil ?_
  refine N.next ?_
  refine W.seq ?_
  refine W.seq ?_
  refine W.region ?_
  refine RL.q (Yld.move rfl) rfl ?_
  refine RL.q (Yld.nilP rfl) rfl ?_
  refine RL.q (Yld.fieldAddr fo108_1 rfl) rfl ?_
  refine RL.q (Yld.load1 (c := 1) Tryz.underlying45 rfl rfl rfl (by first | exact single_self _ _ | exact pset_self _ _ _ | assumption) rfl) rfl ?_
  refine RL.q (Yld.bin rfl rfl BinV.eql) rfl ?_
  refine RL.q (Yld.move rfl) rfl ?_
  refine' RL.and (t := 8) (d := 15) 7 rfl (.cons (k := 0) rfl (.cons (k := 2) rfl (.cons (k := 3) rfl (.cons (k := 4) rfl (.cons (k := 5) rfl (.cons (k := 6) rfl (.cons (k := 7) rfl .nil))))))) (.cons (k := 0) rfl (.cons (k := 1) rfl (.cons (k := 2) rfl .nil))) ?_ ?_ ?_
  rotate_left 1
  ·
    intro hg8
    refine RL.gq rfl rfl (Yld.move rfl) rfl ?_
    refine RL.gq rfl rfl (Yld.nilP rfl) rfl ?_
    refine RL.gq rfl rfl (Yld.fieldAddr fo108_0 rfl) rfl ?_
    refine RL.gq rfl rfl (Yld.load1 (c := 1) Tryz.underlying73 rfl rfl rfl (by first | exact single_self _ _ | exact pset_self _ _ _ | assumption) rfl) rfl ?_
    refine RL.gq rfl rfl (Yld.lenSl Tryz.underlying73 rfl) rfl ?_
    refine RL.gq rfl rfl (Yld.bin rfl rfl BinV.gtr) rfl ?_
    refine RL.q (by first | exact Yld.pickT rfl rfl | exact Yld.pickF rfl rfl) rfl ?_
    exact RL.nil (N.meet (.cons rfl (.cons rfl (.cons rfl (.cons rfl (.cons rfl (.cons rfl (.cons rfl (.cons rfl .nil)))))))) (.cons rfl (.cons rfl (.cons rfl .nil))))
  ·
    intro hg8
    refine RL.gskip rfl rfl rfl rfl ?_
    refine RL.gskip rfl rfl rfl rfl ?_
    refine RL.gskip rfl rfl rfl rfl ?_
    refine RL.gskip rfl rfl rfl rfl ?_
    refine RL.gskip rfl rfl rfl rfl ?_
    refine RL.gskip rfl rfl rfl rfl ?_
    refine RL.q (by first | exact Yld.pickT rfl rfl | exact Yld.pickF rfl rfl) rfl ?_
    exact RL.nil (N.meet (.cons rfl (.cons rfl (.cons rfl (.cons rfl (.cons rfl (.cons rfl (.cons rfl (.cons rfl .nil)))))))) (.cons rfl (.cons rfl (.cons rfl .nil))))
  refine RL.nil ?_
  refine N.next ?_
  refine W.keep (.cons (k := 0) rfl (.cons (k := 15) rfl .nil)) (.cons (k := 0) rfl (.cons (k := 1) rfl (.cons (k := 2) rfl .nil))) ?_
  first | refine W.condD rfl (fun hc15 => ?_) (fun hc15 => ?_) | (refine W.cond rfl (fun hc15 => ?_) (fun hc15 => ?_) <;> try simp only [Bool.or_eq_true, Bool.and_eq_true, Bool.not_eq_true', Bool.not_eq_false', decide_eq_true_eq, Bool.or_eq_false_iff, Bool.and_eq_false_iff, decide_eq_false_iff_not, beq_iff_eq, beq_eq_false_iff_ne, ne_eq, Decidable.not_not] at hc15)
  ·
    refine W.seq ?_
    refine W.region ?_
    refine RL.q (Yld.assign rfl) rfl ?_
    refine RL.nil ?_
    refine N.next ?_
    refine W.ret ?_
    refine N.then_ret ?_
    exact N.retBy [1, 2] (.cons (.tmp rfl) .nil) rfl rfl rfl rfl ⟨by show _ = Value.int .i64 (rdE (x.l, x.e)); rw [rdE_pos (by omega)]; rfl, rfl⟩
  ·
    refine W.skip ?_
    refine N.next ?_
    refine W.seq ?_
    refine W.region ?_
    refine RL.q (Yld.move rfl) rfl ?_
    refine RL.q (Yld.nilP rfl) rfl ?_
    refine RL.q (Yld.fieldAddr fo108_1 rfl) rfl ?_
    refine RL.q (Yld.load1 (c := 1) Tryz.underlying45 rfl rfl rfl (by first | exact single_self _ _ | exact pset_self _ _ _ | assumption) rfl) rfl ?_
    refine RL.q (Yld.assign rfl) rfl ?_
    refine RL.nil ?_
    refine N.next ?_
    refine W.keep (.cons (k := 2) rfl .nil) (.cons (k := 0) rfl (.cons (k := 1) rfl (.cons (k := 2) rfl .nil))) ?_
    refine W.ret ?_
    exact N.retBy [1, 2] (.cons (.tmp rfl) .nil) rfl rfl rfl rfl ⟨by show _ = Value.int .i64 (rdE (x.l, x.e)); rw [rdE_neg (by omega)]; rfl, rfl⟩

set_option maxRecDepth 100000 in
set_option maxHeartbeats 400000 in
theorem Left_ct (r : Nat) (x : Rd) (H1 : PH) (hx : x.In H1) : Ct Tryz.prog 48 [.pointer (some ⟨r, 0, none⟩)] [single r (.cells [.slice x.p x.l.length x.c, .int .i64 x.e].toArray 108 (0, 0)), H1] (fun v Hs => v = .int .i64 (x.l.length : Nat) ∧ Hs = [single r (.cells [.slice x.p x.l.length x.c, .int .i64 x.e].toArray 108 (0, 0)), H1]) := by
  refine Ct.body Tryz.func48 rfl Tryz.ntmps48 rfl ?_
  intro E F
  have hmx := hx.sl.len_le
  simp only [bz_len, maxLen] at hmx
  have hxs := hx.sl
  refine W.seq ?_
  refine W.region ?_
  refine RL.q (Yld.assign rfl) rfl ?_
  refine RL.nil ?_
  refine N.next ?_
  refine W.seq ?_
  refine W.region ?_
  refine RL.q (Yld.move rfl) rfl ?_
  refine RL.q (Yld.nilP rfl) rfl ?_
  refine RL.q (Yld.fieldAddr fo108_0 rfl) rfl ?_
  refine RL.q (Yld.load1 (c := 1) Tryz.underlying73 rfl rfl rfl (by first | exact single_self _ _ | exact pset_self _ _ _ | assumption) rfl) rfl ?_
  refine RL.q (Yld.lenSl Tryz.underlying73 rfl) rfl ?_
  refine RL.q (Yld.assign rfl) rfl ?_
  refine RL.nil ?_
  refine N.next ?_
  refine W.keep (.cons (k := 2) rfl .nil) (.cons (k := 0) rfl (.cons (k := 1) rfl (.cons (k := 2) rfl .nil))) ?_
  refine W.ret ?_
  exact N.retBy [1, 2] (.cons (.tmp rfl) .nil) rfl rfl rfl rfl ⟨rfl, rfl⟩

set_option maxRecDepth 100000 in
set_option maxHeartbeats 400000 in
theorem cloneB_ct (l : List Int) (H1 : PH) (p : Option Addr) (c : Nat) (hl : Sl H1 p c 1 (bz l)) (hb : l.length ≤ 1000000) : Ct Tryz.prog 75 [.slice p l.length c] [H1] (fun v Hs => ∃ H' p' c', v = .slice p' l.length c' ∧ Own H' p' c' 5 1 (bz l) ∧ Hs = [H1, H']) := by
  refine Ct.body Tryz.func75 rfl Tryz.ntmps75 rfl ?_
  intro E F
  have hmx := hl.len_le
  simp only [bz_len, maxLen] at hmx
  refine W.seq ?_
  refine W.imp (Imp.empty _ 30) ?_
  refine W.region ?_
  refine RL.q (Yld.assign rfl) rfl ?_
  refine RL.nil ?_
  refine N.next ?_
  refine W.seq ?_
  refine W.seq ?_
  refine W.region ?_
  refine RL.q (Yld.move rfl) rfl ?_
  refine RL.q (Yld.bin rfl rfl (BinV.eqlSN Tryz.underlying73)) rfl ?_
  refine RL.nil ?_
  refine N.next ?_
  refine W.cond rfl (fun hc4 => ?_) (fun hc4 => ?_)
  ·
    obtain rfl : p = none := by cases p with | none => rfl | some a => cases hc4
    obtain ⟨hl0, _⟩ := hl
    obtain rfl : l = [] := List.map_eq_nil_iff.1 hl0
    refine W.seq ?_
    refine W.region ?_
    refine RL.q (Yld.assign rfl) rfl ?_
    refine RL.nil ?_
    refine N.next ?_
    refine W.ret ?_
    refine N.then_ret ?_
    exact N.retBy [1, 30] (.cons (.tmp rfl) .nil) rfl rfl rfl rfl ⟨emp, none, 0, rfl, Own.nil _ _, rfl⟩
  ·
    refine W.skip ?_
    refine N.next ?_
    refine W.seq ?_
    refine W.region ?_
    refine RL.e (Eff.buildSlice 105 Tryz.underlying73 sz5 zc5 rfl rfl .nil rfl) rfl ?_
    rintro _ _ ⟨b5, rfl, rfl⟩
    refine RL.q (Yld.move rfl) rfl ?_
    refine RL.e (Eff.appendE (tc := 105) (sc := 1) (fun z : Int => [Value.int .u8 z]) Tryz.underlying73 el5 rfl rfl rfl rfl (bz_none rfl) rfl hl rfl (bz_one1 _) (by decide) (by first | (simp; done) | (simp; omega)) (by first | (simp [maxLen]; done) | (simp [maxLen]; omega))) rfl ?_
    rintro _ _ ⟨Ha, pa, ca, rfl, hOa, rfl⟩
    refine RL.q (Yld.assign rfl) rfl ?_
    refine RL.nil ?_
    refine N.next ?_
    refine W.keep (.cons (k := 2) rfl .nil) (.cons (k := 0) rfl (.cons (k := 1) rfl (.cons (k := 30) rfl (.cons (k := 105) rfl .nil)))) ?_
    refine W.ret ?_
    exact N.retBy [1, 105] (.cons (.tmp rfl) .nil) rfl rfl rfl rfl ⟨Ha, pa, ca, rfl, hOa, rfl⟩

set_option maxRecDepth 100000 in
set_option maxHeartbeats 400000 in
theorem newReader_ct (l : List Int) (H1 : PH) (p : Option Addr) (c : Nat) (hl : Sl H1 p c 1 (bz l)) (hb : l.length ≤ 1000000) (hbt : Byt l) : Ct Tryz.prog 45 [.slice p l.length c] [H1] (fun v Hs => ∃ (r : Nat) (x : Rd) (H' : PH), v = .pointer (some ⟨r, 0, none⟩) ∧ x.In H' ∧ x.s = (l, 0) ∧ Hs = [H1, single r (.cells [.slice x.p x.l.length x.c, .int .i64 x.e].toArray 108 (0, 0)), H']) := by
  refine Ct.body Tryz.func45 rfl Tryz.ntmps45 rfl ?_
  intro E F
  refine W.seq ?_
  refine W.region ?_
  refine RL.q (Yld.assign rfl) rfl ?_
  refine RL.nil ?_
  refine N.next ?_
  refine W.seq ?_
  refine W.region ?_
  refine RL.q (Yld.move rfl) rfl ?_
  refine RL.e (Eff.call ent75 [1] [1, 30] (.cons rfl .nil) (cloneB_ct l _ _ _ hl hb) rfl rfl rfl rfl (by rintro _ _ ⟨_, _, _, _, _, rfl⟩; rfl)) rfl ?_
  rintro _ _ ⟨_, ⟨Hc, pc, cc, rfl, hOc, rfl⟩, rfl⟩
  refine RL.q (Yld.buildP lay108 (.cons rfl rfl .nil) rfl) rfl ?_
  refine RL.e (Eff.box 106 _ rfl rfl) rfl ?_
  rintro _ _ ⟨b6, rfl, rfl⟩
  refine RL.q (Yld.assign rfl) rfl ?_
  refine RL.nil ?_
  refine N.next ?_
  refine W.keep (.cons (k := 2) rfl .nil) (.cons (k := 0) rfl (.cons (k := 1) rfl (.cons (k := 30) rfl (.cons (k := 106) rfl .nil)))) ?_
  refine W.ret ?_
  exact N.retBy [1, 106, 30] (.cons (.tmp rfl) .nil) rfl rfl rfl rfl ⟨b6, ⟨pc, cc, l, 0⟩, Hc, rfl, ⟨hOc.sl, hbt⟩, rfl, rfl⟩

end Go.Proofs.YtdjmdfnhnlijiaaGreatDoor
