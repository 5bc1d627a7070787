/- Several texts in one, in their build order: what the proofs of this seat share. -/
import Derived.Test.YtboapdcmaeojgaaGreatDoorPS4
import Derived.Test.YtboapdcmaeojgaaGreatDoorPS1
import Derived.Lib.BitFns
import Derived.Laws.BitsAllLaws
import Derived.Laws.BitsLemmas
import Derived.Laws.BytesArg
import Derived.Lib.AppendStr
import Derived.Lib.ConvBytes
set_option linter.unusedVariables false
set_option linter.unusedSimpArgs false
set_option linter.unusedSectionVars false
namespace Go.Proofs.YtboapdcmaeojgaaGreatDoor
open SL Cat Fen
set_option linter.unusedVariables false
set_option linter.unusedSimpArgs false
theorem fo40_0 : fieldOff Tryz.prog 40 0 = some 0 := by kernel_rfl
theorem fo40_1 : fieldOff Tryz.prog 40 1 = some 1 := by kernel_rfl
theorem fo40_2 : fieldOff Tryz.prog 40 2 = some 2 := by kernel_rfl
theorem fo40_3 : fieldOff Tryz.prog 40 3 = some 3 := by kernel_rfl
theorem ent62 : Ent Tryz.prog 62 := ⟨_, _, Tryz.func62, by kernel_rfl, rfl⟩
theorem fo40_4 : fieldOff Tryz.prog 40 4 = some 7 := by kernel_rfl
theorem ent63 : Ent Tryz.prog 63 := ⟨_, _, Tryz.func63, by kernel_rfl, rfl⟩
theorem ent26 : Ent Tryz.prog 26 := ⟨_, _, Tryz.func26, by kernel_rfl, rfl⟩
theorem ent64 : Ent Tryz.prog 64 := ⟨_, _, Tryz.func64, by kernel_rfl, rfl⟩
theorem ent27 : Ent Tryz.prog 27 := ⟨_, _, Tryz.func27, by kernel_rfl, rfl⟩
theorem ent28 : Ent Tryz.prog 28 := ⟨_, _, Tryz.func28, by kernel_rfl, rfl⟩
set_option maxRecDepth 100000 in
set_option maxHeartbeats 1600000 in
theorem step_ct (m : Md) (H1 : PH) (hM : m.In H1) (mach : Int) (b : Nat) (t : T) (x : Tb) (hx : x.Is t) (y : Rt) (hy : y.In) (hyt : y.Is t) (o : Opn) (hv : MdV m) (k : Nat) (hk : k ≤ 1000) (hs : SI m mach k t) (hrp : o.c.rp ≤ 9223372036854775807) : Ct Tryz.prog 32 [.agg [.slice m.psi m.si.length m.csi, .slice m.pfe m.fe.length m.cfe, .slice m.prk m.rk.length m.crk, .slice m.pmc m.mc.length m.cmc, .slice m.pln m.ln.length m.cln, .slice m.pis m.is.length m.cis, .int .i64 m.da, .int .i64 m.sl, .int .i64 m.re, .int .i64 m.fa, .slice m.prl m.rl.length m.crl].toArray, .pointer (some ⟨b, 0, none⟩), .agg [.int .i64 mach, .slice y.pu y.us.length y.cu, .int .i64 y.gen, .slice y.ps y.st.length y.cs, .slice y.pv y.va.length y.cv, .slice y.pc y.cl.length y.cc].toArray, .agg o.cs.toArray] [H1, single b (.cells [.slice m.psi m.si.length m.csi, .slice m.pfe m.fe.length m.cfe, .slice m.prk m.rk.length m.crk, .slice m.pmc m.mc.length m.cmc, .slice m.pln m.ln.length m.cln, .slice m.pis m.is.length m.cis, .int .i64 m.da, .int .i64 m.sl, .int .i64 m.re, .int .i64 m.fa, .slice m.prl m.rl.length m.crl, .int .i64 mach, .slice x.pu x.nu x.cu, .slice x.pc x.nc x.cc, .int .i64 x.gen, .map (some x.d)].toArray 82 (0, 0)), x.HU, x.HC, single x.d (.map x.es x.ck), y.HU, y.HS, y.HV, y.HC] (fun v Hs => ∃ (x2 : Tb) (y2 : Rt) (bb : Bool), v = .tuple [.agg [.int .i64 mach, .slice y2.pu y2.us.length y2.cu, .int .i64 y2.gen, .slice y2.ps y2.st.length y2.cs, .slice y2.pv y2.va.length y2.cv, .slice y2.pc y2.cl.length y2.cc].toArray, .bool bb].toArray ∧ bb = true ∧ x2.Is (stepP m mach t o) ∧ y2.In ∧ y2.Is (stepP m mach t o) ∧ Hs = [H1, single b (.cells [.slice m.psi m.si.length m.csi, .slice m.pfe m.fe.length m.cfe, .slice m.prk m.rk.length m.crk, .slice m.pmc m.mc.length m.cmc, .slice m.pln m.ln.length m.cln, .slice m.pis m.is.length m.cis, .int .i64 m.da, .int .i64 m.sl, .int .i64 m.re, .int .i64 m.fa, .slice m.prl m.rl.length m.crl, .int .i64 mach, .slice x2.pu x2.nu x2.cu, .slice x2.pc x2.nc x2.cc, .int .i64 x2.gen, .map (some x2.d)].toArray 82 (0, 0)), x2.HU, x2.HC, single x2.d (.map x2.es x2.ck), y2.HU, y2.HS, y2.HV, y2.HC]) := by
  refine Ct.body Tryz.func32 rfl Tryz.ntmps32 rfl ?_
  intro E F
  have hk1 := hs.us
  have hk2 := hs.cs
  have hk3 := hs.dn
  refine q_sr ?_
  refine q_bx 104 fun b4 => ?_
  refine q_bx 106 fun b6 => ?_
  refine q_bx 107 fun b7 => ?_
  refine q_al 108 zc59 fun b8 => ?_
  refine q_an ?_
  refine q_k [1, 4, 6, 7, 8] [0, 1, 2, 3, 4, 5, 6, 7, 8, 9, 104, 106, 107, 108] ?_
  refine W.seq (q_sr (q_q (q_fa fo40_0) (q_q (q_l 107 u3) (q_nn (W.block (q_sr (q_q (q_b BinV.eql) (q_an ?_))))))))
  first | refine W.condD rfl (fun hc21 => ?_) (fun hc21 => ?_) | (refine W.cond rfl (fun hc21 => ?_) (fun hc21 => ?_) <;> try simp only [Bool.or_eq_true, Bool.and_eq_true, Bool.not_eq_true', Bool.not_eq_false', decide_eq_true_eq, Bool.or_eq_false_iff, Bool.and_eq_false_iff, decide_eq_false_iff_not, beq_iff_eq, beq_eq_false_iff_ne, ne_eq, Decidable.not_not] at hc21)
  ·
   have hst : (stepP m mach t o) = (doP (kdOf m o.c.it) mach t o.g o.s o.c).1 := by unfold stepP; rw [if_pos hc21]
   refine q_sr (q_q (q_lw 104 u29 sz29) (q_q (q_lw 106 u59 sz59) (q_q (q_fa fo40_1) (q_q (q_l 107 u3) (q_q (q_fa fo40_2) (q_q (q_l 107 u3) (q_q (q_fa fo40_3) (q_q (q_la 107 u36 sz36) ?_))))))))
   refine q_e (q_c ent62 [1, 6, 7, 8, 9] [1, 6, 7, 8, 9] (rdo_ct m H1 hM y mach hy t hyt o.g o.s o.c hs.ti (by omega) (by omega))) ?_
   rintro _ _ ⟨_, ⟨y2, rfl, hy2, hys2, rfl⟩, rfl⟩
   refine q_q q_mv (q_q q_x (q_q q_x (q_q q_x ?_)))
   refine q_al 110 zc59 fun b10 => ?_
   refine q_s 110 sz59 ?_
   refine q_q q_as (q_an ?_)
   refine q_k [1, 7, 8, 10, 11, 12] [0, 1, 2, 3, 4, 5, 6, 7, 8, 9, 104, 106, 107, 108, 110] ?_
   refine q_sr (q_q q_mv (q_q (q_fa fo40_1) (q_q (q_l 107 u3) (q_q (q_fa fo40_2) (q_q (q_l 107 u3) (q_q (q_fa fo40_3) (q_q (q_la 107 u36 sz36) ?_)))))))
   refine q_e (q_c ent15 [1, 2, 3, 4, 5] [1, 2, 3, 4, 5] (do_ct m H1 hM mach b t x hx o.g o.s o.c hv hs.ti hrp (by omega))) ?_
   rintro _ _ ⟨_, ⟨x2, rfl, hx2, rfl⟩, rfl⟩
   refine q_q q_mv (q_q q_x (q_q q_x (q_q q_as (q_an ?_))))
   refine q_k [8, 10, 11, 12, 13, 14] [0, 1, 2, 3, 4, 5, 6, 7, 8, 9, 104, 106, 107, 108, 110] ?_
   refine q_sr (q_q (q_lw 110 u59 sz59) (q_q q_mv (q_q q_mv (q_q (q_b BinV.eql) (q_q q_mv ?_)))))
   refine' q_and 51 55 4 [8, 10, 11, 12, 13, 14, 47, 48, 49, 50] [0, 1, 2, 3, 4, 5, 6, 7, 8, 9, 104, 106, 107, 108, 110] ?_ ?_ ?_
   rotate_left 1
   ·
    intro hg51
    refine q_g q_mv (q_g q_mv (q_g (q_b BinV.eql) (q_q Yld.pk ?_)))
    exact q_m
   ·
    intro hg51
    repeat refine q_gs ?_
    refine q_q Yld.pk ?_
    exact q_m
   refine q_s 108 sz59 ?_
   refine q_an ?_
   refine q_k [8, 9] [0, 1, 2, 3, 4, 5, 6, 7, 8, 9, 104, 106, 107, 108, 110] ?_
   refine W.ret (N.block_ret (N.then_ret ?_))
   exact q_r [1, 2, 3, 4, 5, 6, 7, 8, 9] (.cons (q_rc 108 u59 sz59) (.cons (.tmp rfl) .nil)) rfl rfl rfl ⟨x2, y2, _, rfl, by simp, by rw [hst]; exact hx2, hy2, by rw [hst]; exact hys2, rfl⟩
  ·
   refine q_sr (q_q (q_b BinV.eql) (q_an ?_))
   refine q_k [1, 4, 6, 7, 8, 20, 56] [0, 1, 2, 3, 4, 5, 6, 7, 8, 9, 104, 106, 107, 108] ?_
   first | refine W.condD rfl (fun hc56 => ?_) (fun hc56 => ?_) | (refine W.cond rfl (fun hc56 => ?_) (fun hc56 => ?_) <;> try simp only [Bool.or_eq_true, Bool.and_eq_true, Bool.not_eq_true', Bool.not_eq_false', decide_eq_true_eq, Bool.or_eq_false_iff, Bool.and_eq_false_iff, decide_eq_false_iff_not, beq_iff_eq, beq_eq_false_iff_ne, ne_eq, Decidable.not_not] at hc56)
   ·
    have hst : (stepP m mach t o) = (beginP (kdOf m o.cl.it) t o.cl).1 := by unfold stepP; rw [if_neg hc21, if_pos hc56]
    refine q_sr (q_q (q_lw 104 u29 sz29) (q_q (q_lw 106 u59 sz59) (q_q (q_fa fo40_4) (q_q (q_la 107 u38 sz38) ?_))))
    refine q_e (q_c ent63 [1, 6, 7, 8, 9] [1, 6, 7, 8, 9] (rbegin_ct m H1 hM y mach hy t hyt o.cl (by omega))) ?_
    rintro _ _ ⟨_, ⟨y2, rfl, hy2, hys2, rfl⟩, rfl⟩
    refine q_q q_mv (q_q q_x (q_q q_x ?_))
    refine q_al 115 zc59 fun b15 => ?_
    refine q_s 115 sz59 ?_
    refine q_an ?_
    refine q_k [1, 7, 8, 15, 16] [0, 1, 2, 3, 4, 5, 6, 7, 8, 9, 104, 106, 107, 108, 115] ?_
    refine W.seq ?_
    refine W.draw (.q 0 (.q 1 (.q 2 (.q 3 (.q 5 (.one 4 (.q 6 (.one 7 (.q 8 .done))))))))) (.of [0, 6, 7, 8, 9, 104, 106, 107, 115] rfl) mix (by kernel_rfl) (by kernel_rfl) (q_d rfl (q_lw 115 u59 sz59) (q_d rfl q_mv (q_d rfl (q_fa fo40_4) (q_d rfl (q_la 107 u38 sz38) (q_d rfl q_mv ?_)))))
    refine q_o rfl (q_c ent26 [1, 2, 3, 4, 5] [1, 2, 3, 4, 5] (begin_ct m H1 hM mach b t x hx o.cl (by omega))) ?_
    rintro _ _ ⟨_, ⟨x2, rfl, hx2, rfl⟩, rfl⟩
    refine q_d rfl (q_b BinV.eql) ?_
    refine q_o0 rfl (q_st 108 sz59) ?_
    rintro _ _ rfl
    refine q_d rfl q_as (DL.done (N.next (q_k [8, 9] [0, 1, 2, 3, 4, 5, 6, 7, 8, 9, 104, 106, 107, 108, 115] ?_)))
    refine W.ret (N.block_ret (N.then_ret ?_))
    exact q_r [1, 2, 3, 4, 5, 6, 7, 8, 9] (.cons (q_rc 108 u59 sz59) (.cons (.tmp rfl) .nil)) rfl rfl rfl ⟨x2, y2, _, rfl, by simp, by rw [hst]; exact hx2, hy2, by rw [hst]; exact hys2, rfl⟩
   ·
    refine q_sr (q_q (q_b BinV.eql) (q_an ?_))
    first | refine W.condD rfl (fun hc73 => ?_) (fun hc73 => ?_) | (refine W.cond rfl (fun hc73 => ?_) (fun hc73 => ?_) <;> try simp only [Bool.or_eq_true, Bool.and_eq_true, Bool.not_eq_true', Bool.not_eq_false', decide_eq_true_eq, Bool.or_eq_false_iff, Bool.and_eq_false_iff, decide_eq_false_iff_not, beq_iff_eq, beq_eq_false_iff_ne, ne_eq, Decidable.not_not] at hc73)
    ·
     have hst : (stepP m mach t o) = tickP (kdOf m) t := by unfold stepP; rw [if_neg hc21, if_neg hc56, if_pos hc73]
     refine q_sr (q_q (q_lw 104 u29 sz29) (q_q (q_lw 106 u59 sz59) ?_))
     refine q_e (q_c ent64 [1, 6, 7, 8, 9] [1, 6, 7, 8, 9, 170] (rtick_ct m H1 hM y mach hy t hyt (by omega))) ?_
     rintro _ _ ⟨_, ⟨y2, rfl, hy2, hys2, rfl⟩, rfl⟩
     refine q_q q_mv (q_q q_x (q_q q_x ?_))
     refine q_al 117 zc59 fun b17 => ?_
     refine q_s 117 sz59 ?_
     refine q_an ?_
     refine q_k [1, 8, 17, 18] [0, 1, 2, 3, 4, 5, 6, 7, 8, 9, 104, 106, 107, 108, 117, 170] ?_
     refine W.seq ?_
     refine W.draw (.q 0 (.q 1 (.q 3 (.one 2 (.one 4 (.one 5 (.q 6 .done))))))) (.of [0, 6, 7, 8, 9, 104, 106, 107, 117] rfl) mix (by kernel_rfl) (by kernel_rfl) (q_d rfl (q_lw 117 u59 sz59) (q_d rfl q_mv (q_d rfl q_mv ?_)))
     refine q_o rfl (q_c ent23 [1, 2, 3, 4, 5] [1, 2, 3, 4, 5, 171] (tick_ct m H1 hM mach b t x hx)) ?_
     rintro _ _ ⟨_, ⟨x2, rfl, hx2, rfl⟩, rfl⟩
     refine q_o rfl (q_c ent27 [171, 170] [171, 170] (sameC_ct t.cs y.cl _ _ _ _ _ _ _ _ rfl rfl hx.oc.sl hy.c)) ?_
     rintro _ _ ⟨_, ⟨rfl, rfl⟩, rfl⟩
     refine q_o0 rfl (q_st 108 sz59) ?_
     rintro _ _ rfl
     refine q_d rfl q_as (DL.done (N.next (q_k [8, 9] [0, 1, 2, 3, 4, 5, 6, 7, 8, 9, 104, 106, 107, 108, 117, 170, 171] ?_)))
     refine W.ret (N.block_ret (N.then_ret ?_))
     exact q_r [1, 2, 3, 4, 5, 6, 7, 8, 9] (.cons (q_rc 108 u59 sz59) (.cons (.tmp rfl) .nil)) rfl rfl rfl ⟨x2, y2, _, rfl, by simp [hyt.cl], by rw [hst]; exact hx2, hy2, by rw [hst]; exact hys2, rfl⟩
    ·
     refine q_sr (q_q (q_b BinV.eql) (q_an ?_))
     refine q_k [1, 6, 8, 86] [0, 1, 2, 3, 4, 5, 6, 7, 8, 9, 104, 106, 107, 108] ?_
     first | refine W.condD rfl (fun hc86 => ?_) (fun hc86 => ?_) | (refine W.cond rfl (fun hc86 => ?_) (fun hc86 => ?_) <;> try simp only [Bool.or_eq_true, Bool.and_eq_true, Bool.not_eq_true', Bool.not_eq_false', decide_eq_true_eq, Bool.or_eq_false_iff, Bool.and_eq_false_iff, decide_eq_false_iff_not, beq_iff_eq, beq_eq_false_iff_ne, ne_eq, Decidable.not_not] at hc86)
     ·
      have hst : (stepP m mach t o) = { t with cs := [] } := by unfold stepP; rw [if_neg hc21, if_neg hc56, if_neg hc73, if_pos hc86]
      refine q_sr (q_q q_mv ?_)
      refine q_e (q_c ent28 [1, 2, 3, 4, 5] [1, 2, 3, 4, 5] (forget_ct m H1 hM mach b t x hx)) ?_
      rintro _ _ ⟨_, ⟨x2, rfl, hx2, rfl⟩, rfl⟩
      refine q_nn (q_k [6, 8] [0, 1, 2, 3, 4, 5, 6, 7, 8, 9, 104, 106, 107, 108] ?_)
      refine W.region (q_q (q_fa fo59_5) (q_s 106 sz57 ?_))
      refine RL.nil (N.block_normal (N.next (q_sr (q_q (q_lw 106 u59 sz59) (q_s 108 sz59 ?_)))))
      refine q_an ?_
      refine W.ret ?_
      exact q_r [1, 2, 3, 4, 5, 6, 7, 8, 9] (.cons (q_rc 108 u59 sz59) (.cons (.tmp rfl) .nil)) rfl rfl rfl ⟨x2, { y.setC none 0 [] emp with HC := y.HC }, _, rfl, rfl, by rw [hst]; exact hx2, ⟨hy.u, hy.s, hy.v, (Own.nil 38 4).sl.mono (fun _ _ h => nomatch h)⟩, by rw [hst]; exact ⟨hyt.us, hyt.gn, hyt.st, hyt.va, rfl⟩, rfl⟩
     ·
      have hst : (stepP m mach t o) = t := by unfold stepP; rw [if_neg hc21, if_neg hc56, if_neg hc73, if_neg hc86]
      refine W.skip (N.block_normal (N.next (q_sr (q_q (q_lw 106 u59 sz59) (q_s 108 sz59 ?_)))))
      refine q_an ?_
      refine q_k [8, 9] [0, 1, 2, 3, 4, 5, 6, 7, 8, 9, 104, 106, 107, 108] ?_
      refine W.ret ?_
      exact q_r [1, 2, 3, 4, 5, 6, 7, 8, 9] (.cons (q_rc 108 u59 sz59) (.cons (.tmp rfl) .nil)) rfl rfl rfl ⟨x, y, _, rfl, rfl, by rw [hst]; exact hx, hy, by rw [hst]; exact hyt, rfl⟩
end Go.Proofs.YtboapdcmaeojgaaGreatDoor
namespace Go.Proofs.YtboapdcmaeojgaaGreatDoor
open SL Cat Fen
set_option linter.unusedVariables false
set_option linter.unusedSimpArgs false
theorem ent24 : Ent Tryz.prog 24 := ⟨_, _, Tryz.func24, by kernel_rfl, rfl⟩
theorem ent21 : Ent Tryz.prog 21 := ⟨_, _, Tryz.func21, by kernel_rfl, rfl⟩
theorem ent17 : Ent Tryz.prog 17 := ⟨_, _, Tryz.func17, by kernel_rfl, rfl⟩
theorem ent16 : Ent Tryz.prog 16 := ⟨_, _, Tryz.func16, by kernel_rfl, rfl⟩
theorem ent22 : Ent Tryz.prog 22 := ⟨_, _, Tryz.func22, by kernel_rfl, rfl⟩
theorem sz40 : sz Tryz.prog 40 11 := (by kernel_rfl : (Tryz.prog.info? 40).map (·.size) = some 11)
theorem ent32 : Ent Tryz.prog 32 := ⟨_, _, Tryz.func32, by kernel_rfl, rfl⟩
abbrev u40 := @Tryz.underlying40
set_option maxRecDepth 100000 in
set_option maxHeartbeats 1600000 in
theorem same_ct (m : Md) (H1 : PH) (hM : m.In H1) (mach : Int) (b : Nat) (t : T) (x : Tb) (hx : x.Is t) (y : Rt) (hy : y.In) (hyt : y.Is t) (hv : MdV m) (k : Nat) (hk : k ≤ 1000) (hs : SI m mach k t) : Ct Tryz.prog 29 [.agg [.slice m.psi m.si.length m.csi, .slice m.pfe m.fe.length m.cfe, .slice m.prk m.rk.length m.crk, .slice m.pmc m.mc.length m.cmc, .slice m.pln m.ln.length m.cln, .slice m.pis m.is.length m.cis, .int .i64 m.da, .int .i64 m.sl, .int .i64 m.re, .int .i64 m.fa, .slice m.prl m.rl.length m.crl].toArray, .pointer (some ⟨b, 0, none⟩), .agg [.int .i64 mach, .slice y.pu y.us.length y.cu, .int .i64 y.gen, .slice y.ps y.st.length y.cs, .slice y.pv y.va.length y.cv, .slice y.pc y.cl.length y.cc].toArray] [H1, single b (.cells [.slice m.psi m.si.length m.csi, .slice m.pfe m.fe.length m.cfe, .slice m.prk m.rk.length m.crk, .slice m.pmc m.mc.length m.cmc, .slice m.pln m.ln.length m.cln, .slice m.pis m.is.length m.cis, .int .i64 m.da, .int .i64 m.sl, .int .i64 m.re, .int .i64 m.fa, .slice m.prl m.rl.length m.crl, .int .i64 mach, .slice x.pu x.nu x.cu, .slice x.pc x.nc x.cc, .int .i64 x.gen, .map (some x.d)].toArray 82 (0, 0)), x.HU, x.HC, single x.d (.map x.es x.ck), y.HU, y.HS, y.HV, y.HC] (fun v Hs => v = .bool true ∧ Hs = [H1, single b (.cells [.slice m.psi m.si.length m.csi, .slice m.pfe m.fe.length m.cfe, .slice m.prk m.rk.length m.crk, .slice m.pmc m.mc.length m.cmc, .slice m.pln m.ln.length m.cln, .slice m.pis m.is.length m.cis, .int .i64 m.da, .int .i64 m.sl, .int .i64 m.re, .int .i64 m.fa, .slice m.prl m.rl.length m.crl, .int .i64 mach, .slice x.pu x.nu x.cu, .slice x.pc x.nc x.cc, .int .i64 x.gen, .map (some x.d)].toArray 82 (0, 0)), x.HU, x.HC, single x.d (.map x.es x.ck), y.HU, y.HS, y.HV, y.HC]) := by
  refine Ct.body Tryz.func29 rfl Tryz.ntmps29 rfl ?_
  intro E F
  have hk1 := hs.us
  have hk2 := hs.cs
  have hmi := hM.is.len_le
  simp only [List.length_map, maxLen] at hmi
  have hn5 := hv.n5
  have hyl : y.us.length ≤ 900000 := by rw [hyt.us]; omega
  refine q_sr ?_
  refine q_bx 103 fun b3 => ?_
  refine q_bx 105 fun b5 => ?_
  refine q_an ?_
  refine W.seq (q_sr (q_an ?_))
  refine W.block ?_
  refine W.loopK (ι := Nat) (fun i => (i ≤ m.is.length + 2)) (fun i => [(7, .int .i64 (i : Nat))]) (fun i => []) (fun i => m.is.length + 2 - i) (.of [1, 3, 5] rfl) (.of [0, 1, 2, 3, 4, 5, 6, 7, 8, 9, 103, 105] rfl) 0 ?_ ?_ ?_ ?_
  · exact Nat.zero_le _
  · exact (q_a .nil)
  · exact .nil
  rintro i hi
  refine q_k [7, 1, 3, 5] [0, 1, 2, 3, 4, 5, 6, 7, 8, 9, 103, 105] ?_
  refine W.seq (q_sr (q_q q_mv (q_q (q_fa fo29_5) (q_q (q_l 103 u26) (q_q (q_n u26) ?_)))))
  refine q_q q_ad (q_q (q_b BinV.leq) (q_nn (q_k [1, 3, 5, 7, 19] [0, 1, 2, 3, 4, 5, 6, 7, 8, 9, 103, 105] ?_)))
  first | refine W.condD rfl (fun hc19 => ?_) (fun hc19 => ?_) | (refine W.cond rfl (fun hc19 => ?_) (fun hc19 => ?_) <;> try simp only [Bool.or_eq_true, Bool.and_eq_true, Bool.not_eq_true', Bool.not_eq_false', decide_eq_true_eq, Bool.or_eq_false_iff, Bool.and_eq_false_iff, decide_eq_false_iff_not, beq_iff_eq, beq_eq_false_iff_ne, ne_eq, Decidable.not_not] at hc19)
  ·
   refine W.skip (N.next (W.seq (W.block (q_sr (q_q q_mv (q_q q_mv ?_))))))
   refine q_e (q_c ent24 [1, 2, 3, 4, 5] [1, 2, 3, 4, 5] (findV_ct m H1 hM mach b t x hx (by omega) i)) ?_
   rintro _ _ ⟨_, ⟨rfl, rfl⟩, rfl⟩
   refine q_q q_mv (q_q q_x (q_q q_x ?_))
   refine q_al 108 zc48 fun b8 => ?_
   refine q_s 108 sz48 ?_
   refine q_an ?_
   refine q_k [1, 3, 5, 7, 8, 9] [0, 1, 2, 3, 4, 5, 6, 7, 8, 9, 103, 105, 108] ?_
   refine q_sr (q_q (q_lw 105 u59 sz59) (q_q q_mv ?_))
   refine q_e (q_c ent52 [6] [6] (rfind_ct y mach hy i)) ?_
   rintro _ _ ⟨_, ⟨rfl, rfl⟩, rfl⟩
   rw [show fvU y.us (i : Int) = fvU t.us (i : Int) by rw [hyt.us]]
   refine q_q q_mv (q_q q_x (q_q q_x ?_))
   refine q_al 110 zc48 fun b10 => ?_
   refine q_s 110 sz48 ?_
   refine q_an ?_
   refine q_k [1, 3, 5, 7, 8, 9, 10, 11] [0, 1, 2, 3, 4, 5, 6, 7, 8, 9, 103, 105, 108, 110] ?_
   refine W.seq (q_sr (q_q (q_lw 105 u59 sz59) ?_))
   refine q_e (q_c ent21 [6, 9] [6, 9, 170] (rlist_ct y mach hy hyl)) ?_
   rintro _ _ ⟨_, ⟨Hl, pl, cl, rfl, hOl, rfl⟩, rfl⟩
   rw [hyt.us, hyt.cl] at hOl
   have hyu : y.us.length = t.us.length := by rw [hyt.us]
   have hml := hOl.sl.len_le
   simp only [List.length_map, maxLen, listP_len] at hml
   refine q_q (q_n u41) (q_q q_mv (q_nn (W.block ?_)))
   refine W.loopK (ι := Nat) (fun k => (k ≤ t.us.length)) (fun k => [(37, .int .i64 (k : Nat))]) (fun k => [(110, single b10 (.cells (pickW (fvU t.us i).1 ((listP t.us t.cs).take k)).c.toArray 48 (0, 0)))]) (fun k => t.us.length - k) (.of [1, 3, 5, 7, 8, 9, 10, 11, 35, 36] rfl) (.of [0, 1, 2, 3, 4, 5, 6, 7, 8, 9, 103, 105, 108, 170] rfl) 0 ?_ ?_ ?_ ?_
   · exact Nat.zero_le _
   · exact (q_a .nil)
   · exact (.to rfl)
   rintro k hkl
   refine q_k [37, 1, 3, 5, 7, 8, 9, 10, 11, 35, 36] [110, 0, 1, 2, 3, 4, 5, 6, 7, 8, 9, 103, 105, 108, 170] ?_
   refine q_sr (q_q (q_b BinV.lss) (q_nn (W.seq ?_)))
   first | refine W.condD rfl (fun hc38 => ?_) (fun hc38 => ?_) | (refine W.cond rfl (fun hc38 => ?_) (fun hc38 => ?_) <;> try simp only [Bool.or_eq_true, Bool.and_eq_true, Bool.not_eq_true', Bool.not_eq_false', decide_eq_true_eq, Bool.or_eq_false_iff, Bool.and_eq_false_iff, decide_eq_false_iff_not, beq_iff_eq, beq_eq_false_iff_ne, ne_eq, Decidable.not_not] at hc38)
   ·
    obtain ⟨w, hw⟩ : ∃ w, (listP t.us t.cs)[k]? = some w := ⟨_, List.getElem?_eq_getElem (by rw [listP_len]; omega)⟩
    have hlw := uz_get hw
    refine W.skip (N.next (W.seq (W.block (q_sr ?_))))
    refine q_q (q_ix u41 sz48) ?_
    refine q_q (by first | exact q_rA 1 u48 sz48 | exact q_rA 2 u48 sz48 | exact q_rA 3 u48 sz48 | exact q_rA 4 u48 sz48 | exact q_rA 5 u48 sz48 | exact q_rA 6 u48 sz48 | exact q_rA 7 u48 sz48 | exact q_rA 8 u48 sz48 | exact q_rA 9 u48 sz48 | exact q_rA 103 u48 sz48 | exact q_rA 105 u48 sz48 | exact q_rA 108 u48 sz48 | exact q_rA 170 u48 sz48 | exact q_rA 110 u48 sz48) ?_
    refine q_al 113 zc48 fun b13 => ?_
    refine q_s 113 sz48 ?_
    refine q_nn (q_sr (q_q (q_fa fo48_0) (q_q (q_l 113 u3) (q_q (q_fa fo48_0) (q_q (q_l 110 u3) (q_q (q_b BinV.eql) (q_q q_mv ?_)))))))
    refine' q_and 46 52 6 [1, 3, 5, 7, 8, 9, 10, 11, 13, 35, 36, 37, 38, 39, 40, 41, 42, 43, 44, 45] [0, 1, 2, 3, 4, 5, 6, 7, 8, 9, 103, 105, 108, 110, 113, 170] ?_ ?_ ?_
    rotate_left 1
    ·
     intro hg46
     refine q_g (q_fa fo48_1) (q_g (q_l 113 u3) (q_g (q_fa fo48_1) (q_g (q_l 110 u3) (q_g (q_b BinV.eql) (q_q Yld.pk ?_)))))
     exact q_m
    ·
     intro hg46
     repeat refine q_gs ?_
     refine q_q Yld.pk ?_
     exact q_m
    refine q_nn (q_k [1, 3, 5, 7, 8, 9, 10, 11, 13, 35, 36, 37, 52] [0, 1, 2, 3, 4, 5, 6, 7, 8, 9, 103, 105, 108, 110, 113, 170] ?_)
    refine W.cond rfl (fun hc52 => ?_) (fun hc52 => ?_)
    ·
     refine W.region (q_q (q_lw 113 u48 sz48) (q_s 110 sz48 ?_))
     refine RL.nil (N.block_normal (N.next (W.region ?_)))
     refine q_q q_ad (q_q q_mv (RL.nil ?_))
     exact N.famK (k + 1) ⟨by omega, by omega⟩ (q_a .nil) (.to rfl) (.as rfl (by rw [pickW_take hw, if_pos (by simp only [Bool.and_eq_true, decide_eq_true_eq] at hc52; exact hc52)]; first | done | rfl) .nil) (.to rfl)
    ·
     refine W.skip (N.block_normal (N.next (W.region ?_)))
     refine q_q q_ad (q_q q_mv (RL.nil ?_))
     exact N.famK (k + 1) ⟨by omega, by omega⟩ (q_a .nil) (.to rfl) (.as rfl (by rw [pickW_take hw, if_neg (fun h => by rw [decide_eq_true h.1, decide_eq_true h.2] at hc52; cases hc52)]) .nil) (.to rfl)
   ·
    have hend : k = (listP t.us t.cs).length := by rw [listP_len]; omega
    rw [hend, List.take_length]
    refine W.exit (N.then_exit (N.then_exit (N.block_eq (N.next (q_k [1, 3, 5, 7, 8, 9, 10, 11] [0, 1, 2, 3, 4, 5, 6, 7, 8, 9, 103, 105, 108, 110, 170] ?_)))))
    refine q_sr (q_q q_mv (q_q q_mv ?_))
    refine q_q (Yld.bin rfl rfl (BinV.neqB u4)) (q_q q_mv ?_)
    refine' q_or 58 62 4 [1, 3, 5, 7, 8, 9, 10, 11, 55, 56, 57] [0, 1, 2, 3, 4, 5, 6, 7, 8, 9, 103, 105, 108, 110, 170] ?_ ?_ ?_
    rotate_left 1
    ·
     intro hg58
     refine q_g (q_lw 108 u48 sz48) (q_g (q_lw 110 u48 sz48) ?_)
     refine q_g (Yld.bin rfl rfl (BinV.neqT eqg48 (EqV.struct u48 sih48 (EqF.cons rfl (PartV.one u3 rfl rfl) (PartV.one u3 rfl rfl) (EqV.int u3) (EqF.cons rfl (PartV.one u3 rfl rfl) (PartV.one u3 rfl rfl) (EqV.int u3) (EqF.cons rfl (PartV.one u3 rfl rfl) (PartV.one u3 rfl rfl) (EqV.int u3) (EqF.cons rfl (PartV.one u2 rfl rfl) (PartV.one u2 rfl rfl) (EqV.int u2) (EqF.cons rfl (PartV.one u3 rfl rfl) (PartV.one u3 rfl rfl) (EqV.int u3) EqF.nil)))))))) ?_
     refine q_q Yld.pk ?_
     exact q_m
    ·
     intro hg58
     repeat refine q_gs ?_
     refine q_q Yld.pk ?_
     exact q_m
    refine q_nn (q_k [1, 3, 5, 7, 62] [0, 1, 2, 3, 4, 5, 6, 7, 8, 9, 103, 105, 108, 110, 170] ?_)
    refine W.cond rfl (fun hc62 => ?_) (fun hc62 => ?_)
    ·
     exfalso
     obtain ⟨e1, e2⟩ := pick_same hs.ti (i : Int)
     rw [e1, e2] at hc62
     simp at hc62 --stop
    ·
     refine W.skip (N.block_normal (N.next (W.region (q_q q_mv ?_))))
     refine q_q q_ad (q_q q_as (RL.nil ?_))
     exact N.famK (i + 1) ⟨by omega, by omega⟩ (q_a .nil) (.to rfl) .nil (.to rfl)
  ·
   refine W.exit (N.then_exit (N.then_exit (N.block_eq (N.next (W.seq ?_)))))
   refine W.draw (.q 0 (.q 2 (.one 1 (.one 3 (.one 4 (.q 5 (.q 6 (.q 8 (.q 9 (.one 7 (.q 10 (.q 11 (.q 12 .done))))))))))))) (.of [0, 7, 8, 103, 105] rfl) mix (by kernel_rfl) (by kernel_rfl) (q_d rfl q_mv (q_d rfl (q_lw 105 u59 sz59) ?_))
   refine q_o rfl (q_c ent14 [1, 2, 3, 4, 5] [1, 2, 3, 4, 5, 160] (units_ct m H1 hM mach b t x hx (by omega))) ?_
   rintro _ _ ⟨_, ⟨Hu, pu, cu, rfl, hOu, rfl⟩, rfl⟩
   refine q_o rfl (q_c ent21 [6, 9] [6, 9, 170] (rlist_ct y mach hy hyl)) ?_
   rintro _ _ ⟨_, ⟨Hl, pl, cl, rfl, hOl, rfl⟩, rfl⟩
   rw [hyt.us, hyt.cl] at hOl
   have hyu : y.us.length = t.us.length := by rw [hyt.us]
   have hml := hOl.sl.len_le
   simp only [List.length_map, maxLen, listP_len] at hml
   refine q_o rfl (Eff.call ent17 [160, 170] [160, 170] (.cons rfl (.cons rfl .nil)) (sameU_ct _ _ _ _ _ _ _ _ _ _ (listP_len _ _).symm (by rw [listP_len, hyt.us]) hOu.sl hOl.sl) rfl rfl rfl rfl (by rintro _ _ ⟨_, rfl⟩; rfl)) ?_
   rintro _ _ ⟨_, ⟨rfl, rfl⟩, rfl⟩
   refine q_d rfl q_mv ?_
   refine' DL.and (t := 68) (d := 74) 6 rfl (.of [1, 3, 5, 7, 19, 63, 64, 65, 66, 67] rfl) (.of [0, 1, 2, 3, 4, 5, 6, 7, 8, 9, 103, 105, 160, 170] rfl) ?_ ?_ ?_
   rotate_left 1
   ·
    intro hg68
    refine DL.gq rfl rfl rfl q_mv rfl ?_
    refine DL.gq rfl rfl rfl (q_fa fo59_2) rfl ?_
    refine DL.gq rfl rfl rfl (q_l 105 u3) rfl ?_
    refine DL.gone rfl rfl rfl (q_c ent16 [2] [2] (gen_ct m mach b x)) rfl (by rintro _ _ ⟨_, ⟨rfl, rfl⟩, rfl⟩; repeat (first | exact .nil | refine .cons rfl ?_)) ?_
    rintro _ _ ⟨_, ⟨rfl, rfl⟩, rfl⟩
    refine DL.gq rfl rfl rfl (q_b BinV.eql) rfl (q_d rfl Yld.pk ?_)
    exact DL.meet (.to rfl) (.to rfl)
   ·
    intro hg68
    repeat refine q_ds ?_
    refine DL.gskip1 rfl rfl rfl rfl rfl (q_ds ?_)
    refine q_d rfl Yld.pk ?_
    exact DL.meet (.to rfl) (.to rfl)
   refine q_d rfl q_as (DL.done (N.next (q_k [6] [0, 1, 2, 3, 4, 5, 6, 7, 8, 9, 103, 105, 160, 170] ?_)))
   refine W.ret ?_
   exact q_r [1, 2, 3, 4, 5, 6, 7, 8, 9] (.cons (.tmp rfl) .nil) rfl rfl rfl ⟨by show Value.bool _ = _; congr 1; simp [hx.gn, hyt.gn], rfl⟩
structure Fen.RJ where
  j : Nat
  x : Tb
  y : Rt
set_option maxRecDepth 100000 in
set_option maxHeartbeats 1600000 in
theorem run_ct (m : Md) (H1 : PH) (hM : m.In H1) (hT : TabS H1) (mach : Int) (hv : MdV m) (hm1 : 1 ≤ mach) (hm2 : mach ≤ m.mc.length) (l : List Opn) (q : Option Addr) (d : Nat) (hS : Sl H1 q d 11 (l.map Opn.cs)) (hR : ∀ o ∈ l, o.c.rp ≤ 9223372036854775807) (hl : l.length ≤ 1000) : Ct Tryz.prog 25 [.agg [.slice m.psi m.si.length m.csi, .slice m.pfe m.fe.length m.cfe, .slice m.prk m.rk.length m.crk, .slice m.pmc m.mc.length m.cmc, .slice m.pln m.ln.length m.cln, .slice m.pis m.is.length m.cis, .int .i64 m.da, .int .i64 m.sl, .int .i64 m.re, .int .i64 m.fa, .slice m.prl m.rl.length m.crl].toArray, .int .i64 mach, .slice q l.length d] [H1] (fun v Hs => ∃ (b : Nat) (x : Tb) (y : Rt), v = .tuple [.pointer (some ⟨b, 0, none⟩), .agg [.int .i64 mach, .slice y.pu y.us.length y.cu, .int .i64 y.gen, .slice y.ps y.st.length y.cs, .slice y.pv y.va.length y.cv, .slice y.pc y.cl.length y.cc].toArray, .bool true].toArray ∧ x.Is (runP m mach l) ∧ y.In ∧ y.Is (runP m mach l) ∧ Hs = [H1, single b (.cells [.slice m.psi m.si.length m.csi, .slice m.pfe m.fe.length m.cfe, .slice m.prk m.rk.length m.crk, .slice m.pmc m.mc.length m.cmc, .slice m.pln m.ln.length m.cln, .slice m.pis m.is.length m.cis, .int .i64 m.da, .int .i64 m.sl, .int .i64 m.re, .int .i64 m.fa, .slice m.prl m.rl.length m.crl, .int .i64 mach, .slice x.pu x.nu x.cu, .slice x.pc x.nc x.cc, .int .i64 x.gen, .map (some x.d)].toArray 82 (0, 0)), x.HU, x.HC, single x.d (.map x.es x.ck), y.HU, y.HS, y.HV, y.HC]) := by
  refine Ct.body Tryz.func25 rfl Tryz.ntmps25 rfl ?_
  intro E F
  have hmxl := hS.len_le
  simp only [List.length_map, maxLen] at hmxl
  refine q_sr ?_
  refine q_bx 103 fun b3 => ?_
  refine q_q q_as ?_
  refine q_al 107 zc59 fun b7 => ?_
  refine q_an ?_
  refine W.seq ?_
  refine W.draw (.q 0 (.q 1 (.q 3 (.q 4 (.two 2 (.two 5 (.one 6 (.q 7 (.one 8 (.q 9 .done)))) 6 (.one 5 (.q 7 (.one 8 (.q 9 .done))))) 6 (.one 2 (.one 5 (.q 7 (.one 8 (.q 9 .done)))))))))) (.of [0, 103, 107] rfl) mix (by kernel_rfl) (by kernel_rfl) (q_d rfl (q_lw 103 u29 sz29) (q_d rfl q_mv (q_d rfl (q_lw 103 u29 sz29) (q_d rfl q_mv ?_))))
  refine DL.two ?_ ?_
  ·
   refine q_o rfl (q_c ent13 [1] [1, 150, 151, 152, 153] (new_ct m H1 hM hT mach hv hm1 hm2)) ?_
   rintro _ _ ⟨_, ⟨bt, x0, rfl, hx0, rfl⟩, rfl⟩
   refine DL.two ?_ ?_
   ·
    refine q_o rfl (q_c ent22 [1] [1, 161, 162, 163, 164] (rnew_ct m H1 hM mach hv)) ?_
    rintro _ _ ⟨_, ⟨y0, rfl, hy0, hys0, rfl⟩, rfl⟩
    refine q_o rfl (Eff.alloc 110 zc59) ?_
    rintro _ _ ⟨b10, rfl, rfl⟩
    refine q_d rfl q_as ?_
    refine q_o0 rfl (q_st 110 sz59) ?_
    rintro _ _ rfl
    refine q_d rfl q_as (DL.done (N.next (q_k [2, 3, 7, 9, 10, 11] [0, 1, 103, 107, 110, 150, 151, 152, 153, 161, 162, 163, 164] ?_)))
    refine W.seq (q_sr (q_an ?_))
    refine W.block ?_
    refine W.loopK (ι := RJ) (fun z => (z.j ≤ l.length ∧ z.x.Is (runP m mach (l.take z.j)) ∧ z.y.In ∧ z.y.Is (runP m mach (l.take z.j)) ∧ SI m mach z.j (runP m mach (l.take z.j)))) (fun z => [(11, .bool true), (12, .int .i64 (z.j : Nat))]) (fun z => [(110, single b10 (.cells [.int .i64 mach, .slice z.y.pu z.y.us.length z.y.cu, .int .i64 z.y.gen, .slice z.y.ps z.y.st.length z.y.cs, .slice z.y.pv z.y.va.length z.y.cv, .slice z.y.pc z.y.cl.length z.y.cc].toArray 59 (0, 0))), (150, single bt (.cells [.slice m.psi m.si.length m.csi, .slice m.pfe m.fe.length m.cfe, .slice m.prk m.rk.length m.crk, .slice m.pmc m.mc.length m.cmc, .slice m.pln m.ln.length m.cln, .slice m.pis m.is.length m.cis, .int .i64 m.da, .int .i64 m.sl, .int .i64 m.re, .int .i64 m.fa, .slice m.prl m.rl.length m.crl, .int .i64 mach, .slice z.x.pu z.x.nu z.x.cu, .slice z.x.pc z.x.nc z.x.cc, .int .i64 z.x.gen, .map (some z.x.d)].toArray 82 (0, 0))), (151, z.x.HU), (152, z.x.HC), (153, single z.x.d (.map z.x.es z.x.ck)), (161, z.y.HU), (162, z.y.HS), (163, z.y.HV), (164, z.y.HC)]) (fun z => l.length - z.j) (.of [2, 3, 7, 9, 10] rfl) (.of [0, 1, 103, 107] rfl) ⟨0, x0, y0⟩ ?_ ?_ ?_ ?_
    · exact ⟨Nat.zero_le _, hx0, hy0, hys0, .new hv hm1 hm2⟩
    · exact (q_a (q_a .nil))
    · exact (.to rfl)
    rintro z ⟨hj, hzx, hzy, hzys, hsi⟩
    refine q_k [11, 12, 2, 3, 7, 9, 10] [110, 150, 151, 152, 153, 161, 162, 163, 164, 0, 1, 103, 107] ?_
    refine W.seq (q_sr (q_q q_mv ?_))
    refine q_q (Yld.bin rfl rfl (BinV.neqPN u33)) (q_q q_mv ?_)
    first | refine RL.as (t := 21) rfl (boolT (by first | assumption | omega | (simp; done))) ?_ | refine RL.as (t := 21) (v := .bool true) rfl rfl ?_
    refine q_g q_mv (q_q Yld.pk (q_q q_mv ?_))
    first | refine RL.as (t := 24) rfl (boolT (by first | assumption | omega | (simp; done))) ?_ | refine RL.as (t := 24) (v := .bool true) rfl rfl ?_
    refine q_g q_mv (q_g q_mv (q_g (q_n u30) (q_g (q_b BinV.lss) (q_q Yld.pk (q_nn (q_k [2, 3, 7, 9, 10, 11, 12, 29] [0, 1, 103, 107, 110, 150, 151, 152, 153, 161, 162, 163, 164] ?_))))))
    first | refine W.condD rfl (fun hc29 => ?_) (fun hc29 => ?_) | (refine W.cond rfl (fun hc29 => ?_) (fun hc29 => ?_) <;> try simp only [Bool.or_eq_true, Bool.and_eq_true, Bool.not_eq_true', Bool.not_eq_false', decide_eq_true_eq, Bool.or_eq_false_iff, Bool.and_eq_false_iff, decide_eq_false_iff_not, beq_iff_eq, beq_eq_false_iff_ne, ne_eq, Decidable.not_not] at hc29)
    ·
     obtain ⟨o, ho⟩ : ∃ o, l[z.j]? = some o := ⟨_, List.getElem?_eq_getElem (show z.j < l.length by omega)⟩
     have hlo : (l.map Opn.cs)[z.j]? = some o.cs := by simp [ho]
     refine W.skip (N.next (W.seq (W.block ?_)))
     refine W.draw (.q 0 (.q 1 (.q 3 (.q 4 (.q 5 (.two 2 (.one 6 (.one 7 (.q 8 (.q 9 (.q 10 (.one 11 (.q 12 .done))))))) 6 (.one 2 (.one 7 (.q 8 (.q 9 (.q 10 (.one 11 (.q 12 .done))))))))))))) (.of [0, 103, 107] rfl) mix (by kernel_rfl) (by kernel_rfl) (q_d rfl (q_lw 103 u29 sz29) (q_d rfl q_mv (q_d rfl q_mv (q_d rfl q_mv ?_))))
     refine q_d rfl (q_ix u30 sz40) ?_
     refine DL.two ?_ ?_
     ·
      refine q_o rfl (Yld.eff (q_lw 110 u59 sz59)) ?_
      rintro _ _ ⟨rfl, rfl⟩
      refine q_o rfl (Yld.eff (by first | exact q_rA 1 u40 sz40 | exact q_rA 103 u40 sz40 | exact q_rA 107 u40 sz40 | exact q_rA 110 u40 sz40 | exact q_rA 150 u40 sz40 | exact q_rA 151 u40 sz40 | exact q_rA 152 u40 sz40 | exact q_rA 153 u40 sz40 | exact q_rA 161 u40 sz40 | exact q_rA 162 u40 sz40 | exact q_rA 163 u40 sz40 | exact q_rA 164 u40 sz40)) ?_
      rintro _ _ ⟨rfl, rfl⟩
      refine q_o rfl (Eff.call ent32 [1, 150, 151, 152, 153, 161, 162, 163, 164] [1, 150, 151, 152, 153, 161, 162, 163, 164] (.cons rfl (.cons rfl (.cons rfl (.cons rfl .nil)))) (step_ct m H1 hM mach bt _ z.x hzx z.y hzy hzys o hv z.j (by omega) hsi (hR o (List.mem_of_getElem? ho))) rfl rfl rfl rfl (by rintro _ _ ⟨_, _, _, _, _, _, _, _, rfl⟩; rfl)) ?_
      rintro _ _ ⟨_, ⟨x2, y2, _, rfl, rfl, hx2, hy2, hys2, rfl⟩, rfl⟩
      have hsi2 := hsi.step (o := o) (hR o (List.mem_of_getElem? ho))
      rw [← runP_take ho] at hx2 hys2 hsi2
      refine q_d rfl q_mv (q_d rfl q_x (q_d rfl q_x ?_))
      refine q_o0 rfl (q_st 110 sz59) ?_
      rintro _ _ rfl
      refine q_d rfl q_as (DL.done (N.block_normal (N.next (q_k [2, 3, 7, 9, 10, 11, 12] [0, 1, 103, 107, 110, 150, 151, 152, 153, 161, 162, 163, 164] ?_))))
      refine W.region (q_q q_mv ?_)
      refine q_q q_ad (q_q q_as (RL.nil ?_))
      exact N.famK ⟨z.j + 1, x2, y2⟩ ⟨⟨by dsimp only; omega, hx2, hy2, hys2, hsi2⟩, by dsimp only; omega⟩ (q_a (q_a .nil)) (.to rfl) (.to rfl) (.to rfl)
     ·
      refine q_o rfl (Yld.eff (by first | exact q_rA 1 u40 sz40 | exact q_rA 103 u40 sz40 | exact q_rA 107 u40 sz40 | exact q_rA 110 u40 sz40 | exact q_rA 150 u40 sz40 | exact q_rA 151 u40 sz40 | exact q_rA 152 u40 sz40 | exact q_rA 153 u40 sz40 | exact q_rA 161 u40 sz40 | exact q_rA 162 u40 sz40 | exact q_rA 163 u40 sz40 | exact q_rA 164 u40 sz40)) ?_
      rintro _ _ ⟨rfl, rfl⟩
      refine q_o rfl (Yld.eff (q_lw 110 u59 sz59)) ?_
      rintro _ _ ⟨rfl, rfl⟩
      refine q_o rfl (Eff.call ent32 [1, 150, 151, 152, 153, 161, 162, 163, 164] [1, 150, 151, 152, 153, 161, 162, 163, 164] (.cons rfl (.cons rfl (.cons rfl (.cons rfl .nil)))) (step_ct m H1 hM mach bt _ z.x hzx z.y hzy hzys o hv z.j (by omega) hsi (hR o (List.mem_of_getElem? ho))) rfl rfl rfl rfl (by rintro _ _ ⟨_, _, _, _, _, _, _, _, rfl⟩; rfl)) ?_
      rintro _ _ ⟨_, ⟨x2, y2, _, rfl, rfl, hx2, hy2, hys2, rfl⟩, rfl⟩
      have hsi2 := hsi.step (o := o) (hR o (List.mem_of_getElem? ho))
      rw [← runP_take ho] at hx2 hys2 hsi2
      refine q_d rfl q_mv (q_d rfl q_x (q_d rfl q_x ?_))
      refine q_o0 rfl (q_st 110 sz59) ?_
      rintro _ _ rfl
      refine q_d rfl q_as (DL.done (N.block_normal (N.next (q_k [2, 3, 7, 9, 10, 11, 12] [0, 1, 103, 107, 110, 150, 151, 152, 153, 161, 162, 163, 164] ?_))))
      refine W.region (q_q q_mv ?_)
      refine q_q q_ad (q_q q_as (RL.nil ?_))
      exact N.famK ⟨z.j + 1, x2, y2⟩ ⟨⟨by dsimp only; omega, hx2, hy2, hys2, hsi2⟩, by dsimp only; omega⟩ (q_a (q_a .nil)) (.to rfl) (.to rfl) (.to rfl)
    ·
     have hend : z.j = l.length := by omega
     rw [hend, List.take_length] at hzx hzys
     refine W.exit (N.then_exit (N.then_exit (N.block_eq (N.next (q_k [7, 9, 10, 11] [0, 1, 103, 107, 110, 150, 151, 152, 153, 161, 162, 163, 164] ?_)))))
     refine W.seq ?_
     refine W.draw (.q 0 (.q 1 (.q 2 (.q 3 (.q 4 (.q 5 (.q 6 (.q 7 (.one 8 (.q 9 .done)))))))))) (.of [0, 1, 103, 110, 150, 151, 152, 153, 161, 162, 163, 164] rfl) mix (by kernel_rfl) (by kernel_rfl) (q_d rfl q_mv (q_d rfl (q_lw 110 u59 sz59) (q_d rfl q_mv (q_d rfl q_mv ?_))))
     first | refine DL.as (t := 46) rfl (boolT (by first | assumption | omega | (simp; done))) ?_ | refine DL.as (t := 46) (v := .bool true) rfl rfl ?_
     refine DL.gq rfl rfl rfl q_mv rfl ?_
     refine DL.gq rfl rfl rfl (Yld.bin rfl rfl (BinV.neqPN u33)) rfl (q_d rfl Yld.pk (q_d rfl q_as ?_))
     refine q_o0 rfl (q_st 107 sz59) ?_
     rintro _ _ rfl
     refine q_d rfl q_as (DL.done (N.next (q_k [6, 7, 8] [0, 1, 103, 107, 110, 150, 151, 152, 153, 161, 162, 163, 164] ?_)))
     refine W.ret ?_
     exact q_r [1, 150, 151, 152, 153, 161, 162, 163, 164] (.cons (.tmp rfl) (.cons (q_rc 107 u59 sz59) (.cons (.tmp rfl) .nil))) rfl rfl rfl ⟨bt, z.x, z.y, rfl, hzx, hzy, hzys, rfl⟩
   ·
    refine q_o rfl (Eff.alloc 110 zc59) ?_
    rintro _ _ ⟨b10, rfl, rfl⟩
    refine q_o rfl (q_c ent22 [1] [1, 161, 162, 163, 164] (rnew_ct m H1 hM mach hv)) ?_
    rintro _ _ ⟨_, ⟨y0, rfl, hy0, hys0, rfl⟩, rfl⟩
    refine q_d rfl q_as ?_
    refine q_o0 rfl (q_st 110 sz59) ?_
    rintro _ _ rfl
    refine q_d rfl q_as (DL.done (N.next (q_k [2, 3, 7, 9, 10, 11] [0, 1, 103, 107, 110, 150, 151, 152, 153, 161, 162, 163, 164] ?_)))
    refine W.seq (q_sr (q_an ?_))
    refine W.block ?_
    refine W.loopK (ι := RJ) (fun z => (z.j ≤ l.length ∧ z.x.Is (runP m mach (l.take z.j)) ∧ z.y.In ∧ z.y.Is (runP m mach (l.take z.j)) ∧ SI m mach z.j (runP m mach (l.take z.j)))) (fun z => [(11, .bool true), (12, .int .i64 (z.j : Nat))]) (fun z => [(110, single b10 (.cells [.int .i64 mach, .slice z.y.pu z.y.us.length z.y.cu, .int .i64 z.y.gen, .slice z.y.ps z.y.st.length z.y.cs, .slice z.y.pv z.y.va.length z.y.cv, .slice z.y.pc z.y.cl.length z.y.cc].toArray 59 (0, 0))), (150, single bt (.cells [.slice m.psi m.si.length m.csi, .slice m.pfe m.fe.length m.cfe, .slice m.prk m.rk.length m.crk, .slice m.pmc m.mc.length m.cmc, .slice m.pln m.ln.length m.cln, .slice m.pis m.is.length m.cis, .int .i64 m.da, .int .i64 m.sl, .int .i64 m.re, .int .i64 m.fa, .slice m.prl m.rl.length m.crl, .int .i64 mach, .slice z.x.pu z.x.nu z.x.cu, .slice z.x.pc z.x.nc z.x.cc, .int .i64 z.x.gen, .map (some z.x.d)].toArray 82 (0, 0))), (151, z.x.HU), (152, z.x.HC), (153, single z.x.d (.map z.x.es z.x.ck)), (161, z.y.HU), (162, z.y.HS), (163, z.y.HV), (164, z.y.HC)]) (fun z => l.length - z.j) (.of [2, 3, 7, 9, 10] rfl) (.of [0, 1, 103, 107] rfl) ⟨0, x0, y0⟩ ?_ ?_ ?_ ?_
    · exact ⟨Nat.zero_le _, hx0, hy0, hys0, .new hv hm1 hm2⟩
    · exact (q_a (q_a .nil))
    · exact (.to rfl)
    rintro z ⟨hj, hzx, hzy, hzys, hsi⟩
    refine q_k [11, 12, 2, 3, 7, 9, 10] [110, 150, 151, 152, 153, 161, 162, 163, 164, 0, 1, 103, 107] ?_
    refine W.seq (q_sr (q_q q_mv ?_))
    refine q_q (Yld.bin rfl rfl (BinV.neqPN u33)) (q_q q_mv ?_)
    first | refine RL.as (t := 21) rfl (boolT (by first | assumption | omega | (simp; done))) ?_ | refine RL.as (t := 21) (v := .bool true) rfl rfl ?_
    refine q_g q_mv (q_q Yld.pk (q_q q_mv ?_))
    first | refine RL.as (t := 24) rfl (boolT (by first | assumption | omega | (simp; done))) ?_ | refine RL.as (t := 24) (v := .bool true) rfl rfl ?_
    refine q_g q_mv (q_g q_mv (q_g (q_n u30) (q_g (q_b BinV.lss) (q_q Yld.pk (q_nn (q_k [2, 3, 7, 9, 10, 11, 12, 29] [0, 1, 103, 107, 110, 150, 151, 152, 153, 161, 162, 163, 164] ?_))))))
    first | refine W.condD rfl (fun hc29 => ?_) (fun hc29 => ?_) | (refine W.cond rfl (fun hc29 => ?_) (fun hc29 => ?_) <;> try simp only [Bool.or_eq_true, Bool.and_eq_true, Bool.not_eq_true', Bool.not_eq_false', decide_eq_true_eq, Bool.or_eq_false_iff, Bool.and_eq_false_iff, decide_eq_false_iff_not, beq_iff_eq, beq_eq_false_iff_ne, ne_eq, Decidable.not_not] at hc29)
    ·
     obtain ⟨o, ho⟩ : ∃ o, l[z.j]? = some o := ⟨_, List.getElem?_eq_getElem (show z.j < l.length by omega)⟩
     have hlo : (l.map Opn.cs)[z.j]? = some o.cs := by simp [ho]
     refine W.skip (N.next (W.seq (W.block ?_)))
     refine W.draw (.q 0 (.q 1 (.q 3 (.q 4 (.q 5 (.two 2 (.one 6 (.one 7 (.q 8 (.q 9 (.q 10 (.one 11 (.q 12 .done))))))) 6 (.one 2 (.one 7 (.q 8 (.q 9 (.q 10 (.one 11 (.q 12 .done))))))))))))) (.of [0, 103, 107] rfl) mix (by kernel_rfl) (by kernel_rfl) (q_d rfl (q_lw 103 u29 sz29) (q_d rfl q_mv (q_d rfl q_mv (q_d rfl q_mv ?_))))
     refine q_d rfl (q_ix u30 sz40) ?_
     refine DL.two ?_ ?_
     ·
      refine q_o rfl (Yld.eff (q_lw 110 u59 sz59)) ?_
      rintro _ _ ⟨rfl, rfl⟩
      refine q_o rfl (Yld.eff (by first | exact q_rA 1 u40 sz40 | exact q_rA 103 u40 sz40 | exact q_rA 107 u40 sz40 | exact q_rA 110 u40 sz40 | exact q_rA 150 u40 sz40 | exact q_rA 151 u40 sz40 | exact q_rA 152 u40 sz40 | exact q_rA 153 u40 sz40 | exact q_rA 161 u40 sz40 | exact q_rA 162 u40 sz40 | exact q_rA 163 u40 sz40 | exact q_rA 164 u40 sz40)) ?_
      rintro _ _ ⟨rfl, rfl⟩
      refine q_o rfl (Eff.call ent32 [1, 150, 151, 152, 153, 161, 162, 163, 164] [1, 150, 151, 152, 153, 161, 162, 163, 164] (.cons rfl (.cons rfl (.cons rfl (.cons rfl .nil)))) (step_ct m H1 hM mach bt _ z.x hzx z.y hzy hzys o hv z.j (by omega) hsi (hR o (List.mem_of_getElem? ho))) rfl rfl rfl rfl (by rintro _ _ ⟨_, _, _, _, _, _, _, _, rfl⟩; rfl)) ?_
      rintro _ _ ⟨_, ⟨x2, y2, _, rfl, rfl, hx2, hy2, hys2, rfl⟩, rfl⟩
      have hsi2 := hsi.step (o := o) (hR o (List.mem_of_getElem? ho))
      rw [← runP_take ho] at hx2 hys2 hsi2
      refine q_d rfl q_mv (q_d rfl q_x (q_d rfl q_x ?_))
      refine q_o0 rfl (q_st 110 sz59) ?_
      rintro _ _ rfl
      refine q_d rfl q_as (DL.done (N.block_normal (N.next (q_k [2, 3, 7, 9, 10, 11, 12] [0, 1, 103, 107, 110, 150, 151, 152, 153, 161, 162, 163, 164] ?_))))
      refine W.region (q_q q_mv ?_)
      refine q_q q_ad (q_q q_as (RL.nil ?_))
      exact N.famK ⟨z.j + 1, x2, y2⟩ ⟨⟨by dsimp only; omega, hx2, hy2, hys2, hsi2⟩, by dsimp only; omega⟩ (q_a (q_a .nil)) (.to rfl) (.to rfl) (.to rfl)
     ·
      refine q_o rfl (Yld.eff (by first | exact q_rA 1 u40 sz40 | exact q_rA 103 u40 sz40 | exact q_rA 107 u40 sz40 | exact q_rA 110 u40 sz40 | exact q_rA 150 u40 sz40 | exact q_rA 151 u40 sz40 | exact q_rA 152 u40 sz40 | exact q_rA 153 u40 sz40 | exact q_rA 161 u40 sz40 | exact q_rA 162 u40 sz40 | exact q_rA 163 u40 sz40 | exact q_rA 164 u40 sz40)) ?_
      rintro _ _ ⟨rfl, rfl⟩
      refine q_o rfl (Yld.eff (q_lw 110 u59 sz59)) ?_
      rintro _ _ ⟨rfl, rfl⟩
      refine q_o rfl (Eff.call ent32 [1, 150, 151, 152, 153, 161, 162, 163, 164] [1, 150, 151, 152, 153, 161, 162, 163, 164] (.cons rfl (.cons rfl (.cons rfl (.cons rfl .nil)))) (step_ct m H1 hM mach bt _ z.x hzx z.y hzy hzys o hv z.j (by omega) hsi (hR o (List.mem_of_getElem? ho))) rfl rfl rfl rfl (by rintro _ _ ⟨_, _, _, _, _, _, _, _, rfl⟩; rfl)) ?_
      rintro _ _ ⟨_, ⟨x2, y2, _, rfl, rfl, hx2, hy2, hys2, rfl⟩, rfl⟩
      have hsi2 := hsi.step (o := o) (hR o (List.mem_of_getElem? ho))
      rw [← runP_take ho] at hx2 hys2 hsi2
      refine q_d rfl q_mv (q_d rfl q_x (q_d rfl q_x ?_))
      refine q_o0 rfl (q_st 110 sz59) ?_
      rintro _ _ rfl
      refine q_d rfl q_as (DL.done (N.block_normal (N.next (q_k [2, 3, 7, 9, 10, 11, 12] [0, 1, 103, 107, 110, 150, 151, 152, 153, 161, 162, 163, 164] ?_))))
      refine W.region (q_q q_mv ?_)
      refine q_q q_ad (q_q q_as (RL.nil ?_))
      exact N.famK ⟨z.j + 1, x2, y2⟩ ⟨⟨by dsimp only; omega, hx2, hy2, hys2, hsi2⟩, by dsimp only; omega⟩ (q_a (q_a .nil)) (.to rfl) (.to rfl) (.to rfl)
    ·
     have hend : z.j = l.length := by omega
     rw [hend, List.take_length] at hzx hzys
     refine W.exit (N.then_exit (N.then_exit (N.block_eq (N.next (q_k [7, 9, 10, 11] [0, 1, 103, 107, 110, 150, 151, 152, 153, 161, 162, 163, 164] ?_)))))
     refine W.seq ?_
     refine W.draw (.q 0 (.q 1 (.q 2 (.q 3 (.q 4 (.q 5 (.q 6 (.q 7 (.one 8 (.q 9 .done)))))))))) (.of [0, 1, 103, 110, 150, 151, 152, 153, 161, 162, 163, 164] rfl) mix (by kernel_rfl) (by kernel_rfl) (q_d rfl q_mv (q_d rfl (q_lw 110 u59 sz59) (q_d rfl q_mv (q_d rfl q_mv ?_))))
     first | refine DL.as (t := 46) rfl (boolT (by first | assumption | omega | (simp; done))) ?_ | refine DL.as (t := 46) (v := .bool true) rfl rfl ?_
     refine DL.gq rfl rfl rfl q_mv rfl ?_
     refine DL.gq rfl rfl rfl (Yld.bin rfl rfl (BinV.neqPN u33)) rfl (q_d rfl Yld.pk (q_d rfl q_as ?_))
     refine q_o0 rfl (q_st 107 sz59) ?_
     rintro _ _ rfl
     refine q_d rfl q_as (DL.done (N.next (q_k [6, 7, 8] [0, 1, 103, 107, 110, 150, 151, 152, 153, 161, 162, 163, 164] ?_)))
     refine W.ret ?_
     exact q_r [1, 150, 151, 152, 153, 161, 162, 163, 164] (.cons (.tmp rfl) (.cons (q_rc 107 u59 sz59) (.cons (.tmp rfl) .nil))) rfl rfl rfl ⟨bt, z.x, z.y, rfl, hzx, hzy, hzys, rfl⟩
  ·
   refine q_o rfl (Eff.alloc 110 zc59) ?_
   rintro _ _ ⟨b10, rfl, rfl⟩
   refine q_o rfl (q_c ent13 [1] [1, 150, 151, 152, 153] (new_ct m H1 hM hT mach hv hm1 hm2)) ?_
   rintro _ _ ⟨_, ⟨bt, x0, rfl, hx0, rfl⟩, rfl⟩
   refine q_o rfl (q_c ent22 [1] [1, 161, 162, 163, 164] (rnew_ct m H1 hM mach hv)) ?_
   rintro _ _ ⟨_, ⟨y0, rfl, hy0, hys0, rfl⟩, rfl⟩
   refine q_d rfl q_as ?_
   refine q_o0 rfl (q_st 110 sz59) ?_
   rintro _ _ rfl
   refine q_d rfl q_as (DL.done (N.next (q_k [2, 3, 7, 9, 10, 11] [0, 1, 103, 107, 110, 150, 151, 152, 153, 161, 162, 163, 164] ?_)))
   refine W.seq (q_sr (q_an ?_))
   refine W.block ?_
   refine W.loopK (ι := RJ) (fun z => (z.j ≤ l.length ∧ z.x.Is (runP m mach (l.take z.j)) ∧ z.y.In ∧ z.y.Is (runP m mach (l.take z.j)) ∧ SI m mach z.j (runP m mach (l.take z.j)))) (fun z => [(11, .bool true), (12, .int .i64 (z.j : Nat))]) (fun z => [(110, single b10 (.cells [.int .i64 mach, .slice z.y.pu z.y.us.length z.y.cu, .int .i64 z.y.gen, .slice z.y.ps z.y.st.length z.y.cs, .slice z.y.pv z.y.va.length z.y.cv, .slice z.y.pc z.y.cl.length z.y.cc].toArray 59 (0, 0))), (150, single bt (.cells [.slice m.psi m.si.length m.csi, .slice m.pfe m.fe.length m.cfe, .slice m.prk m.rk.length m.crk, .slice m.pmc m.mc.length m.cmc, .slice m.pln m.ln.length m.cln, .slice m.pis m.is.length m.cis, .int .i64 m.da, .int .i64 m.sl, .int .i64 m.re, .int .i64 m.fa, .slice m.prl m.rl.length m.crl, .int .i64 mach, .slice z.x.pu z.x.nu z.x.cu, .slice z.x.pc z.x.nc z.x.cc, .int .i64 z.x.gen, .map (some z.x.d)].toArray 82 (0, 0))), (151, z.x.HU), (152, z.x.HC), (153, single z.x.d (.map z.x.es z.x.ck)), (161, z.y.HU), (162, z.y.HS), (163, z.y.HV), (164, z.y.HC)]) (fun z => l.length - z.j) (.of [2, 3, 7, 9, 10] rfl) (.of [0, 1, 103, 107] rfl) ⟨0, x0, y0⟩ ?_ ?_ ?_ ?_
   · exact ⟨Nat.zero_le _, hx0, hy0, hys0, .new hv hm1 hm2⟩
   · exact (q_a (q_a .nil))
   · exact (.to rfl)
   rintro z ⟨hj, hzx, hzy, hzys, hsi⟩
   refine q_k [11, 12, 2, 3, 7, 9, 10] [110, 150, 151, 152, 153, 161, 162, 163, 164, 0, 1, 103, 107] ?_
   refine W.seq (q_sr (q_q q_mv ?_))
   refine q_q (Yld.bin rfl rfl (BinV.neqPN u33)) (q_q q_mv ?_)
   first | refine RL.as (t := 21) rfl (boolT (by first | assumption | omega | (simp; done))) ?_ | refine RL.as (t := 21) (v := .bool true) rfl rfl ?_
   refine q_g q_mv (q_q Yld.pk (q_q q_mv ?_))
   first | refine RL.as (t := 24) rfl (boolT (by first | assumption | omega | (simp; done))) ?_ | refine RL.as (t := 24) (v := .bool true) rfl rfl ?_
   refine q_g q_mv (q_g q_mv (q_g (q_n u30) (q_g (q_b BinV.lss) (q_q Yld.pk (q_nn (q_k [2, 3, 7, 9, 10, 11, 12, 29] [0, 1, 103, 107, 110, 150, 151, 152, 153, 161, 162, 163, 164] ?_))))))
   first | refine W.condD rfl (fun hc29 => ?_) (fun hc29 => ?_) | (refine W.cond rfl (fun hc29 => ?_) (fun hc29 => ?_) <;> try simp only [Bool.or_eq_true, Bool.and_eq_true, Bool.not_eq_true', Bool.not_eq_false', decide_eq_true_eq, Bool.or_eq_false_iff, Bool.and_eq_false_iff, decide_eq_false_iff_not, beq_iff_eq, beq_eq_false_iff_ne, ne_eq, Decidable.not_not] at hc29)
   ·
    obtain ⟨o, ho⟩ : ∃ o, l[z.j]? = some o := ⟨_, List.getElem?_eq_getElem (show z.j < l.length by omega)⟩
    have hlo : (l.map Opn.cs)[z.j]? = some o.cs := by simp [ho]
    refine W.skip (N.next (W.seq (W.block ?_)))
    refine W.draw (.q 0 (.q 1 (.q 3 (.q 4 (.q 5 (.two 2 (.one 6 (.one 7 (.q 8 (.q 9 (.q 10 (.one 11 (.q 12 .done))))))) 6 (.one 2 (.one 7 (.q 8 (.q 9 (.q 10 (.one 11 (.q 12 .done))))))))))))) (.of [0, 103, 107] rfl) mix (by kernel_rfl) (by kernel_rfl) (q_d rfl (q_lw 103 u29 sz29) (q_d rfl q_mv (q_d rfl q_mv (q_d rfl q_mv ?_))))
    refine q_d rfl (q_ix u30 sz40) ?_
    refine DL.two ?_ ?_
    ·
     refine q_o rfl (Yld.eff (q_lw 110 u59 sz59)) ?_
     rintro _ _ ⟨rfl, rfl⟩
     refine q_o rfl (Yld.eff (by first | exact q_rA 1 u40 sz40 | exact q_rA 103 u40 sz40 | exact q_rA 107 u40 sz40 | exact q_rA 110 u40 sz40 | exact q_rA 150 u40 sz40 | exact q_rA 151 u40 sz40 | exact q_rA 152 u40 sz40 | exact q_rA 153 u40 sz40 | exact q_rA 161 u40 sz40 | exact q_rA 162 u40 sz40 | exact q_rA 163 u40 sz40 | exact q_rA 164 u40 sz40)) ?_
     rintro _ _ ⟨rfl, rfl⟩
     refine q_o rfl (Eff.call ent32 [1, 150, 151, 152, 153, 161, 162, 163, 164] [1, 150, 151, 152, 153, 161, 162, 163, 164] (.cons rfl (.cons rfl (.cons rfl (.cons rfl .nil)))) (step_ct m H1 hM mach bt _ z.x hzx z.y hzy hzys o hv z.j (by omega) hsi (hR o (List.mem_of_getElem? ho))) rfl rfl rfl rfl (by rintro _ _ ⟨_, _, _, _, _, _, _, _, rfl⟩; rfl)) ?_
     rintro _ _ ⟨_, ⟨x2, y2, _, rfl, rfl, hx2, hy2, hys2, rfl⟩, rfl⟩
     have hsi2 := hsi.step (o := o) (hR o (List.mem_of_getElem? ho))
     rw [← runP_take ho] at hx2 hys2 hsi2
     refine q_d rfl q_mv (q_d rfl q_x (q_d rfl q_x ?_))
     refine q_o0 rfl (q_st 110 sz59) ?_
     rintro _ _ rfl
     refine q_d rfl q_as (DL.done (N.block_normal (N.next (q_k [2, 3, 7, 9, 10, 11, 12] [0, 1, 103, 107, 110, 150, 151, 152, 153, 161, 162, 163, 164] ?_))))
     refine W.region (q_q q_mv ?_)
     refine q_q q_ad (q_q q_as (RL.nil ?_))
     exact N.famK ⟨z.j + 1, x2, y2⟩ ⟨⟨by dsimp only; omega, hx2, hy2, hys2, hsi2⟩, by dsimp only; omega⟩ (q_a (q_a .nil)) (.to rfl) (.to rfl) (.to rfl)
    ·
     refine q_o rfl (Yld.eff (by first | exact q_rA 1 u40 sz40 | exact q_rA 103 u40 sz40 | exact q_rA 107 u40 sz40 | exact q_rA 110 u40 sz40 | exact q_rA 150 u40 sz40 | exact q_rA 151 u40 sz40 | exact q_rA 152 u40 sz40 | exact q_rA 153 u40 sz40 | exact q_rA 161 u40 sz40 | exact q_rA 162 u40 sz40 | exact q_rA 163 u40 sz40 | exact q_rA 164 u40 sz40)) ?_
     rintro _ _ ⟨rfl, rfl⟩
     refine q_o rfl (Yld.eff (q_lw 110 u59 sz59)) ?_
     rintro _ _ ⟨rfl, rfl⟩
     refine q_o rfl (Eff.call ent32 [1, 150, 151, 152, 153, 161, 162, 163, 164] [1, 150, 151, 152, 153, 161, 162, 163, 164] (.cons rfl (.cons rfl (.cons rfl (.cons rfl .nil)))) (step_ct m H1 hM mach bt _ z.x hzx z.y hzy hzys o hv z.j (by omega) hsi (hR o (List.mem_of_getElem? ho))) rfl rfl rfl rfl (by rintro _ _ ⟨_, _, _, _, _, _, _, _, rfl⟩; rfl)) ?_
     rintro _ _ ⟨_, ⟨x2, y2, _, rfl, rfl, hx2, hy2, hys2, rfl⟩, rfl⟩
     have hsi2 := hsi.step (o := o) (hR o (List.mem_of_getElem? ho))
     rw [← runP_take ho] at hx2 hys2 hsi2
     refine q_d rfl q_mv (q_d rfl q_x (q_d rfl q_x ?_))
     refine q_o0 rfl (q_st 110 sz59) ?_
     rintro _ _ rfl
     refine q_d rfl q_as (DL.done (N.block_normal (N.next (q_k [2, 3, 7, 9, 10, 11, 12] [0, 1, 103, 107, 110, 150, 151, 152, 153, 161, 162, 163, 164] ?_))))
     refine W.region (q_q q_mv ?_)
     refine q_q q_ad (q_q q_as (RL.nil ?_))
     exact N.famK ⟨z.j + 1, x2, y2⟩ ⟨⟨by dsimp only; omega, hx2, hy2, hys2, hsi2⟩, by dsimp only; omega⟩ (q_a (q_a .nil)) (.to rfl) (.to rfl) (.to rfl)
   ·
    have hend : z.j = l.length := by omega
    rw [hend, List.take_length] at hzx hzys
    refine W.exit (N.then_exit (N.then_exit (N.block_eq (N.next (q_k [7, 9, 10, 11] [0, 1, 103, 107, 110, 150, 151, 152, 153, 161, 162, 163, 164] ?_)))))
    refine W.seq ?_
    refine W.draw (.q 0 (.q 1 (.q 2 (.q 3 (.q 4 (.q 5 (.q 6 (.q 7 (.one 8 (.q 9 .done)))))))))) (.of [0, 1, 103, 110, 150, 151, 152, 153, 161, 162, 163, 164] rfl) mix (by kernel_rfl) (by kernel_rfl) (q_d rfl q_mv (q_d rfl (q_lw 110 u59 sz59) (q_d rfl q_mv (q_d rfl q_mv ?_))))
    first | refine DL.as (t := 46) rfl (boolT (by first | assumption | omega | (simp; done))) ?_ | refine DL.as (t := 46) (v := .bool true) rfl rfl ?_
    refine DL.gq rfl rfl rfl q_mv rfl ?_
    refine DL.gq rfl rfl rfl (Yld.bin rfl rfl (BinV.neqPN u33)) rfl (q_d rfl Yld.pk (q_d rfl q_as ?_))
    refine q_o0 rfl (q_st 107 sz59) ?_
    rintro _ _ rfl
    refine q_d rfl q_as (DL.done (N.next (q_k [6, 7, 8] [0, 1, 103, 107, 110, 150, 151, 152, 153, 161, 162, 163, 164] ?_)))
    refine W.ret ?_
    exact q_r [1, 150, 151, 152, 153, 161, 162, 163, 164] (.cons (.tmp rfl) (.cons (q_rc 107 u59 sz59) (.cons (.tmp rfl) .nil))) rfl rfl rfl ⟨bt, z.x, z.y, rfl, hzx, hzy, hzys, rfl⟩
end Go.Proofs.YtboapdcmaeojgaaGreatDoor
namespace Go.Proofs.YtboapdcmaeojgaaGreatDoor.Cfg
set_option linter.unusedVariables false
def nums (s : ByteArray) : List Int := s.data.toList.map fun b => (b.toNat : Int)
def Byt (l : List Int) : Prop := ∀ z ∈ l, 0 ≤ z ∧ z ≤ 255
theorem nums_byt (s : ByteArray) : Byt (nums s) := fun z hz => by
  obtain ⟨b, _, rfl⟩ := List.mem_map.1 hz
  have := b.toNat_lt
  omega
theorem nums_len (s : ByteArray) : (nums s).length = s.size := by unfold nums; rw [List.length_map, Array.length_toList]; rfl
theorem nums_str {l : List Int} (h : Byt l) : nums (strOfNums l) = l := by
  unfold strOfNums nums
  simp only [List.map_map]
  have : ∀ z ∈ l, ((fun b : UInt8 => (b.toNat : Int)) ∘ fun n : Int => UInt8.ofNat n.toNat) z = z := fun z hz => by
    have := h z hz
    simp only [Function.comp, UInt8.toNat_ofNat']
    omega
  calc _ = l.map id := List.map_congr_left this
    _ = l := List.map_id l
theorem Byt.app {l m : List Int} (hl : Byt l) (hm : Byt m) : Byt (l ++ m) := fun z hz => (List.mem_append.1 hz).elim (hl z) (hm z)
theorem Byt.left {l m : List Int} (h : Byt (l ++ m)) : Byt l := fun z hz => h z (List.mem_append_left _ hz)
theorem Byt.nil : Byt [] := fun z hz => by cases hz
theorem Byt.drop {l : List Int} (h : Byt l) (k : Nat) : Byt (l.drop k) := fun z hz => h z (List.mem_of_mem_drop hz)
theorem Byt.take {l : List Int} (h : Byt l) (k : Nat) : Byt (l.take k) := fun z hz => h z (List.mem_of_mem_take hz)
def digs (n : Nat) : List Int := if h : n = 0 then [] else digs (n / 256) ++ [((n % 256 : Nat) : Int)]
termination_by n
decreasing_by omega
def val (l : List Int) : Int := l.foldl (fun a x => a * 256 + x) 0
theorem digs_zero : digs 0 = [] := by rw [digs, dif_pos rfl]
theorem digs_pos {n : Nat} (h : n ≠ 0) : digs n = digs (n / 256) ++ [((n % 256 : Nat) : Int)] := by rw [digs, dif_neg h]
theorem val_snoc (l : List Int) (x : Int) : val (l ++ [x]) = val l * 256 + x := by unfold val; rw [List.foldl_append]; rfl
theorem val_nil : val [] = 0 := rfl
theorem digs_byt (n : Nat) : Byt (digs n) := by
  induction n using Nat.strongRecOn with
  | ind n ih =>
    by_cases h : n = 0
    · subst h; rw [digs_zero]; exact .nil
    · rw [digs_pos h]
      exact (ih _ (by omega)).app fun z hz => by simp only [List.mem_singleton] at hz; omega
theorem val_digs (n : Nat) : val (digs n) = n := by
  induction n using Nat.strongRecOn with
  | ind n ih =>
    by_cases h : n = 0
    · subst h; rw [digs_zero]; rfl
    · rw [digs_pos h, val_snoc, ih _ (by omega)]; omega
theorem digs_head (n : Nat) : (digs n).head? ≠ some 0 := by
  induction n using Nat.strongRecOn with
  | ind n ih =>
    by_cases h : n = 0
    · subst h; rw [digs_zero]; simp
    · rw [digs_pos h]
      by_cases h2 : n / 256 = 0
      · rw [h2, digs_zero]; simp; omega
      · have := ih _ (show n / 256 < n by omega)
        rw [digs_pos h2] at this ⊢
        cases hd : digs (n / 256 / 256) with
        | nil => rw [hd] at this; simpa using this
        | cons a r => rw [hd] at this; simpa using this
theorem digs_len (n : Nat) (h : n < 18446744073709551616) : (digs n).length = (Lib.bitLen n + 7) / 8 := by
  induction n using Nat.strongRecOn with
  | ind n ih =>
    by_cases h0 : n = 0
    · subst h0; rw [digs_zero]; rfl
    · rw [digs_pos h0, List.length_append, List.length_singleton]
      by_cases h2 : n < 256
      · rw [show n / 256 = 0 by omega, digs_zero]
        have h3 := Lib.bitLen_le8 ⟨n, h2⟩
        have h4 := Lib.bitLen_half n h0 h
        simp at h3 ⊢; omega
      · rw [ih _ (by omega) (by omega), Lib.bitLen_shift8 n (by omega) h]; omega
theorem digs_len8 (n : Nat) (h : n < 18446744073709551616) : (digs n).length ≤ 8 := by
  have key : ∀ k n : Nat, n < 256 ^ k → (digs n).length ≤ k := by
    intro k
    induction k with
    | zero => intro n hn; have : n = 0 := by simpa using hn
              subst this; rw [digs_zero]; simp
    | succ k ih =>
      intro n hn
      by_cases h0 : n = 0
      · subst h0; rw [digs_zero]; simp
      · rw [digs_pos h0, List.length_append, List.length_singleton]
        have := ih (n / 256) (by rw [Nat.pow_succ] at hn; omega)
        omega
  exact key 8 n h
theorem digs_get (n : Nat) : ∀ j, j < (digs n).length → (digs n)[j]? = some ((n / 256 ^ ((digs n).length - 1 - j) % 256 : Nat) : Int) := by
  induction n using Nat.strongRecOn with
  | ind n ih =>
    intro j hj
    by_cases h : n = 0
    · subst h; rw [digs_zero] at hj; simp at hj
    · rw [digs_pos h] at hj ⊢
      rw [List.length_append, List.length_singleton] at hj ⊢
      by_cases e : j < (digs (n / 256)).length
      · rw [List.getElem?_append_left e, ih _ (by omega) j e]
        congr 3
        rw [Nat.div_div_eq_div_mul, ← Nat.pow_succ']
        congr 2; omega
      · rw [List.getElem?_append_right (by omega), show j - (digs (n / 256)).length = 0 by omega]
        have e2 : (digs (n / 256)).length - j = 0 := by omega
        simp [e2]
theorem val_digs_inv : ∀ (l : List Int), Byt l → l.head? ≠ some 0 → 0 ≤ val l ∧ digs (val l).toNat = l := fun l => by
  induction l using snoc_ind with
  | h0 => intro _ _; exact ⟨Int.le_refl _, digs_zero⟩
  | h1 l a ih =>
    intro hb hh
    have ha := hb a (by simp)
    rw [val_snoc]
    cases l with
    | nil =>
      rw [val_nil]
      simp at hh
      refine ⟨by omega, ?_⟩
      rw [digs_pos (by omega), show ((0 * 256 + a).toNat / 256) = 0 by omega, digs_zero]
      simp; omega
    | cons b r =>
      obtain ⟨h1, h2⟩ := ih hb.left (by simpa using hh)
      refine ⟨by omega, ?_⟩
      have hne : val (b :: r) ≠ 0 := fun e => by rw [e] at h2; rw [Int.toNat_zero, digs_zero] at h2; cases h2
      rw [digs_pos (by omega), show (val (b :: r) * 256 + a).toNat / 256 = (val (b :: r)).toNat by omega, h2]
      congr 2; omega
theorem val_lt : ∀ (l : List Int), Byt l → 0 ≤ val l ∧ val l < 256 ^ l.length := fun l => by
  induction l using snoc_ind with
  | h0 => intro _; exact ⟨Int.le_refl _, by decide⟩
  | h1 l a ih =>
    intro hb
    have ha := hb a (by simp)
    obtain ⟨h1, h2⟩ := ih hb.left
    rw [val_snoc, List.length_append, List.length_singleton, Int.pow_succ]
    omega
def encN (n : Int) : List Int := ((digs n.toNat).length : Int) :: digs n.toNat
def decN : List Int → Option (Int × List Int)
  | [] => none
  | h :: t => if 8 < h ∨ (t.length : Int) < h then none else if 0 < h ∧ t.head? = some 0 then none else some (val (t.take h.toNat), t.drop h.toNat)
def U64 (n : Int) : Prop := 0 ≤ n ∧ n < 18446744073709551616
theorem encN_byt {n : Int} (h : U64 n) : Byt (encN n) := fun z hz => by
  have := digs_len8 n.toNat (by have := h.2; omega)
  rcases List.mem_cons.1 hz with rfl | hz
  · omega
  · exact digs_byt _ z hz
theorem encN_len {n : Int} (h : U64 n) : (encN n).length ≤ 9 := by
  have := digs_len8 n.toNat (by have := h.2; omega)
  simp [encN]; omega
theorem dec_enc {n : Int} (h : U64 n) (r : List Int) : decN (encN n ++ r) = some (n, r) := by
  have h8 := digs_len8 n.toNat (by have := h.2; omega)
  unfold decN encN
  simp only [List.cons_append]
  rw [if_neg (by rw [List.length_append]; omega), if_neg, Int.toNat_natCast, List.take_left, List.drop_left, val_digs]
  · congr 2; have := h.1; omega
  · rintro ⟨h1, h2⟩
    have hh := digs_head n.toNat
    cases hd : digs n.toNat with
    | nil => rw [hd] at h1; simp at h1
    | cons a t => rw [hd] at h2 hh; simp at h2 hh; exact hh h2
theorem enc_dec {l r : List Int} {n : Int} (hb : Byt l) (h : decN l = some (n, r)) : l = encN n ++ r ∧ U64 n ∧ Byt r := by
  cases l with
  | nil => cases h
  | cons a t =>
    simp only [decN] at h
    by_cases h1 : 8 < a ∨ (t.length : Int) < a
    · rw [if_pos h1] at h; cases h
    · rw [if_neg h1] at h
      by_cases h2 : 0 < a ∧ t.head? = some 0
      · rw [if_pos h2] at h; cases h
      · rw [if_neg h2] at h
        cases h
        have ha := hb a (by simp)
        have ht : Byt t := fun z hz => hb z (by simp [hz])
        have hlen : (t.take a.toNat).length = a.toNat := by rw [List.length_take]; omega
        have hh : (t.take a.toNat).head? ≠ some 0 := fun e => by
          cases t with
          | nil => simp at e
          | cons b t' =>
            cases hk : a.toNat with
            | zero => rw [hk] at e; simp at e
            | succ k => rw [hk] at e; simp at e; exact h2 ⟨by omega, by simp [e]⟩
        obtain ⟨v0, v1⟩ := val_digs_inv _ (ht.take a.toNat) hh
        have v2 := (val_lt _ (ht.take a.toNat)).2
        rw [hlen] at v2
        refine ⟨?_, ⟨v0, ?_⟩, ht.drop _⟩
        · unfold encN
          rw [v1, hlen, List.cons_append, List.take_append_drop]
          congr 1; omega
        · refine Int.lt_of_lt_of_le v2 ?_
          have key : ∀ k : Fin 9, (256 : Int) ^ k.val ≤ 18446744073709551616 := by decide
          exact key ⟨a.toNat, by omega⟩
theorem decN_short {l r : List Int} {n : Int} (h : decN l = some (n, r)) : r.length < l.length := by
  cases l with
  | nil => cases h
  | cons a t =>
    simp only [decN] at h
    by_cases h1 : 8 < a ∨ (t.length : Int) < a
    · rw [if_pos h1] at h; cases h
    · rw [if_neg h1] at h
      by_cases h2 : 0 < a ∧ t.head? = some 0
      · rw [if_pos h2] at h; cases h
      · rw [if_neg h2] at h
        cases h
        rw [List.length_drop, List.length_cons]; omega
def zig (z : Int) : Int := if 0 ≤ z then 2 * z else -2 * z - 1
def unzig (n : Int) : Int := if n % 2 = 0 then n / 2 else -(n / 2) - 1
def I64 (n : Int) : Prop := -9223372036854775808 ≤ n ∧ n ≤ 9223372036854775807
theorem zig_u64 {z : Int} (h : I64 z) : U64 (zig z) := by unfold zig; unfold I64 at h; unfold U64; split <;> omega
theorem unzig_zig (z : Int) : unzig (zig z) = z := by unfold zig unzig; split <;> split <;> omega
theorem unzig_i64 {n : Int} (h : U64 n) : I64 (unzig n) := by unfold unzig I64; unfold U64 at h; split <;> omega
theorem xor_ones (a : Nat) (h : a < 2 ^ 64) : a ^^^ 18446744073709551615 = 18446744073709551615 - a := by
  have e : (18446744073709551615 : Nat) = 2 ^ 64 - 1 := by decide
  have := BitVec.toNat_not (x := BitVec.ofNat 64 a)
  have h2 : (BitVec.ofNat 64 a ^^^ BitVec.allOnes 64) = ~~~ BitVec.ofNat 64 a := BitVec.xor_allOnes
  have h3 := congrArg BitVec.toNat h2
  rw [BitVec.toNat_xor, this, BitVec.toNat_allOnes, BitVec.toNat_ofNat, Nat.mod_eq_of_lt h] at h3
  rw [e, h3]
theorem zig_bits {z : Int} (h : I64 z) : bits .xor .u64 (IntKind.u64.wrap (IntKind.u64.wrap z * 2)) (IntKind.u64.wrap (z / 9223372036854775808)) = zig z := by
  unfold I64 at h
  rw [IntKind.wrap_u64, IntKind.wrap_u64, IntKind.wrap_u64]
  by_cases h0 : 0 ≤ z
  · rw [show z / 9223372036854775808 = 0 by omega, show (z % 18446744073709551616 * 2) % 18446744073709551616 = 2 * z by omega, u64_xor _ _ (by omega) (by omega) (by omega) (by omega)]
    unfold zig; rw [if_pos h0]; simp; omega
  · rw [show z / 9223372036854775808 = -1 by omega, show (-1 : Int) % 18446744073709551616 = 18446744073709551615 by decide, show (z % 18446744073709551616 * 2) % 18446744073709551616 = 2 * z + 18446744073709551616 by omega, u64_xor _ _ (by omega) (by omega) (by omega) (by omega)]
    rw [show (18446744073709551615 : Int).toNat = 18446744073709551615 by rfl, xor_ones _ (by omega)]
    unfold zig; rw [if_neg h0]; omega
theorem i64_xor_neg {a : Int} (h : I64 a) : bits .xor .i64 a (-1) = -a - 1 := by
  unfold I64 at h
  show IntKind.i64.wrap ((BitVec.ofInt 64 a ^^^ BitVec.ofInt 64 (-1)).toNat) = _
  have e1 : BitVec.ofInt 64 (-1) = BitVec.allOnes 64 := by decide
  rw [e1, BitVec.xor_allOnes, BitVec.toNat_not, BitVec.toNat_ofInt, IntKind.wrap_i64]
  have : (a % ((2 ^ 64 : Nat) : Int)).toNat = (a % 18446744073709551616).toNat := rfl
  rw [this]
  omega
theorem i64_xor_zero {a : Int} (h : I64 a) : bits .xor .i64 a 0 = a := by
  unfold I64 at h
  show IntKind.i64.wrap ((BitVec.ofInt 64 a ^^^ BitVec.ofInt 64 0).toNat) = _
  have e1 : BitVec.ofInt 64 0 = 0#64 := by decide
  rw [e1, BitVec.xor_zero, BitVec.toNat_ofInt, IntKind.wrap_i64]
  have : (a % ((2 ^ 64 : Nat) : Int)).toNat = (a % 18446744073709551616).toNat := rfl
  rw [this]
  omega
theorem u64_and1 {n : Int} (h : U64 n) : bits .and .u64 n 1 = n % 2 := by
  unfold U64 at h
  rw [u64_and _ _ h.1 h.2 (by omega) (by omega), show (1 : Int).toNat = 1 by rfl, Nat.and_one_is_mod]
  omega
theorem u64_or_byte {a x : Int} (h0 : 0 ≤ a) (h1 : a < 72057594037927936) (h2 : 0 ≤ x ∧ x ≤ 255) : bits .or .u64 (IntKind.u64.wrap (a * 256)) x = a * 256 + x := by
  rw [IntKind.wrap_u64, Int.emod_eq_of_lt (by omega) (by omega)]
  exact bits_join .u64 64 (by decide) (fun n h h' => by rw [IntKind.wrap_u64]; omega) 8 _ _ (by omega) (by omega) (by omega) (by omega) (by omega) (by omega)
def encZ (z : Int) : List Int := encN (zig z)
theorem decN_nil {l : List Int} (h : ¬ 1 ≤ l.length) : decN l = none := by
  cases l with
  | nil => rfl
  | cons a t => simp at h
theorem decN_big {l : List Int} (h : 8 < l.getD 0 0) : decN l = none := by
  cases l with
  | nil => rfl
  | cons a t => simp only [decN]; rw [if_pos (.inl (by simpa using h))]
theorem decN_short' {l : List Int} (h : ((l.drop 1).length : Int) < l.getD 0 0) : decN l = none := by
  cases l with
  | nil => rfl
  | cons a t => simp only [decN]; rw [if_pos (.inr (by simpa using h))]
theorem decN_zero {l : List Int} (h0 : 0 < l.getD 0 0) (h1 : l.getD 0 0 ≤ (l.drop 1).length) (h : (l.drop 1).getD 0 0 = 0) : decN l = none := by
  cases l with
  | nil => rfl
  | cons a t =>
    simp only [decN]
    simp only [List.drop_succ_cons, List.drop_zero, List.getD_cons_zero] at h0 h1 h
    by_cases e : 8 < a ∨ (t.length : Int) < a
    · rw [if_pos e]
    · have g : t.head? = some 0 := by
        cases t with
        | nil => exfalso; simp only [List.length_nil] at h1; omega
        | cons b r => simpa using h
      rw [if_neg e, if_pos ⟨h0, g⟩]
theorem decN_some {l : List Int} (h : 1 ≤ l.length) (h8 : l.getD 0 0 ≤ 8) (h1 : l.getD 0 0 ≤ (l.drop 1).length) (h2 : ¬ (0 < l.getD 0 0 ∧ (l.drop 1).getD 0 0 = 0)) : decN l = some (val ((l.drop 1).take (l.getD 0 0).toNat), (l.drop 1).drop (l.getD 0 0).toNat) := by
  cases l with
  | nil => simp at h
  | cons a t =>
    simp only [decN]
    simp only [List.drop_succ_cons, List.drop_zero, List.getD_cons_zero] at h8 h1 h2 ⊢
    rw [if_neg (by omega), if_neg]
    rintro ⟨g0, g1⟩
    refine h2 ⟨g0, ?_⟩
    cases t with
    | nil => cases g1
    | cons b r => simpa using g1
def numV (l : List Int) : Int := match decN l with | some (n, _) => n | none => 0
def numE (l : List Int) : Int := match decN l with | some _ => 0 | none => 11
theorem numV_u64 {l : List Int} (hb : Byt l) : U64 (numV l) := by
  unfold numV
  cases h : decN l with
  | none => exact ⟨by simp, by simp⟩
  | some x => exact (enc_dec hb (n := x.1) (r := x.2) h).2.1
theorem num_none {l : List Int} (h : decN l = none) : numV l = 0 ∧ numE l = 11 := by unfold numV numE; rw [h]; exact ⟨rfl, rfl⟩
theorem num_some {l r : List Int} {n : Int} (h : decN l = some (n, r)) : numV l = n ∧ numE l = 0 := by unfold numV numE; rw [h]; exact ⟨rfl, rfl⟩
abbrev RS := List Int × Int
def rdN (s : RS) : Int × RS := if s.2 ≠ 0 then (0, s) else match decN s.1 with | some (n, r) => (n, (r, 0)) | none => (0, ([], 11))
def rdZ (s : RS) : Int × RS := (unzig (rdN s).1, (rdN s).2)
def rdC (s : RS) (most : Int) : Int × RS := if s.2 ≠ 0 then (0, s) else match decN s.1 with | some (n, r) => if most < 0 ∨ most < n then (0, ([], 8)) else (n, (r, 0)) | none => (0, ([], 11))
def rdE (s : RS) : Int := if s.2 = 0 ∧ 0 < s.1.length then 11 else s.2
theorem rdE_pos {l : List Int} {e : Int} (h : e = 0 ∧ 0 < l.length) : rdE (l, e) = 11 := if_pos h
theorem rdE_neg {l : List Int} {e : Int} (h : ¬ (e = 0 ∧ 0 < l.length)) : rdE (l, e) = e := if_neg h
theorem rdN_byt {s : RS} (h : Byt s.1) : Byt (rdN s).2.1 ∧ U64 (rdN s).1 := by
  unfold rdN
  split
  · exact ⟨h, by simp, by simp⟩
  · split
    · rename_i n r e; exact ⟨(enc_dec h e).2.2, (enc_dec h e).2.1⟩
    · exact ⟨.nil, by simp, by simp⟩
theorem val_snoc_take {l : List Int} {j : Nat} {z : Int} (h : l[j]? = some z) : val (l.take (j + 1)) = val (l.take j) * 256 + z := by
  rw [List.take_add_one, h]; exact val_snoc _ _
theorem val_small {l : List Int} (hb : Byt l) {j : Nat} (hj : j ≤ 7) : 0 ≤ val (l.take j) ∧ val (l.take j) < 72057594037927936 := by
  obtain ⟨h0, h1⟩ := val_lt _ (hb.take j)
  refine ⟨h0, Int.lt_of_lt_of_le h1 ?_⟩
  have key : ∀ k : Fin 8, (256 : Int) ^ k.val ≤ 72057594037927936 := by decide
  exact key ⟨(l.take j).length, by rw [List.length_take]; omega⟩
theorem byt_getD {l : List Int} (hb : Byt l) (i : Nat) : 0 ≤ l.getD i 0 ∧ l.getD i 0 ≤ 255 := by
  rw [List.getD_eq_getElem?_getD]
  cases h : l[i]? with
  | none => simp
  | some z => exact hb z (List.mem_of_getElem? h)
theorem rdN_err {l : List Int} {e : Int} (h : e ≠ 0) : rdN (l, e) = (0, (l, e)) := if_pos h
theorem rdN_none {l : List Int} (h : decN l = none) : rdN (l, 0) = (0, ([], 11)) := by unfold rdN; rw [if_neg (by simp)]; simp only [h]
theorem rdN_some {l r : List Int} {n : Int} (h : decN l = some (n, r)) : rdN (l, 0) = (n, (r, 0)) := by unfold rdN; rw [if_neg (by simp)]; simp only [h]
theorem numE_ne {l : List Int} (h : numE l ≠ 0) : decN l = none := by
  unfold numE at h
  cases e : decN l with
  | none => rfl
  | some x => rw [e] at h; exact absurd rfl h
theorem numE_eq {l : List Int} (h : numE l = 0) : ∃ n r, decN l = some (n, r) := by
  unfold numE at h
  cases e : decN l with
  | none => rw [e] at h; cases h
  | some x => exact ⟨x.1, x.2, rfl⟩
def cntE (l : List Int) (most : Int) : Int := match decN l with | some (n, _) => if most < 0 ∨ most < n then 8 else 0 | none => 11
def cntV (l : List Int) (most : Int) : Int := match decN l with | some (n, _) => if most < 0 ∨ most < n then 0 else n | none => 0
theorem rdC_err {l : List Int} {e most : Int} (h : e ≠ 0) : rdC (l, e) most = (0, (l, e)) := if_pos h
theorem rdC_none {l : List Int} {most : Int} (h : decN l = none) : rdC (l, 0) most = (0, ([], 11)) := by unfold rdC; rw [if_neg (by simp)]; simp only [h]
theorem rdC_some {l r : List Int} {n most : Int} (h : decN l = some (n, r)) : rdC (l, 0) most = if most < 0 ∨ most < n then (0, ([], 8)) else (n, (r, 0)) := by unfold rdC; rw [if_neg (by simp)]; simp only [h]
theorem cnt_none {l : List Int} {most : Int} (h : decN l = none) : cntE l most = 11 ∧ cntV l most = 0 := by unfold cntE cntV; rw [h]; exact ⟨rfl, rfl⟩
theorem cnt_some {l r : List Int} {n most : Int} (h : decN l = some (n, r)) : cntE l most = (if most < 0 ∨ most < n then 8 else 0) ∧ cntV l most = (if most < 0 ∨ most < n then 0 else n) := by unfold cntE cntV; rw [h]; exact ⟨rfl, rfl⟩
theorem rdC_range {s : RS} {most : Int} (hb : Byt s.1) (hm : most ≤ 9223372036854775807) : 0 ≤ (rdC s most).1 ∧ (rdC s most).1 ≤ 9223372036854775807 := by
  unfold rdC
  split
  · simp
  · split
    · rename_i n r e
      split
      · simp
      · rename_i h
        have := (enc_dec hb e).2.1.1
        dsimp only; omega
    · simp
theorem rdC_byt {s : RS} {most : Int} (h : Byt s.1) : Byt (rdC s most).2.1 := by
  unfold rdC
  split
  · exact h
  · split
    · rename_i n r e
      have := (enc_dec h e).2.2
      split
      · exact .nil
      · exact this
    · exact .nil
theorem unzig_bits {n : Int} (h : U64 n) : bits .xor .i64 (IntKind.i64.wrap (n / 2 ^ (1 : Int).toNat)) (IntKind.i64.wrap (-(IntKind.i64.wrap (bits .and .u64 n 1)))) = unzig n := by
  have h2 : (2 : Int) ^ (1 : Int).toNat = 2 := rfl
  rw [h2, u64_and1 h]
  unfold U64 at h
  rw [IntKind.wrap_i64 (n / 2), IntKind.wrap_i64 (n % 2), IntKind.wrap_i64]
  rw [show (n / 2 + 9223372036854775808) % 18446744073709551616 - 9223372036854775808 = n / 2 by omega]
  unfold unzig
  by_cases e : n % 2 = 0
  · rw [e, if_pos rfl]
    exact i64_xor_zero ⟨by omega, by omega⟩
  · rw [if_neg e, show n % 2 = 1 by omega]
    exact i64_xor_neg ⟨by omega, by omega⟩
end Go.Proofs.YtboapdcmaeojgaaGreatDoor.Cfg
namespace Go.Proofs.YtboapdcmaeojgaaGreatDoor.SL
set_option linter.unusedVariables false
section
variable {X : Cx} {σ : Loc} {L : Sh} {ty : TypeId} {x y z : Operand}
def bz (l : List Int) : List (List Value) := l.map fun z => [.int .u8 z]
@[simp] theorem bz_len (l : List Int) : (bz l).length = l.length := by simp [bz]
theorem bz_get {l : List Int} {i : Nat} {z : Int} (h : l[i]? = some z) : (bz l)[i]? = some [.int .u8 z] := by simp [bz, h]
theorem bz_at {l : List Int} {i : Nat} (h : i < l.length) : ∃ z, l[i]? = some z ∧ (bz l)[i]? = some [.int .u8 z] := ⟨l[i], List.getElem?_eq_getElem h, bz_get (List.getElem?_eq_getElem h)⟩
theorem bz_single {b e : Nat} {l : List Int} {cs : List Value} (hcs : cs = l.map fun z => .int .u8 z) (hm : l.length ≤ maxLen) : Own (single b (.cells cs.toArray e (0, 0))) (some ⟨b, 0, none⟩) l.length e 1 (bz l) := by
  have hf : (bz l).flatten = l.map fun z => Value.int .u8 z := by
    unfold bz
    clear hcs hm
    induction l with
    | nil => rfl
    | cons a l ih => simp [ih]
  refine Own.mk [] (fun r hr => ?_) (by simp) hm ?_ ?_
  · obtain ⟨z, _, rfl⟩ := List.mem_map.1 hr; exact ⟨rfl, by simp [Value.oneCell']⟩
  · rw [List.append_nil, hf]; simp
  · rw [hcs, List.append_nil, hf]
theorem Yld.bytesStr {src dst e : TypeId} {p : Option Addr} {c n cl : Nat} {H : PH} {xs : List Int} (hs : X.P.underlying src = some (.slice e)) (he : X.P.underlying e = some (.int .u8)) (hd : X.P.underlying dst = some .string)
    (hx : ev σ x = some (.slice p n c)) (hL : lk L cl = some H) (hS : Sl H p c 1 (bz xs)) (hn : n = xs.length) : Yld X (.convert src dst x) ty σ L (.string (strOfNums xs)) :=
  Yld.of (fun ρ => convert src dst (ρ x)) (fun ρ o ho => by simp [execOp, ho]) fun a w ha hm => by
    rw [ha.ev hx]
    subst hn
    cases p with
    | none =>
      obtain ⟨h0, _⟩ := hS
      obtain rfl : xs = [] := List.map_eq_nil_iff.1 h0
      exact run_convert_bytes_nil w src e hs he 0 c dst hd
    | some ad =>
      by_cases hxs : 0 < xs.length
      · obtain ⟨a', ea, hr⟩ := hS.row (i := 0) (by simpa using hxs)
        cases ea
        exact run_convert_bytes_arg w src e hs he _ _ xs.length c xs rfl (fun i hi => by
          have := hr.cell (i := i) (bz_get (List.getElem?_eq_getElem hi)) (hm.sub _ _ hL) (j := 0) rfl
          rw [Nat.mul_one, Nat.add_zero] at this
          rw [this]; simp [List.getD, List.getElem?_eq_getElem hi]) dst hd
      · obtain rfl : xs = [] := List.eq_nil_of_length_eq_zero (by omega)
        rw [run_convert_bytes_string w src dst e _ _ c hs he hd]
        show (Conv.bytesToString (.slice (some ad) 0 c)).run X.P w = _
        rw [run_bytesToString w _ 0 c [] (by
          have := run_loadCells_list (P := X.P) w ad [] (fun j v hj => by simp at hj)
          simpa using this)]
        rfl
def strZ (s : ByteArray) : List Int := s.data.toList.map fun b => (b.toNat : Int)
theorem strZ_len (s : ByteArray) : (strZ s).length = s.size := by unfold strZ; rw [List.length_map, Array.length_toList]; rfl
theorem bz_flat (l : List Int) : (bz l).flatten = l.map fun z => Value.int .u8 z := by
  unfold bz
  induction l with
  | nil => rfl
  | cons a l ih => simp [ih]
theorem bz_take (l : List Int) (k : Nat) : bz (l.take k) = (bz l).take k := by simp [bz, List.map_take]
theorem bz_drop (l : List Int) (k : Nat) : bz (l.drop k) = (bz l).drop k := by simp [bz, List.map_drop]
theorem bz_one (l : List Int) : ∀ r ∈ bz l, ∀ v ∈ r, v.oneCell' = true := by
  intro r hr v hv
  obtain ⟨z, _, rfl⟩ := List.mem_map.1 hr
  simp only [List.mem_singleton] at hv; subst hv; rfl
theorem Yld.neg {T : TypeId} {k : IntKind} {a : Int} (hx : ev σ x = some (.int k a)) : Yld X (.unOp .neg T x) ty σ L (.int k (k.wrap (-a))) := fun ac w ha hm o ho _ => by
  have h1 : Op.intArith .sub k 0 a = pure (.int k (k.wrap (0 - a))) := rfl
  simp [execOp, ho, ha.ev hx, Op.unary, h1]
theorem bz_one1 : ∀ (l : List Int), ∀ a ∈ l, ∀ v ∈ [Value.int .u8 a], v.oneCell' = true := fun l a _ v hv => by simp only [List.mem_singleton] at hv; subst hv; rfl
theorem bz_none {b e : Nat} {cs : List Value} (hcs : cs = []) : Own (single b (.cells cs.toArray e (0, 0))) (some ⟨b, 0, none⟩) 0 e 1 (bz []) := Own.none0 hcs
theorem Eff.strBytes (tc : Nat) {src dst e : TypeId} {s : ByteArray} (hs : X.P.underlying src = some .string) (hd : X.P.underlying dst = some (.slice e)) (he : X.P.underlying e = some (.int .u8)) (hx : ev σ x = some (.string s)) (hmax : s.size ≤ maxLen) :
    Eff X (.convert src dst x) ty σ L (fun v L' => ∃ H' p' c', v = .slice p' (strZ s).length c' ∧ Sl H' p' c' 1 (bz (strZ s)) ∧ L' = (tc, H') :: L) := fun a w ha hm o ho hty K Q hK => by
  have hr := Lib.run_convert_string_bytes (P := X.P) w src dst e s hs hd he
  have hm' : Mem X.E ((tc, single w.heap.size (.cells (Lib.bytesCells w e s) e ((Lib.bytesCells w e s).size, (Lib.bytesCells w e s).size + 1))) :: L) (Lib.bytesWorld w e s) :=
    hm.set tc (G := emp) (.inr fun _ => rfl) ⟨rfl, rfl, by rw [Lib.bytesWorld_size]; omega, fun b hb _ => Lib.bytesWorld_at_old w e s b hb⟩
      (fun b x hb => by obtain ⟨rfl, rfl⟩ := single_inv hb; exact Lib.bytesWorld_at_new w e s) (fun b x hb => by obtain ⟨rfl, rfl⟩ := single_inv hb; exact .inr (Nat.le_refl _))
  unfold Oper.wp
  have h2 : (execOp a.eval o).run X.P w = .ok (.value (.slice (some ⟨w.heap.size, 0, none⟩) s.size (grownCap w s.size 0 e))) (Lib.bytesWorld w e s) := by
    simp only [execOp, ho, Sem.run_bind, ha.ev hx, hr]; rfl
  rw [h2]
  have hge := grownCap_ge w s.size 0 e
  refine hK _ _ _ ⟨_, _, _, by rw [strZ_len], ?_, rfl⟩ hm'
  refine ⟨by rw [bz_len, strZ_len]; exact hge, grownCap_le_maxLen w s.size 0 e hmax, fun _ => ⟨rfl, (Lib.bytesCells w e s).toList, e, _, by rw [Array.toArray_toList]; exact single_self _ _, fun i l hl => ?_⟩⟩
  have hb : (Lib.bytesCells w e s).toList = (bz (strZ s)).flatten ++ List.replicate (grownCap w s.size 0 e - s.size) (.int .u8 0) := by
    rw [bz_flat]; unfold Lib.bytesCells strZ; rw [Array.toList_append, Array.toList_map, List.map_map, Array.toList_replicate]; rfl
  refine ⟨?_, by rw [hb, Nat.zero_add]; exact flatten_get _ (fun l hl => by obtain ⟨z, _, rfl⟩ := List.mem_map.1 hl; rfl) i l hl⟩
  obtain ⟨z, _, rfl⟩ := List.mem_map.1 (List.mem_of_getElem? hl); rfl
end
end Go.Proofs.YtboapdcmaeojgaaGreatDoor.SL
namespace Go.Proofs.YtboapdcmaeojgaaGreatDoor.SL
set_option linter.unusedVariables false
end Go.Proofs.YtboapdcmaeojgaaGreatDoor.SL
namespace Go.Proofs.YtboapdcmaeojgaaGreatDoor
open SL Cfg
set_option linter.unusedVariables false
set_option linter.unusedSimpArgs false
theorem ent93 : Ent Tryz.prog 93 := ⟨_, _, Tryz.func93, by kernel_rfl, rfl⟩
theorem sz5 : sz Tryz.prog 5 1 := (by kernel_rfl : (Tryz.prog.info? 5).map (·.size) = some 1)
theorem zc5 : zc Tryz.prog 5 [.int .u8 0] := (by kernel_rfl : ((Tryz.prog.info? 5).bind (·.zero)).map (fun v => v.cells.toList) = some [.int .u8 0])
theorem el5 : el Tryz.prog 5 1 1 := .mk (by kernel_rfl)
theorem ent54 : Ent Tryz.prog 54 := ⟨_, _, Tryz.func54, by kernel_rfl, rfl⟩
abbrev u5 := @Tryz.underlying5
abbrev u108 := @Tryz.underlying108
abbrev u111 := @Tryz.underlying111
structure Cfg.CI where
  i : Nat
  H : PH
  p : Option Addr
  c : Nat
theorem sort_ct (l : List Int) (H1 : PH) (p : Option Addr) (c : Nat) (hO : Own H1 p c 3 1 (iz l)) (hb : l.length ≤ 1000000) : Ct Tryz.prog 55 [.slice p l.length c] [H1] (fun v Hs => v = .tuple #[] ∧ ∃ H', Own H' p c 3 1 (iz (srt l)) ∧ Hs = [H']) :=
  sort_ct_of (Value.int .i64) srt srt_len (fun _ => rfl) (fun blk off cap zs w hH hb hs => Tryz.slices_Sort_int blk off cap zs w hH hb hs) (fun p cap w => Tryz.slices_Sort_int_none p cap w) hO (by omega)
theorem len64_ct (n : Int) (hn : U64 n) : Ct Tryz.prog 93 [.int .u64 n] [] (fun v Hs => v = .int .i64 ((Lib.bitLen n.toNat : Nat) : Int) ∧ Hs = []) := fun E F w hm =>
  (Tryz.bits_Len64 n w hn.1 (by have := hn.2; omega)).mono fun e w' ⟨he, hw⟩ => ⟨_, _, he, ⟨rfl, rfl⟩, by subst hw; exact hm⟩
theorem Cfg.shr_byte {n : Int} (hn : U64 n) {m : Nat} (hm : 1 ≤ m) : IntKind.u8.wrap (n / 2 ^ (8 * ((m : Int) - 1)).toNat) = ((n.toNat / 256 ^ (m - 1) % 256 : Nat) : Int) := by
  obtain ⟨k, rfl⟩ : ∃ k : Nat, n = k := ⟨n.toNat, by have := hn.1; omega⟩
  rw [show (8 * ((m : Int) - 1)).toNat = 8 * (m - 1) by omega, Nat.pow_mul 2 8 (m - 1) |> fun h => (by simpa using h : (2 : Nat) ^ (8 * (m - 1)) = 256 ^ (m - 1)) |> fun h2 => (by rw [show ((2 : Int) ^ (8 * (m - 1))) = (((2 : Nat) ^ (8 * (m - 1)) : Nat) : Int) by simp, h2] : (2 : Int) ^ (8 * (m - 1)) = ((256 ^ (m - 1) : Nat) : Int))]
  rw [IntKind.wrap_u8, Int.toNat_natCast]
  simp
theorem Cfg.digs_take {n : Nat} {m : Nat} (h1 : 1 ≤ m) (h : m ≤ (digs n).length) : (digs n).take ((digs n).length - (m - 1)) = (digs n).take ((digs n).length - m) ++ [((n / 256 ^ (m - 1) % 256 : Nat) : Int)] := by
  have := digs_get n ((digs n).length - m) (by omega)
  rw [show (digs n).length - (m - 1) = (digs n).length - m + 1 by omega, List.take_add_one, this]
  rw [show (digs n).length - 1 - ((digs n).length - m) = m - 1 by omega]; rfl
set_option maxRecDepth 100000 in
set_option maxHeartbeats 3200000 in
theorem addN_ct (l : List Int) (H1 : PH) (p : Option Addr) (c : Nat) (hO : Own H1 p c 5 1 (bz l)) (n : Int) (hn : U64 n) (hb : l.length ≤ 1000000) : Ct Tryz.prog 54 [.slice p l.length c, .int .u64 n] [H1] (fun v Hs => ∃ H' p' c', v = .slice p' (l ++ encN n).length c' ∧ Own H' p' c' 5 1 (bz (l ++ encN n)) ∧ Hs = [H']) := by
  refine Ct.body Tryz.func54 rfl Tryz.ntmps54 rfl ?_
  intro E F
  obtain ⟨hn0, hn1⟩ := hn
  have hkl := digs_len n.toNat (by omega)
  have hk8 := digs_len8 n.toNat (by omega)
  obtain ⟨D, hD⟩ : ∃ D, digs n.toNat = D := ⟨_, rfl⟩
  refine q_sr (q_an ?_)
  refine q_sr (q_q q_mv ?_)
  refine q_e (q_c ent93 [] [] (len64_ct n ⟨hn0, hn1⟩)) ?_
  rintro _ _ ⟨_, ⟨rfl, rfl⟩, rfl⟩
  refine q_q q_ad ?_
  refine q_q (Yld.eq (v' := .int .i64 (((digs n.toNat).length : Nat) : Int)) (Yld.bin rfl rfl (by first | exact BinV.quo (by omega) (by omega) (by omega) | exact BinV.quoW (by omega))) (by first | (rw [hkl]; done) | (rw [hkl]; congr 1; done) | (rw [hkl]; congr 1; omega))) ?_
  refine q_an ?_
  refine q_k [0, 1, 5] [0, 1] ?_
  refine q_sr (q_q q_mv (q_q q_mv ?_))
  refine q_q (Yld.convIs u3 u5 rfl (by first | exact IntWalk.u8_in _ ⟨by omega, by omega⟩ | rfl)) ?_
  refine q_e (Eff.buildSlice 114 u108 sz5 zc5 rfl rfl (.cons rfl rfl .nil) rfl) ?_
  rintro _ _ ⟨b14, rfl, rfl⟩
  refine q_e (Eff.appendE (tc := 1) (sc := 114) (fun z : Int => [Value.int .u8 z]) u108 el5 rfl rfl rfl rfl hO rfl (bz_single (l := [(((digs n.toNat).length : Nat) : Int)]) rfl (by simp [maxLen])).sl rfl (bz_one1 _) (by decide) (by simp; omega) (by simp [maxLen]; omega)) ?_
  rintro _ _ ⟨Ha, pa, ca, rfl, hOa, rfl⟩
  refine q_an ?_
  refine q_k [0, 1, 5] [0, 1, 114] ?_
  refine W.seq (q_sr (q_q q_mv ?_))
  refine q_q q_sb (q_an ?_)
  refine W.block ?_
  refine W.loopK (ι := CI) (fun x => (x.i ≤ (digs n.toNat).length ∧ Own x.H x.p x.c 5 1 (bz (l ++ (((digs n.toNat).length : Nat) : Int) :: (digs n.toNat).take ((digs n.toNat).length - x.i))))) (fun x => [(0, .slice x.p (l ++ (((digs n.toNat).length : Nat) : Int) :: (digs n.toNat).take ((digs n.toNat).length - x.i)).length x.c), (6, .int .i64 ((x.i : Nat) - 1 : Int))]) (fun x => [(1, x.H)]) (fun x => x.i) (.of [1] rfl) (.of [0, 114] rfl) ⟨(digs n.toNat).length, Ha, pa, ca⟩ ?_ ?_ ?_ ?_
  · exact ⟨Nat.le_refl _, by dsimp only; rw [Nat.sub_self, List.take_zero]; exact hOa⟩
  · exact (.as rfl (by dsimp only; rw [Nat.sub_self, List.take_zero]) (q_a .nil))
  · exact (.to rfl)
  rintro x ⟨hx, hOx⟩
  refine q_k [0, 6, 1] [1, 0, 114] ?_
  refine W.seq (q_sr (q_q q_mv (q_q (q_b BinV.geq) (q_nn ?_))))
  first | refine W.condD rfl (fun hc19 => ?_) (fun hc19 => ?_) | (refine W.cond rfl (fun hc19 => ?_) (fun hc19 => ?_) <;> try simp only [Bool.or_eq_true, Bool.and_eq_true, Bool.not_eq_true', Bool.not_eq_false', decide_eq_true_eq, Bool.or_eq_false_iff, Bool.and_eq_false_iff, decide_eq_false_iff_not, beq_iff_eq, beq_eq_false_iff_ne, ne_eq, Decidable.not_not] at hc19)
  ·
   have hx1 : 1 ≤ x.i := by omega
   have htl : ((digs n.toNat).take ((digs n.toNat).length - x.i)).length ≤ 8 := by rw [List.length_take]; omega
   refine W.skip (N.next (W.seq (W.block (W.region (q_q q_mv (q_q q_mv (q_q q_mv ?_)))))))
   refine q_q q_ml ?_
   refine q_q (Yld.bin rfl rfl (BinV.shr (by omega) (by first | decide | (simp [IntKind.bits]; done) | (simp [IntKind.bits]; omega)))) ?_
   refine q_q (Yld.eq (v' := .int .u8 ((n.toNat / 256 ^ (x.i - 1) % 256 : Nat) : Int)) (Yld.convIs u111 u5 rfl (by first | exact IntWalk.u8_in _ ⟨by omega, by omega⟩ | rfl)) (by rw [← shr_byte ⟨hn0, hn1⟩ (show 1 ≤ x.i by omega)])) ?_
   refine q_e (Eff.buildSlice 128 u108 sz5 zc5 rfl rfl (.cons rfl rfl .nil) rfl) ?_
   rintro _ _ ⟨b28, rfl, rfl⟩
   refine q_e (Eff.appendE (tc := 1) (sc := 128) (fun z : Int => [Value.int .u8 z]) u108 el5 rfl rfl rfl rfl hOx rfl (bz_single (l := [((n.toNat / 256 ^ (x.i - 1) % 256 : Nat) : Int)]) rfl (by simp [maxLen])).sl rfl (bz_one1 _) (by decide) (by simp; omega) (by simp [maxLen]; omega)) ?_
   rintro _ _ ⟨Hb, pb, cb, rfl, hOb, rfl⟩
   refine q_q q_as (RL.nil (N.block_normal (N.next (q_k [0, 1, 6] [0, 1, 114, 128] ?_))))
   refine W.region (q_q q_mv ?_)
   refine q_q q_sb (q_q q_as (RL.nil ?_))
   exact N.famK ⟨x.i - 1, Hb, pb, cb⟩ ⟨⟨by dsimp only; omega, by dsimp only; rw [digs_take (by omega) hx, ← List.cons_append, ← List.append_assoc]; exact hOb⟩, by dsimp only; omega⟩ (.as rfl (by show Value.slice _ _ _ = Value.slice _ _ _; dsimp only; rw [digs_take (by omega) hx, ← List.cons_append, ← List.append_assoc]) (.as rfl (by show Value.int .i64 _ = Value.int .i64 _; dsimp only; congr 1; omega) .nil)) (.to rfl) (.to rfl) (.to rfl)
  ·
   have hx0 : x.i = 0 := by omega
   have hfin : l ++ (((digs n.toNat).length : Nat) : Int) :: (digs n.toNat).take ((digs n.toNat).length - x.i) = l ++ encN n := by rw [hx0, Nat.sub_zero, List.take_length]; rfl
   refine W.exit (N.then_exit (N.then_exit (N.block_eq (N.next (q_k [0] [0, 1, 114] ?_)))))
   refine q_sr (q_q q_mv (q_an ?_))
   refine W.ret ?_
   exact q_r [1] (.cons (.tmp rfl) .nil) rfl rfl rfl ⟨x.H, x.p, x.c, by rw [← hfin]; rfl, by rw [← hfin]; exact hOx, rfl⟩
set_option maxRecDepth 100000 in
set_option maxHeartbeats 1600000 in
theorem addI_ct (l : List Int) (H1 : PH) (p : Option Addr) (c : Nat) (hO : Own H1 p c 5 1 (bz l)) (z : Int) (hz : Cfg.I64 z) (hb : l.length ≤ 1000000) : Ct Tryz.prog 53 [.slice p l.length c, .int .i64 z] [H1] (fun v Hs => ∃ H' p' c', v = .slice p' (l ++ encZ z).length c' ∧ Own H' p' c' 5 1 (bz (l ++ encZ z)) ∧ Hs = [H']) := by
  refine Ct.body Tryz.func53 rfl Tryz.ntmps53 rfl ?_
  intro E F
  refine q_sr (q_an ?_)
  refine q_sr (q_q q_mv (q_q q_mv ?_))
  refine q_q (Yld.convIs u2 u111 rfl (by first | exact IntWalk.u64_in _ ⟨by omega, by omega⟩ | rfl)) ?_
  refine q_q (Yld.bin rfl rfl (BinV.shlW (by omega) (by first | decide | (simp [IntKind.bits]; done) | (simp [IntKind.bits]; omega)))) ?_
  refine q_q q_mv ?_
  refine q_q (Yld.bin rfl rfl (BinV.shr (by omega) (by first | decide | (simp [IntKind.bits]; done) | (simp [IntKind.bits]; omega)))) ?_
  refine q_q (Yld.convIs u2 u111 rfl (by first | exact IntWalk.u64_in _ ⟨by omega, by omega⟩ | rfl)) ?_
  refine q_q (Yld.eq (v' := .int .u64 (zig z)) (q_b BinV.xor) (by rw [← zig_bits hz]; rfl)) ?_
  refine q_e (q_c ent54 [1] [1] (addN_ct l H1 p c hO (zig z) (zig_u64 hz) hb)) ?_
  rintro _ _ ⟨_, ⟨Ha, pa, ca, rfl, hOa, rfl⟩, rfl⟩
  refine q_an ?_
  refine q_k [4] [0, 1] ?_
  refine W.ret ?_
  exact q_r [1] (.cons (.tmp rfl) .nil) rfl rfl rfl ⟨_, _, _, rfl, hOa, rfl⟩
end Go.Proofs.YtboapdcmaeojgaaGreatDoor
namespace Go.Proofs.YtboapdcmaeojgaaGreatDoor
open SL Cfg
set_option linter.unusedVariables false
set_option linter.unusedSimpArgs false
theorem fo146_0 : fieldOff Tryz.prog 146 0 = some 0 := by kernel_rfl
theorem sz108 : sz Tryz.prog 108 1 := (by kernel_rfl : (Tryz.prog.info? 108).map (·.size) = some 1)
theorem ent146 : Ent Tryz.prog 146 := ⟨_, _, Tryz.func146, by kernel_rfl, rfl⟩
theorem fo146_1 : fieldOff Tryz.prog 146 1 = some 1 := by kernel_rfl
theorem sz43 : sz Tryz.prog 43 1 := (by kernel_rfl : (Tryz.prog.info? 43).map (·.size) = some 1)
abbrev u43 := @Tryz.underlying43
structure Cfg.Rd where
  p : Option Addr
  c : Nat
  l : List Int
  e : Int
structure Cfg.Rd.In (x : Rd) (H : PH) : Prop where
  sl : Sl H x.p x.c 1 (bz x.l)
  byt : Byt x.l
def Cfg.Rd.s (x : Rd) : RS := (x.l, x.e)
def Cfg.takeV (x : Rd) (n : Int) : Value := if n ≤ x.l.length then .slice x.p n.toNat x.c else .slice none 0 0
def Cfg.Rd.take (x : Rd) (n : Int) : Rd := if n ≤ x.l.length then ⟨subP x.p x.c n.toNat 1, x.c - n.toNat, x.l.drop n.toNat, x.e⟩ else x
theorem Cfg.get_take {l : List Int} {k : Nat} (h : 0 < k) (h1 : 0 < l.length) : (l.take k)[(0 : Int).toNat]? = some (l.getD 0 0) := by
  rw [List.getElem?_take]
  cases l with
  | nil => simp at h1
  | cons a t => simp [h]
theorem Cfg.takeV_pos {x : Rd} {n : Int} (h : n ≤ x.l.length) : takeV x n = .slice x.p n.toNat x.c := if_pos h
theorem Cfg.Rd.In.take {x : Rd} {H : PH} (h : x.In H) (n : Int) (h0 : 0 ≤ n) : (x.take n).In H ∧ (x.take n).e = x.e := by
  unfold Rd.take
  split
  · exact ⟨⟨by rw [bz_drop]; exact h.sl.drop (by rw [bz_len]; omega), h.byt.drop _⟩, rfl⟩
  · exact ⟨h, rfl⟩
theorem Cfg.Rd.take_l {x : Rd} {n : Int} (h : n ≤ x.l.length) : (x.take n).l = x.l.drop n.toNat := by unfold Rd.take; rw [if_pos h]
theorem Cfg.Rd.In.head {x : Rd} {H : PH} (h : x.In H) {n : Nat} (hn : n ≤ x.l.length) : Sl H x.p x.c 1 (bz (x.l.take n)) := by rw [bz_take]; exact h.sl.take n
set_option maxRecDepth 100000 in
set_option maxHeartbeats 1600000 in
theorem take_ct (r : Nat) (x : Rd) (H1 : PH) (hx : x.In H1) (n : Int) (hn : U64 n) : Ct Tryz.prog 146 [.pointer (some ⟨r, 0, none⟩), .int .u64 n] [single r (.cells [.slice x.p x.l.length x.c, .int .i64 x.e].toArray 146 (0, 0)), H1] (fun v Hs => v = .tuple #[takeV x n, .bool (decide (n ≤ x.l.length))] ∧ Hs = [single r (.cells [.slice (x.take n).p (x.take n).l.length (x.take n).c, .int .i64 (x.take n).e].toArray 146 (0, 0)), H1]) := by
  refine Ct.body Tryz.func146 rfl Tryz.ntmps146 rfl ?_
  intro E F
  have hmx := hx.sl.len_le
  simp only [bz_len, maxLen] at hmx
  have hxs := hx.sl
  obtain ⟨hn0, hn1⟩ := hn
  refine q_sr (q_q q_as (q_an ?_))
  refine W.seq (q_sr (q_q q_mv (q_q q_np (q_q (q_fa fo146_0) (q_q (q_l 1 u108) (q_q (q_n u108) ?_))))))
  refine q_q (Yld.convIs u3 u111 rfl (by first | exact IntWalk.u64_in _ ⟨by omega, by omega⟩ | rfl)) ?_
  refine q_q q_mv (q_q (q_b BinV.lss) (q_nn (q_k [0, 1, 14] [0, 1, 2] ?_)))
  first | refine W.condD rfl (fun hc14 => ?_) (fun hc14 => ?_) | (refine W.cond rfl (fun hc14 => ?_) (fun hc14 => ?_) <;> try simp only [Bool.or_eq_true, Bool.and_eq_true, Bool.not_eq_true', Bool.not_eq_false', decide_eq_true_eq, Bool.or_eq_false_iff, Bool.and_eq_false_iff, decide_eq_false_iff_not, beq_iff_eq, beq_eq_false_iff_ne, ne_eq, Decidable.not_not] at hc14)
  ·
   refine q_sr (q_q q_as (q_an ?_))
   refine W.ret (N.then_ret ?_)
   exact q_r [1, 2] (.cons (.tmp rfl) (.cons (.tmp rfl) .nil)) rfl rfl rfl ⟨by show _ = Value.tuple #[takeV x n, .bool (decide (n ≤ (x.l.length : Int)))]; unfold takeV; rw [if_neg (by omega), decide_eq_false (by omega)]; rfl, by unfold Rd.take; rw [if_neg (by omega)]⟩
  ·
   refine W.skip (N.next (q_sr (q_q q_mv (q_q q_np (q_q (q_fa fo146_0) (q_q (q_l 1 u108) (q_q q_mv ?_)))))))
   refine q_q (Yld.sliceH u108 sz5 rfl rfl (by omega) (by first | omega | (simp; done) | (simp; omega))) ?_
   refine q_an ?_
   refine q_k [0, 1, 6] [0, 1, 2] ?_
   refine q_sr (q_q q_mv (q_q q_mv (q_q q_np (q_q (q_fa fo146_0) (q_q (q_l 1 u108) (q_q q_mv ?_))))))
   refine q_q (Yld.sliceL u108 sz5 rfl rfl (by omega) (by first | omega | (simp; done) | (simp; omega))) ?_
   refine q_q q_np (q_q (q_fa fo146_0) (q_s 1 sz108 ?_))
   refine q_nn (q_k [6] [0, 1, 2] ?_)
   refine q_sr (q_q q_mv (q_q q_as (q_an ?_)))
   refine W.ret ?_
   exact q_r [1, 2] (.cons (.tmp rfl) (.cons (.tmp rfl) .nil)) rfl rfl rfl ⟨by show _ = Value.tuple #[takeV x n, .bool (decide (n ≤ (x.l.length : Int)))]; unfold takeV; rw [if_pos (by omega), decide_eq_true (by omega)]; rfl, by unfold Rd.take; rw [if_pos (by omega)]; simp only [List.length_drop]⟩
set_option maxRecDepth 100000 in
set_option maxHeartbeats 6400000 in
theorem number_ct (r : Nat) (x : Rd) (H1 K G : PH) (hx : x.In H1) : Ct Tryz.prog 100 [.pointer (some ⟨r, 0, none⟩)] [single r (.cells [.slice x.p x.l.length x.c, .int .i64 x.e].toArray 146 (0, 0)), H1, K, G] (fun v Hs => ∃ y : Rd, y.In H1 ∧ y.e = x.e ∧ (∀ n q, decN x.l = some (n, q) → y.l = q) ∧ v = .tuple #[.int .u64 (numV x.l), .int .i64 (numE x.l)] ∧ Hs = [single r (.cells [.slice y.p y.l.length y.c, .int .i64 y.e].toArray 146 (0, 0)), H1, K, G]) := by
  refine Ct.body Tryz.func100 rfl Tryz.ntmps100 rfl ?_
  intro E F
  have hmx := hx.sl.len_le
  simp only [bz_len, maxLen] at hmx
  have hxs := hx.sl
  have hhb := byt_getD hx.byt 0
  obtain ⟨hd, hhd⟩ : ∃ z, x.l.getD 0 0 = z := ⟨_, rfl⟩
  rw [hhd] at hhb
  refine q_sr (q_q q_as (q_an ?_))
  refine q_sr (q_q q_mv ?_)
  refine q_e (q_c ent146 [1, 2] [1, 2] (take_ct r x H1 hx 1 ⟨by omega, by omega⟩)) ?_
  rintro _ _ ⟨_, ⟨rfl, rfl⟩, rfl⟩
  refine q_q q_mv (q_q q_x (q_q q_x (q_q q_as (q_an ?_))))
  refine q_k [0, 4, 5] [0, 1, 2, 3, 4] ?_
  refine W.seq (q_sr (q_q q_mv (q_q Yld.nt (q_q q_mv ?_))))
  refine' q_or 17 22 5 [0, 4, 5, 15, 16] [0, 1, 2, 3, 4] ?_ ?_ ?_
  rotate_left 1
  ·
   intro hg17
   have hg17 := of_decide_eq_false hg17
   have h1 : (1 : Int) ≤ x.l.length := by omega
   have h1n : 1 ≤ x.l.length := by omega
   have hl0 : (bz (x.l.take 1))[(0 : Int).toNat]? = some [.int .u8 hd] := bz_get (by rw [← hhd]; exact get_take (by omega) (by omega))
   refine q_g (Yld.eq (v' := .slice x.p 1 x.c) q_mv (takeV_pos h1)) ?_
   refine q_g (Yld.indexRow u108 sz5 rfl rfl (hx.head h1n) (by rw [bz_len, List.length_take]; omega) (by omega) (by rw [bz_len, List.length_take]; omega)) ?_
   refine q_g (Yld.loadRow1 (cl := 2) u5 rfl rfl rfl (hx.head h1n) hl0) (q_g (q_b BinV.gtr) (q_q Yld.pk ?_))
   exact q_m
  ·
   intro hg17
   repeat refine q_gs ?_
   refine q_q Yld.pk ?_
   exact q_m
  refine q_nn ?_
  first | refine W.condD rfl (fun hc22 => ?_) (fun hc22 => ?_) | (refine W.cond rfl (fun hc22 => ?_) (fun hc22 => ?_) <;> try simp only [Bool.or_eq_true, Bool.and_eq_true, Bool.not_eq_true', Bool.not_eq_false', decide_eq_true_eq, Bool.or_eq_false_iff, Bool.and_eq_false_iff, decide_eq_false_iff_not, beq_iff_eq, beq_eq_false_iff_ne, ne_eq, Decidable.not_not] at hc22)
  ·
   have hnone : decN x.l = none := by
     by_cases e : 1 ≤ x.l.length
     · exact decN_big (by rw [hhd]; rcases hc22 with h | h <;> omega)
     · exact decN_nil e
   obtain ⟨hI1, he1⟩ := hx.take 1 (by omega)
   obtain ⟨e1, e2⟩ := num_none hnone
   refine q_sr (q_q q_as (q_an ?_))
   refine q_k [2, 3] [0, 1, 2, 3, 4] ?_
   refine W.ret (N.then_ret ?_)
   exact q_r [1, 2, 3, 4] (.cons (.tmp rfl) (.cons (.tmp rfl) .nil)) rfl rfl rfl ⟨x.take 1, hI1, he1, fun n q h => by (rw [hnone] at h; cases h), by rw [e1, e2]; rfl, rfl⟩
  ·
   have h1 : (1 : Int) ≤ x.l.length := by omega
   have h1n : 1 ≤ x.l.length := by omega
   have hl0 : (bz (x.l.take 1))[(0 : Int).toNat]? = some [.int .u8 hd] := bz_get (by rw [← hhd]; exact get_take (by omega) (by omega))
   have hh8 : hd ≤ 8 := by omega
   obtain ⟨hI1, he1⟩ := hx.take 1 (by omega)
   have hl1 := Rd.take_l (x := x) h1
   obtain ⟨y, hyd⟩ : ∃ y, x.take 1 = y := ⟨_, rfl⟩
   rw [hyd] at hI1 he1 hl1
   rw [hyd]
   have hy := hI1
   replace hl1 : y.l = x.l.drop 1 := hl1
   obtain ⟨b0, hb0d⟩ : ∃ z, y.l.getD 0 0 = z := ⟨_, rfl⟩
   refine W.skip (N.next (q_k [0, 4] [0, 1, 2, 3, 4] ?_))
   refine q_sr (q_q q_mv ?_)
   refine q_q (Yld.eq (v' := .slice x.p 1 x.c) q_mv (takeV_pos h1)) ?_
   refine q_q (Yld.indexRow u108 sz5 rfl rfl (hx.head h1n) (by rw [bz_len, List.length_take]; omega) (by omega) (by rw [bz_len, List.length_take]; omega)) ?_
   refine q_q (Yld.loadRow1 (cl := 2) u5 rfl rfl rfl (hx.head h1n) hl0) ?_
   refine q_q (Yld.convIs u5 u111 rfl (by first | exact IntWalk.u64_in _ ⟨by omega, by omega⟩ | rfl)) ?_
   refine q_e (q_c ent146 [1, 2] [1, 2] (take_ct r y H1 hy hd ⟨by omega, by omega⟩)) ?_
   rintro _ _ ⟨_, ⟨rfl, rfl⟩, rfl⟩
   refine q_q q_mv (q_q q_x (q_q q_x (q_q q_as (q_an ?_))))
   refine q_k [5, 6] [0, 1, 2, 3, 4] ?_
   refine W.seq (q_sr (q_q q_mv (q_q Yld.nt (q_q q_mv ?_))))
   refine' q_or 34 44 10 [5, 6, 32, 33] [0, 1, 2, 3, 4] ?_ ?_ ?_
   rotate_left 1
   ·
    intro hg34
    have hg34 := of_decide_eq_false hg34
    have hok : hd ≤ y.l.length := by omega
    have hokn : hd.toNat ≤ y.l.length := by omega
    refine q_g (Yld.eq (v' := .slice y.p hd.toNat y.c) q_mv (takeV_pos hok)) (q_g (q_n u108) (q_g (q_b BinV.gtr) (q_g q_mv ?_)))
    refine' q_and 38 43 5 [5, 6, 32, 33, 34, 35, 36, 37] [0, 1, 2, 3, 4] ?_ ?_ ?_
    rotate_left 1
    ·
     intro hg38
     have hg38 := of_decide_eq_true hg38
     have hb0 : (bz (y.l.take hd.toNat))[(0 : Int).toNat]? = some [.int .u8 b0] := bz_get (by rw [← hb0d]; exact get_take (by omega) (by omega))
     refine q_g (Yld.eq (v' := .slice y.p hd.toNat y.c) q_mv (takeV_pos hok)) ?_
     refine q_g (Yld.indexRow u108 sz5 rfl rfl (hy.head hokn) (by rw [bz_len, List.length_take]; omega) (by omega) (by rw [bz_len, List.length_take]; omega)) ?_
     refine q_g (Yld.loadRow1 (cl := 2) u5 rfl rfl rfl (hy.head hokn) hb0) (q_g (q_b BinV.eql) (q_g Yld.pk ?_))
     exact q_m
    ·
     intro hg38
     repeat refine q_gs ?_
     refine q_g Yld.pk ?_
     exact q_m
    refine q_q Yld.pk ?_
    exact q_m
   ·
    intro hg34
    repeat refine q_gs ?_
    refine RL.gskipU rfl rfl rfl ?_
    refine RL.gskipU rfl rfl rfl ?_
    refine RL.gskipU rfl rfl rfl ?_
    refine RL.gskipU rfl rfl rfl (q_gs (q_q Yld.pk ?_))
    exact q_m
   refine q_nn ?_
   first | refine W.condD rfl (fun hc44 => ?_) (fun hc44 => ?_) | (refine W.cond rfl (fun hc44 => ?_) (fun hc44 => ?_) <;> try simp only [Bool.or_eq_true, Bool.and_eq_true, Bool.not_eq_true', Bool.not_eq_false', decide_eq_true_eq, Bool.or_eq_false_iff, Bool.and_eq_false_iff, decide_eq_false_iff_not, beq_iff_eq, beq_eq_false_iff_ne, ne_eq, Decidable.not_not] at hc44)
   ·
    have hnone : decN x.l = none := by
      by_cases e : hd ≤ y.l.length
      · exact decN_zero (by rw [hhd]; omega) (by rw [← hl1, hhd]; exact e) (by rw [← hl1, hb0d]; omega)
      · exact decN_short' (by rw [← hl1, hhd]; omega)
    obtain ⟨hI2, he2⟩ := hy.take hd (by omega)
    obtain ⟨e1, e2⟩ := num_none hnone
    refine q_sr (q_q q_as (q_an ?_))
    refine q_k [2, 3] [0, 1, 2, 3, 4] ?_
    refine W.ret (N.then_ret ?_)
    exact q_r [1, 2, 3, 4] (.cons (.tmp rfl) (.cons (.tmp rfl) .nil)) rfl rfl rfl ⟨y.take hd, hI2, by rw [he2, he1], fun n q h => by (rw [hnone] at h; cases h), by rw [e1, e2]; rfl, rfl⟩
   ·
    have hok : hd ≤ y.l.length := by omega
    have hokn : hd.toNat ≤ y.l.length := by omega
    have hsome := decN_some h1n (by rw [hhd]; exact hh8) (by rw [← hl1, hhd]; exact hok) (by rw [← hl1, hhd, hb0d]; rintro ⟨g1, g2⟩; omega)
    rw [← hl1, hhd] at hsome
    obtain ⟨hI2, he2⟩ := hy.take hd (by omega)
    have hl2 := Rd.take_l (x := y) hok
    obtain ⟨e1, e2⟩ := num_some hsome
    have hbb := hy.byt.take hd.toNat
    have hbl : (y.l.take hd.toNat).length = hd.toNat := by rw [List.length_take]; omega
    refine W.skip (N.next (q_k [6] [0, 1, 2, 3, 4] ?_))
    refine q_sr (q_an ?_)
    refine W.seq (q_sr ?_)
    refine q_q (Yld.eq (v' := .slice y.p hd.toNat y.c) q_mv (takeV_pos hok)) (q_q (q_n u108) (q_q q_mv (q_nn (W.block ?_))))
    refine W.loopK (ι := Nat) (fun j => (j ≤ hd.toNat)) (fun j => [(7, .int .u64 (val ((y.l.take hd.toNat).take j))), (47, .int .i64 (j : Nat))]) (fun j => []) (fun j => hd.toNat - j) (.of [45, 46] rfl) (.of [0, 1, 2, 3, 4] rfl) 0 ?_ ?_ ?_ ?_
    · exact Nat.zero_le _
    · exact (q_a (q_a .nil))
    · exact .nil
    rintro j hj
    refine q_k [7, 47, 45, 46] [0, 1, 2, 3, 4] ?_
    refine q_sr (q_q (q_b BinV.lss) (q_nn (W.seq ?_)))
    first | refine W.condD rfl (fun hc48 => ?_) (fun hc48 => ?_) | (refine W.cond rfl (fun hc48 => ?_) (fun hc48 => ?_) <;> try simp only [Bool.or_eq_true, Bool.and_eq_true, Bool.not_eq_true', Bool.not_eq_false', decide_eq_true_eq, Bool.or_eq_false_iff, Bool.and_eq_false_iff, decide_eq_false_iff_not, beq_iff_eq, beq_eq_false_iff_ne, ne_eq, Decidable.not_not] at hc48)
    ·
     obtain ⟨z, hz, hlz⟩ := bz_at (show j < (y.l.take hd.toNat).length by omega)
     have hzb := hbb z (List.mem_of_getElem? hz)
     refine W.skip (N.next (W.seq (W.block (q_sr ?_))))
     refine q_q (Yld.indexRow u108 sz5 rfl rfl (hy.head hokn) (by rw [bz_len, List.length_take]; omega) (by omega) (by rw [bz_len, List.length_take]; omega)) ?_
     refine q_q (Yld.loadRow1 (cl := 2) u5 rfl rfl rfl (hy.head hokn) hlz) (q_an ?_)
     refine W.region (q_q q_mv ?_)
     refine q_q (Yld.bin rfl rfl (BinV.shlW (by omega) (by first | decide | (simp [IntKind.bits]; done) | (simp [IntKind.bits]; omega)))) ?_
     refine q_q q_mv ?_
     refine q_q (Yld.convIs u5 u111 rfl (by first | exact IntWalk.u64_in _ ⟨by omega, by omega⟩ | rfl)) ?_
     refine q_q (Yld.eq (v' := .int .u64 (val ((y.l.take hd.toNat).take (j + 1)))) (q_b BinV.or) (by rw [val_snoc_take hz]; show Value.int .u64 _ = _; rw [← u64_or_byte (val_small hbb (show j ≤ 7 by omega)).1 (val_small hbb (show j ≤ 7 by omega)).2 hzb]; rfl)) (q_q q_as (RL.nil (N.block_normal (N.next (q_k [7, 45, 46, 47] [0, 1, 2, 3, 4] ?_)))))
     refine W.region ?_
     refine q_q q_ad (q_q q_mv (RL.nil ?_))
     exact N.famK (j + 1) ⟨by omega, by omega⟩ (q_a (q_a .nil)) (.to rfl) .nil (.to rfl)
    ·
     have hj8 : j = hd.toNat := by omega
     refine W.exit (N.then_exit (N.then_exit (N.block_eq (N.next (q_k [7] [0, 1, 2, 3, 4] ?_)))))
     refine q_sr (q_q q_mv (q_q q_as (q_an ?_)))
     refine W.ret ?_
     exact q_r [1, 2, 3, 4] (.cons (.tmp rfl) (.cons (.tmp rfl) .nil)) rfl rfl rfl ⟨y.take hd, hI2, by rw [he2, he1], fun n q h => by rw [hsome] at h; cases h; exact hl2, by rw [e1, e2, hj8]; rw [List.take_of_length_le (by omega)]; rfl, rfl⟩
set_option maxRecDepth 100000 in
set_option maxHeartbeats 1600000 in
theorem read_ct (r : Nat) (x : Rd) (H1 K G G2 : PH) (hx : x.In H1) (f : Nat) (first cap : List Value) (nv ne : Int) (Ry : Rd → Prop) (hent : Ent Tryz.prog f) (hf : x.e = 0 → Ct Tryz.prog f (first ++ [] ++ cap) [single r (.cells [.slice x.p x.l.length x.c, .int .i64 x.e].toArray 146 (0, 0)), H1, K, G] (fun v Hs => ∃ y : Rd, y.In H1 ∧ y.e = x.e ∧ Ry y ∧ v = .tuple #[.int .u64 nv, .int .i64 ne] ∧ Hs = [single r (.cells [.slice y.p y.l.length y.c, .int .i64 y.e].toArray 146 (0, 0)), H1, K, G2])) : Ct Tryz.prog 98 [.pointer (some ⟨r, 0, none⟩), .func (.func f) first.toArray cap.toArray] [single r (.cells [.slice x.p x.l.length x.c, .int .i64 x.e].toArray 146 (0, 0)), H1, K, G] (fun v Hs => ∃ y : Rd, y.In H1 ∧ ((x.e ≠ 0 ∧ y = x ∧ v = .int .u64 0 ∧ Hs = [single r (.cells [.slice y.p y.l.length y.c, .int .i64 y.e].toArray 146 (0, 0)), H1, K, G]) ∨ (x.e = 0 ∧ ne ≠ 0 ∧ y.l = [] ∧ y.e = ne ∧ v = .int .u64 0 ∧ Hs = [single r (.cells [.slice y.p y.l.length y.c, .int .i64 y.e].toArray 146 (0, 0)), H1, K, G2]) ∨ (x.e = 0 ∧ ne = 0 ∧ y.e = 0 ∧ Ry y ∧ v = .int .u64 nv ∧ Hs = [single r (.cells [.slice y.p y.l.length y.c, .int .i64 y.e].toArray 146 (0, 0)), H1, K, G2]))) := by
  refine Ct.body Tryz.func98 rfl Tryz.ntmps98 rfl ?_
  intro E F
  have hmx := hx.sl.len_le
  simp only [bz_len, maxLen] at hmx
  have hxs := hx.sl
  refine q_sr (q_an ?_)
  refine W.seq (q_sr (q_q q_mv (q_q q_np (q_q (q_fa fo146_1) (q_q (q_l 1 u43) (q_q (q_b BinV.neq) (q_nn (q_k [0, 1, 11] [0, 1, 2, 3, 4] ?_))))))))
  first | refine W.condD rfl (fun hc11 => ?_) (fun hc11 => ?_) | (refine W.cond rfl (fun hc11 => ?_) (fun hc11 => ?_) <;> try simp only [Bool.or_eq_true, Bool.and_eq_true, Bool.not_eq_true', Bool.not_eq_false', decide_eq_true_eq, Bool.or_eq_false_iff, Bool.and_eq_false_iff, decide_eq_false_iff_not, beq_iff_eq, beq_eq_false_iff_ne, ne_eq, Decidable.not_not] at hc11)
  ·
   refine q_sr (q_an ?_)
   refine W.ret (N.then_ret ?_)
   exact q_r [1, 2, 3, 4] (.cons (.tmp rfl) .nil) rfl rfl rfl ⟨x, hx, .inl ⟨hc11, rfl, rfl, rfl⟩⟩
  ·
   refine W.skip (N.next (q_sr (q_q q_mv ?_)))
   refine q_e (Eff.callV hent [1, 2, 3, 4] [1, 2, 3, 4] rfl .nil (hf (by omega)) rfl rfl rfl rfl (by rintro _ _ ⟨_, _, _, _, _, rfl⟩; rfl)) ?_
   rintro _ _ ⟨_, ⟨y, hy, hye, hR, rfl, rfl⟩, rfl⟩
   refine q_q q_mv (q_q q_x (q_q q_x (q_q q_as (q_an ?_))))
   refine q_k [0, 5, 6] [0, 1, 2, 3, 4] ?_
   refine W.seq (q_sr (q_q q_mv (q_q (q_b BinV.neq) (q_nn ?_))))
   first | refine W.condD rfl (fun hc18 => ?_) (fun hc18 => ?_) | (refine W.cond rfl (fun hc18 => ?_) (fun hc18 => ?_) <;> try simp only [Bool.or_eq_true, Bool.and_eq_true, Bool.not_eq_true', Bool.not_eq_false', decide_eq_true_eq, Bool.or_eq_false_iff, Bool.and_eq_false_iff, decide_eq_false_iff_not, beq_iff_eq, beq_eq_false_iff_ne, ne_eq, Decidable.not_not] at hc18)
   ·
    refine q_sr (q_q q_mv (q_q q_mv (q_q q_mv (q_q q_np (q_q (q_fa fo146_1) (q_s 1 sz43 ?_))))))
    refine q_q q_np (q_q (q_fa fo146_0) (q_s 1 sz108 ?_))
    refine q_nn ?_
    refine W.keep .nil (.of [0, 1, 2, 3, 4] rfl) (q_sr (q_an ?_))
    refine W.ret (N.then_ret ?_)
    exact q_r [1, 2, 3, 4] (.cons (.tmp rfl) .nil) rfl rfl rfl ⟨⟨none, 0, [], ne⟩, ⟨⟨rfl, rfl⟩, .nil⟩, .inr (.inl ⟨by omega, hc18, rfl, rfl, rfl, rfl⟩)⟩
   ·
    refine W.skip (N.next (q_k [5] [0, 1, 2, 3, 4] ?_))
    refine q_sr (q_q q_mv (q_an ?_))
    refine W.ret ?_
    exact q_r [1, 2, 3, 4] (.cons (.tmp rfl) .nil) rfl rfl rfl ⟨y, hy, .inr (.inr ⟨by omega, by omega, by rw [hye]; omega, hR, rfl, rfl⟩)⟩
end Go.Proofs.YtboapdcmaeojgaaGreatDoor
namespace Go.Proofs.YtboapdcmaeojgaaGreatDoor
open SL Cfg
set_option linter.unusedVariables false
set_option linter.unusedSimpArgs false
theorem ent100 : Ent Tryz.prog 100 := ⟨_, _, Tryz.func100, by kernel_rfl, rfl⟩
theorem ent98 : Ent Tryz.prog 98 := ⟨_, _, Tryz.func98, by kernel_rfl, rfl⟩
theorem ent97 : Ent Tryz.prog 97 := ⟨_, _, Tryz.func97, by kernel_rfl, rfl⟩
theorem ent99 : Ent Tryz.prog 99 := ⟨_, _, Tryz.func99, by kernel_rfl, rfl⟩
theorem ent96 : Ent Tryz.prog 96 := ⟨_, _, Tryz.func96, by kernel_rfl, rfl⟩
theorem lay146 : layS Tryz.prog 146 = some ([.slice none 0 0, .int .i64 0], [(0, 1), (1, 1)]) := by kernel_rfl
abbrev u113 := @Tryz.underlying113
theorem readN_ct (r : Nat) (x : Rd) (H1 K G : PH) (hx : x.In H1) : Ct Tryz.prog 98 [.pointer (some ⟨r, 0, none⟩), .func (.func 100) [.pointer (some ⟨r, 0, none⟩)].toArray [].toArray] [single r (.cells [.slice x.p x.l.length x.c, .int .i64 x.e].toArray 146 (0, 0)), H1, K, G] (fun v Hs => ∃ y : Rd, y.In H1 ∧ y.s = (rdN x.s).2 ∧ v = .int .u64 (rdN x.s).1 ∧ Hs = [single r (.cells [.slice y.p y.l.length y.c, .int .i64 y.e].toArray 146 (0, 0)), H1, K, G]) :=
  (read_ct r x H1 K G G hx 100 [.pointer (some ⟨r, 0, none⟩)] [] (numV x.l) (numE x.l) (fun y => ∀ n q, decN x.l = some (n, q) → y.l = q) ent100 (fun _ => (number_ct r x H1 K G hx).mono fun v Hs ⟨y, h1, h2, h3, h4, h5⟩ => ⟨y, h1, h2, h3, h4, h5⟩)).mono (by
    obtain ⟨xp, xc, xl, xe⟩ := x
    rintro v Hs ⟨y, hy, ⟨he, rfl, rfl, rfl⟩ | ⟨he, hn, hl, hye, rfl, rfl⟩ | ⟨he, hn, hye, hR, rfl, rfl⟩⟩
    · have e1 : rdN (Rd.s ⟨xp, xc, xl, xe⟩) = (0, (xl, xe)) := rdN_err he
      exact ⟨_, hy, by rw [e1]; rfl, by rw [e1], rfl⟩
    · dsimp only at he hn; subst he
      have e0 := numE_ne hn
      have e1 : rdN (Rd.s ⟨xp, xc, xl, 0⟩) = (0, ([], 11)) := rdN_none e0
      exact ⟨y, hy, by rw [e1]; show (y.l, y.e) = _; rw [hl, hye]; dsimp only; rw [(num_none e0).2], by rw [e1], rfl⟩
    · dsimp only at he hn; subst he
      obtain ⟨n, q, e0⟩ := numE_eq hn
      have e1 : rdN (Rd.s ⟨xp, xc, xl, 0⟩) = (n, (q, 0)) := rdN_some e0
      exact ⟨y, hy, by rw [e1]; show (y.l, y.e) = _; rw [hR n q e0, hye], by rw [e1]; dsimp only; rw [(num_some e0).1], rfl⟩)
set_option maxRecDepth 100000 in
set_option maxHeartbeats 400000 in
theorem Number_ct (r : Nat) (x : Rd) (H1 : PH) (hx : x.In H1) : Ct Tryz.prog 97 [.pointer (some ⟨r, 0, none⟩)] [single r (.cells [.slice x.p x.l.length x.c, .int .i64 x.e].toArray 146 (0, 0)), H1] (fun v Hs => ∃ y : Rd, y.In H1 ∧ y.s = (rdN x.s).2 ∧ v = .int .u64 (rdN x.s).1 ∧ Hs = [single r (.cells [.slice y.p y.l.length y.c, .int .i64 y.e].toArray 146 (0, 0)), H1]) := by
  refine Ct.body Tryz.func97 rfl Tryz.ntmps97 rfl ?_
  intro E F
  refine W.seq ?_
  refine W.imp (Imp.empty _ 90) ?_
  refine W.imp (Imp.empty _ 91) (W.region (q_an ?_))
  refine q_sr (q_q q_mv (q_q q_mv ?_))
  refine q_q (Yld.makeFunc (eval1 rfl) eval0) ?_
  refine q_e (q_c ent98 [1, 2, 90, 91] [1, 2, 90, 91] (readN_ct r x H1 emp emp hx)) ?_
  rintro _ _ ⟨_, ⟨y, hy, hys, rfl, rfl⟩, rfl⟩
  refine q_an ?_
  refine q_k [2] [0, 1, 2, 90, 91] ?_
  refine W.ret ?_
  exact q_r [1, 2] (.cons (.tmp rfl) .nil) rfl rfl rfl ⟨y, hy, hys, rfl, rfl⟩
set_option maxRecDepth 100000 in
set_option maxHeartbeats 1600000 in
theorem Int_ct (r : Nat) (x : Rd) (H1 : PH) (hx : x.In H1) : Ct Tryz.prog 57 [.pointer (some ⟨r, 0, none⟩)] [single r (.cells [.slice x.p x.l.length x.c, .int .i64 x.e].toArray 146 (0, 0)), H1] (fun v Hs => ∃ y : Rd, y.In H1 ∧ y.s = (rdZ x.s).2 ∧ v = .int .i64 (rdZ x.s).1 ∧ Hs = [single r (.cells [.slice y.p y.l.length y.c, .int .i64 y.e].toArray 146 (0, 0)), H1]) := by
  refine Ct.body Tryz.func57 rfl Tryz.ntmps57 rfl ?_
  intro E F
  have hu := (rdN_byt (s := x.s) hx.byt).2
  obtain ⟨n, hn⟩ : ∃ n, (rdN x.s).1 = n := ⟨_, rfl⟩
  rw [hn] at hu
  refine q_sr (q_an ?_)
  refine q_sr (q_q q_mv ?_)
  refine q_e (q_c ent97 [1, 2] [1, 2] (Number_ct r x H1 hx)) ?_
  rintro _ _ ⟨_, ⟨y, hy, hys, rfl, rfl⟩, rfl⟩
  rw [hn]
  refine q_an ?_
  refine q_k [3] [0, 1, 2] ?_
  refine q_sr (q_q q_mv ?_)
  refine q_q (Yld.bin rfl rfl (BinV.shr (by omega) (by first | decide | (simp [IntKind.bits]; done) | (simp [IntKind.bits]; omega)))) ?_
  refine q_q (Yld.convIs u111 u2 rfl rfl) (q_q q_mv ?_)
  refine q_q (q_b BinV.and) ?_
  refine q_q (Yld.convIs u111 u2 rfl rfl) ?_
  refine q_q (Yld.neg rfl) ?_
  refine q_q (Yld.eq (v' := .int .i64 (unzig n)) (q_b BinV.xor) (by rw [← unzig_bits hu])) (q_an ?_)
  refine q_k [2] [0, 1, 2] ?_
  refine W.ret ?_
  exact q_r [1, 2] (.cons (.tmp rfl) .nil) rfl rfl rfl ⟨y, hy, hys, by unfold rdZ; rw [hn]; rfl, rfl⟩
set_option maxRecDepth 100000 in
set_option maxHeartbeats 3200000 in
theorem countC_ct (r b b3 : Nat) (x : Rd) (H1 : PH) (hx : x.In H1) (most : Int) (hm : most ≤ 9223372036854775807) (he : x.e = 0) : Ct Tryz.prog 99 [.pointer (some ⟨b, 0, none⟩), .pointer (some ⟨b3, 0, none⟩)] [single r (.cells [.slice x.p x.l.length x.c, .int .i64 x.e].toArray 146 (0, 0)), H1, single b (.cells [Value.pointer (some ⟨r, 0, none⟩)].toArray 113 (0, 0)), single b3 (.cells [Value.int .i64 most].toArray 3 (0, 0))] (fun v Hs => ∃ y : Rd, y.In H1 ∧ y.e = x.e ∧ (∀ n q, decN x.l = some (n, q) → y.l = q) ∧ v = .tuple #[.int .u64 (cntV x.l most), .int .i64 (cntE x.l most)] ∧ Hs = [single r (.cells [.slice y.p y.l.length y.c, .int .i64 y.e].toArray 146 (0, 0)), H1, single b (.cells [Value.pointer (some ⟨r, 0, none⟩)].toArray 113 (0, 0)), single b3 (.cells [Value.int .i64 most].toArray 3 (0, 0))]) := by
  refine Ct.body Tryz.func99 rfl Tryz.ntmps99 rfl ?_
  intro E F
  have hmx := hx.sl.len_le
  simp only [bz_len, maxLen] at hmx
  have hxs := hx.sl
  have hnu := numV_u64 hx.byt
  refine q_sr (q_q q_as (q_an ?_))
  refine q_sr (q_q (q_l 3 u113) ?_)
  refine q_e (q_c ent100 [1, 2, 3, 4] [1, 2, 3, 4] (number_ct r x H1 (single b (.cells [Value.pointer (some ⟨r, 0, none⟩)].toArray 113 (0, 0))) (single b3 (.cells [Value.int .i64 most].toArray 3 (0, 0))) hx)) ?_
  rintro _ _ ⟨_, ⟨y, hy, hye, hyl, rfl, rfl⟩, rfl⟩
  obtain ⟨nu, hN⟩ : ∃ nu, numV x.l = nu := ⟨_, rfl⟩
  rw [hN] at hnu ⊢
  obtain ⟨hnu0, hnu1⟩ := hnu
  refine q_q q_mv (q_q q_x (q_q q_x (q_q q_as (q_an ?_))))
  refine q_k [1, 4, 5] [0, 1, 2, 3, 4] ?_
  refine W.seq (W.block (q_sr (q_q q_mv (q_q (q_b BinV.neq) (q_an ?_)))))
  first | refine W.condD rfl (fun hc13 => ?_) (fun hc13 => ?_) | (refine W.cond rfl (fun hc13 => ?_) (fun hc13 => ?_) <;> try simp only [Bool.or_eq_true, Bool.and_eq_true, Bool.not_eq_true', Bool.not_eq_false', decide_eq_true_eq, Bool.or_eq_false_iff, Bool.and_eq_false_iff, decide_eq_false_iff_not, beq_iff_eq, beq_eq_false_iff_ne, ne_eq, Decidable.not_not] at hc13)
  ·
   have hnone : decN x.l = none := numE_ne hc13
   obtain ⟨e1, e2⟩ := num_none hnone
   obtain ⟨e3, e4⟩ := cnt_none (most := most) hnone
   refine q_sr (q_q q_mv (q_q q_as (q_an ?_)))
   refine q_k [2, 3] [0, 1, 2, 3, 4] ?_
   refine W.ret (N.block_ret (N.then_ret ?_))
   exact q_r [1, 2, 3, 4] (.cons (.tmp rfl) (.cons (.tmp rfl) .nil)) rfl rfl rfl ⟨y, hy, hye, hyl, by rw [e3, e4, e2]; rfl, rfl⟩
  ·
   obtain ⟨n, q, e⟩ := numE_eq (l := x.l) (by omega)
   obtain ⟨e1, e2⟩ := num_some e
   obtain rfl : n = nu := by rw [← hN, e1]
   obtain ⟨e3, e4⟩ := cnt_some (most := most) e
   refine q_sr (q_q (q_l 4 u3) (q_q (q_b BinV.lss) (q_q q_mv ?_)))
   refine' q_or 18 23 5 [1, 4, 5, 11, 12, 13, 16, 17] [0, 1, 2, 3, 4] ?_ ?_ ?_
   rotate_left 1
   ·
    intro hg18
    have hg18 := of_decide_eq_false hg18
    refine q_g q_mv (q_g (q_l 4 u3) ?_)
    refine q_g (Yld.convIs u3 u111 rfl (by first | exact IntWalk.u64_in _ ⟨by omega, by omega⟩ | rfl)) ?_
    refine q_g (q_b BinV.gtr) (q_q Yld.pk ?_)
    exact q_m
   ·
    intro hg18
    repeat refine q_gs ?_
    refine q_q Yld.pk ?_
    exact q_m
   refine q_an ?_
   refine q_k [4, 15] [0, 1, 2, 3, 4] ?_
   first | refine W.condD rfl (fun hc15 => ?_) (fun hc15 => ?_) | (refine W.cond rfl (fun hc15 => ?_) (fun hc15 => ?_) <;> try simp only [Bool.or_eq_true, Bool.and_eq_true, Bool.not_eq_true', Bool.not_eq_false', decide_eq_true_eq, Bool.or_eq_false_iff, Bool.and_eq_false_iff, decide_eq_false_iff_not, beq_iff_eq, beq_eq_false_iff_ne, ne_eq, Decidable.not_not] at hc15)
   ·
    refine q_sr (q_q q_as (q_an ?_))
    refine W.ret (N.block_ret (N.then_ret ?_))
    exact q_r [1, 2, 3, 4] (.cons (.tmp rfl) (.cons (.tmp rfl) .nil)) rfl rfl rfl ⟨y, hy, hye, hyl, by rw [e3, e4, if_pos (by omega), if_pos (by omega)]; rfl, rfl⟩
   ·
    refine W.skip (N.block_normal (N.next (q_sr (q_q q_mv (q_q q_as (q_an ?_))))))
    refine W.ret ?_
    exact q_r [1, 2, 3, 4] (.cons (.tmp rfl) (.cons (.tmp rfl) .nil)) rfl rfl rfl ⟨y, hy, hye, hyl, by rw [e3, e4, if_neg (by omega), if_neg (by omega)]; rfl, rfl⟩
theorem readC_ct (r b b3 : Nat) (x : Rd) (H1 : PH) (hx : x.In H1) (most : Int) (hm : most ≤ 9223372036854775807) : Ct Tryz.prog 98 [.pointer (some ⟨r, 0, none⟩), .func (.func 99) [].toArray [.pointer (some ⟨b, 0, none⟩), .pointer (some ⟨b3, 0, none⟩)].toArray] [single r (.cells [.slice x.p x.l.length x.c, .int .i64 x.e].toArray 146 (0, 0)), H1, single b (.cells [Value.pointer (some ⟨r, 0, none⟩)].toArray 113 (0, 0)), single b3 (.cells [Value.int .i64 most].toArray 3 (0, 0))] (fun v Hs => ∃ y : Rd, y.In H1 ∧ y.s = (rdC x.s most).2 ∧ v = .int .u64 (rdC x.s most).1 ∧ Hs = [single r (.cells [.slice y.p y.l.length y.c, .int .i64 y.e].toArray 146 (0, 0)), H1, single b (.cells [Value.pointer (some ⟨r, 0, none⟩)].toArray 113 (0, 0)), single b3 (.cells [Value.int .i64 most].toArray 3 (0, 0))]) :=
  (read_ct r x H1 (single b (.cells [Value.pointer (some ⟨r, 0, none⟩)].toArray 113 (0, 0))) (single b3 (.cells [Value.int .i64 most].toArray 3 (0, 0))) (single b3 (.cells [Value.int .i64 most].toArray 3 (0, 0))) hx 99 [] [Value.pointer (some ⟨b, 0, none⟩), Value.pointer (some ⟨b3, 0, none⟩)] (cntV x.l most) (cntE x.l most) (fun y => ∀ n q, decN x.l = some (n, q) → y.l = q) ent99 (fun he => countC_ct r b b3 x H1 hx most hm he)).mono (by
    obtain ⟨xp, xc, xl, xe⟩ := x
    rintro v Hs ⟨y, hy, ⟨he, rfl, rfl, rfl⟩ | ⟨he, hn, hl, hye, rfl, rfl⟩ | ⟨he, hn, hye, hR, rfl, rfl⟩⟩
    · have e1 : rdC (Rd.s ⟨xp, xc, xl, xe⟩) most = (0, (xl, xe)) := rdC_err he
      exact ⟨_, hy, by rw [e1]; rfl, by rw [e1], rfl⟩
    · dsimp only at he hn hye ⊢; subst he
      have e1 : rdC (Rd.s ⟨xp, xc, xl, 0⟩) most = (0, ([], cntE xl most)) := by
        cases e0 : decN xl with
        | none => rw [(cnt_none e0).1]; exact rdC_none e0
        | some z =>
          have h5 := (cnt_some (n := z.1) (r := z.2) (most := most) e0).1
          by_cases e4 : most < 0 ∨ most < z.1
          · rw [if_pos e4] at h5; rw [h5]; exact (rdC_some (n := z.1) (r := z.2) e0).trans (if_pos e4)
          · rw [if_neg e4] at h5; exact absurd h5 hn
      exact ⟨y, hy, by rw [e1]; show (y.l, y.e) = _; rw [hl, hye], by rw [e1], rfl⟩
    · dsimp only at he hn hR ⊢; subst he
      cases e0 : decN xl with
      | none => rw [(cnt_none e0).1] at hn; cases hn
      | some z =>
        have h5 := cnt_some (n := z.1) (r := z.2) (most := most) e0
        by_cases e4 : most < 0 ∨ most < z.1
        · rw [if_pos e4] at h5; rw [h5.1] at hn; cases hn
        · have e1 : rdC (Rd.s ⟨xp, xc, xl, 0⟩) most = (z.1, (z.2, 0)) := (rdC_some (n := z.1) (r := z.2) e0).trans (if_neg e4)
          rw [if_neg e4, if_neg e4] at h5
          exact ⟨y, hy, by rw [e1]; show (y.l, y.e) = _; rw [hR z.1 z.2 e0, hye], by rw [e1, h5.2], rfl⟩)
set_option maxRecDepth 100000 in
set_option maxHeartbeats 1600000 in
theorem Count_ct (r : Nat) (x : Rd) (H1 : PH) (hx : x.In H1) (most : Int) (hm : most ≤ 9223372036854775807) : Ct Tryz.prog 58 [.pointer (some ⟨r, 0, none⟩), .int .i64 most] [single r (.cells [.slice x.p x.l.length x.c, .int .i64 x.e].toArray 146 (0, 0)), H1] (fun v Hs => ∃ y : Rd, y.In H1 ∧ y.s = (rdC x.s most).2 ∧ v = .int .i64 (rdC x.s most).1 ∧ Hs = [single r (.cells [.slice y.p y.l.length y.c, .int .i64 y.e].toArray 146 (0, 0)), H1]) := by
  refine Ct.body Tryz.func58 rfl Tryz.ntmps58 rfl ?_
  intro E F
  have hcr := rdC_range (s := x.s) (most := most) hx.byt hm
  obtain ⟨cv, hcv⟩ : ∃ cv, (rdC x.s most).1 = cv := ⟨_, rfl⟩
  rw [hcv] at hcr ⊢
  refine q_sr ?_
  refine q_bx 102 fun b2 => ?_
  refine q_bx 103 fun b3 => ?_
  refine q_an ?_
  refine q_sr (q_q (q_l 102 u113) ?_)
  refine q_q (Yld.makeFunc eval0 (eval2 rfl rfl)) ?_
  refine q_e (q_c ent98 [1, 2, 102, 103] [1, 2, 102, 103] (readC_ct r b2 b3 x H1 hx most hm)) ?_
  rintro _ _ ⟨_, ⟨y, hy, hys, rfl, rfl⟩, rfl⟩
  rw [hcv]
  refine q_q (Yld.convIs u111 u3 rfl (by first | exact IntWalk.i64_in _ ⟨by omega, by omega⟩ | rfl)) ?_
  refine q_an ?_
  refine q_k [4] [0, 1, 2, 102, 103] ?_
  refine W.ret ?_
  exact q_r [1, 2] (.cons (.tmp rfl) .nil) rfl rfl rfl ⟨y, hy, hys, rfl, rfl⟩
set_option maxRecDepth 100000 in
set_option maxHeartbeats 400000 in
theorem End_ct (r : Nat) (x : Rd) (H1 : PH) (hx : x.In H1) : Ct Tryz.prog 60 [.pointer (some ⟨r, 0, none⟩)] [single r (.cells [.slice x.p x.l.length x.c, .int .i64 x.e].toArray 146 (0, 0)), H1] (fun v Hs => v = .int .i64 (rdE x.s) ∧ Hs = [single r (.cells [.slice x.p x.l.length x.c, .int .i64 x.e].toArray 146 (0, 0)), H1]) := by
  refine Ct.body Tryz.func60 rfl Tryz.ntmps60 rfl ?_
  intro E F
  have hmx := hx.sl.len_le
  simp only [bz_len, maxLen] at hmx
  have hxs := hx.sl
  refine q_sr (q_an ?_)
  refine W.seq (q_sr (q_q q_mv (q_q q_np (q_q (q_fa fo146_1) (q_q (q_l 1 u43) (q_q (q_b BinV.eql) (q_q q_mv ?_)))))))
  refine' q_and 8 15 7 [0, 2, 3, 4, 5, 6, 7] [0, 1, 2] ?_ ?_ ?_
  rotate_left 1
  ·
   intro hg8
   refine q_g q_mv (q_g q_np (q_g (q_fa fo146_0) (q_g (q_l 1 u108) (q_g (q_n u108) (q_g (q_b BinV.gtr) (q_q Yld.pk ?_))))))
   exact q_m
  ·
   intro hg8
   repeat refine q_gs ?_
   refine q_q Yld.pk ?_
   exact q_m
  refine q_nn (q_k [0, 15] [0, 1, 2] ?_)
  first | refine W.condD rfl (fun hc15 => ?_) (fun hc15 => ?_) | (refine W.cond rfl (fun hc15 => ?_) (fun hc15 => ?_) <;> try simp only [Bool.or_eq_true, Bool.and_eq_true, Bool.not_eq_true', Bool.not_eq_false', decide_eq_true_eq, Bool.or_eq_false_iff, Bool.and_eq_false_iff, decide_eq_false_iff_not, beq_iff_eq, beq_eq_false_iff_ne, ne_eq, Decidable.not_not] at hc15)
  ·
   refine q_sr (q_an ?_)
   refine W.ret (N.then_ret ?_)
   exact q_r [1, 2] (.cons (.tmp rfl) .nil) rfl rfl rfl ⟨by show _ = Value.int .i64 (rdE (x.l, x.e)); rw [rdE_pos (by omega)]; rfl, rfl⟩
  ·
   refine W.skip (N.next (q_sr (q_q q_mv (q_q q_np (q_q (q_fa fo146_1) (q_q (q_l 1 u43) (q_an ?_)))))))
   refine q_k [2] [0, 1, 2] ?_
   refine W.ret ?_
   exact q_r [1, 2] (.cons (.tmp rfl) .nil) rfl rfl rfl ⟨by show _ = Value.int .i64 (rdE (x.l, x.e)); rw [rdE_neg (by omega)]; rfl, rfl⟩
set_option maxRecDepth 100000 in
set_option maxHeartbeats 400000 in
theorem Left_ct (r : Nat) (x : Rd) (H1 : PH) (hx : x.In H1) : Ct Tryz.prog 59 [.pointer (some ⟨r, 0, none⟩)] [single r (.cells [.slice x.p x.l.length x.c, .int .i64 x.e].toArray 146 (0, 0)), H1] (fun v Hs => v = .int .i64 (x.l.length : Nat) ∧ Hs = [single r (.cells [.slice x.p x.l.length x.c, .int .i64 x.e].toArray 146 (0, 0)), H1]) := by
  refine Ct.body Tryz.func59 rfl Tryz.ntmps59 rfl ?_
  intro E F
  have hmx := hx.sl.len_le
  simp only [bz_len, maxLen] at hmx
  have hxs := hx.sl
  refine q_sr (q_an ?_)
  refine q_sr (q_q q_mv (q_q q_np (q_q (q_fa fo146_0) (q_q (q_l 1 u108) (q_q (q_n u108) (q_an ?_))))))
  refine q_k [2] [0, 1, 2] ?_
  refine W.ret ?_
  exact q_r [1, 2] (.cons (.tmp rfl) .nil) rfl rfl rfl ⟨rfl, rfl⟩
set_option maxRecDepth 100000 in
set_option maxHeartbeats 400000 in
theorem cloneB_ct (l : List Int) (H1 : PH) (p : Option Addr) (c : Nat) (hl : Sl H1 p c 1 (bz l)) (hb : l.length ≤ 1000000) : Ct Tryz.prog 96 [.slice p l.length c] [H1] (fun v Hs => ∃ H' p' c', v = .slice p' l.length c' ∧ Own H' p' c' 5 1 (bz l) ∧ Hs = [H1, H']) := by
  refine Ct.body Tryz.func96 rfl Tryz.ntmps96 rfl ?_
  intro E F
  have hmx := hl.len_le
  simp only [bz_len, maxLen] at hmx
  refine W.seq ?_
  refine W.imp (Imp.empty _ 30) (W.region (q_an ?_))
  refine W.seq (q_sr (q_q q_mv ?_))
  refine q_q (Yld.bin rfl rfl (BinV.eqlSN u108)) (q_nn ?_)
  refine W.cond rfl (fun hc4 => ?_) (fun hc4 => ?_)
  ·
   obtain rfl : p = none := by cases p with | none => rfl | some a => cases hc4
   obtain ⟨hl0, _⟩ := hl
   obtain rfl : l = [] := List.map_eq_nil_iff.1 hl0
   refine q_sr (q_an ?_)
   refine W.ret (N.then_ret ?_)
   exact q_r [1, 30] (.cons (.tmp rfl) .nil) rfl rfl rfl ⟨emp, none, 0, rfl, Own.nil _ _, rfl⟩
  ·
   refine W.skip (N.next (q_sr ?_))
   refine q_e (Eff.buildSlice 105 u108 sz5 zc5 rfl rfl .nil rfl) ?_
   rintro _ _ ⟨b5, rfl, rfl⟩
   refine q_q q_mv ?_
   refine q_e (Eff.appendE (tc := 105) (sc := 1) (fun z : Int => [Value.int .u8 z]) u108 el5 rfl rfl rfl rfl (bz_none rfl) rfl hl rfl (bz_one1 _) (by decide) (by first | (simp; done) | (simp; omega)) (by first | (simp [maxLen]; done) | (simp [maxLen]; omega))) ?_
   rintro _ _ ⟨Ha, pa, ca, rfl, hOa, rfl⟩
   refine q_an ?_
   refine q_k [2] [0, 1, 30, 105] ?_
   refine W.ret ?_
   exact q_r [1, 105] (.cons (.tmp rfl) .nil) rfl rfl rfl ⟨Ha, pa, ca, rfl, hOa, rfl⟩
set_option maxRecDepth 100000 in
set_option maxHeartbeats 400000 in
theorem newReader_ct (l : List Int) (H1 : PH) (p : Option Addr) (c : Nat) (hl : Sl H1 p c 1 (bz l)) (hb : l.length ≤ 1000000) (hbt : Byt l) : Ct Tryz.prog 56 [.slice p l.length c] [H1] (fun v Hs => ∃ (r : Nat) (x : Rd) (H' : PH), v = .pointer (some ⟨r, 0, none⟩) ∧ x.In H' ∧ x.s = (l, 0) ∧ Hs = [H1, single r (.cells [.slice x.p x.l.length x.c, .int .i64 x.e].toArray 146 (0, 0)), H']) := by
  refine Ct.body Tryz.func56 rfl Tryz.ntmps56 rfl ?_
  intro E F
  refine q_sr (q_an ?_)
  refine q_sr (q_q q_mv ?_)
  refine q_e (q_c ent96 [1] [1, 30] (cloneB_ct l _ _ _ hl hb)) ?_
  rintro _ _ ⟨_, ⟨Hc, pc, cc, rfl, hOc, rfl⟩, rfl⟩
  refine q_q (Yld.buildP lay146 (.cons rfl rfl .nil) rfl) ?_
  refine q_bx 106 fun b6 => ?_
  refine q_an ?_
  refine q_k [2] [0, 1, 30, 106] ?_
  refine W.ret ?_
  exact q_r [1, 106, 30] (.cons (.tmp rfl) .nil) rfl rfl rfl ⟨b6, ⟨pc, cc, l, 0⟩, Hc, rfl, ⟨hOc.sl, hbt⟩, rfl, rfl⟩
end Go.Proofs.YtboapdcmaeojgaaGreatDoor
namespace Go.Proofs.YtboapdcmaeojgaaGreatDoor.Fen
open SL Cat
open Cfg (encN encZ decN zig unzig I64 U64 Byt rdN rdZ rdC rdE RS srt)
set_option linter.unusedVariables false
set_option linter.unusedSimpArgs false
def encU (u : U) : List Int := [u.it, u.rp, u.st, u.va].flatMap encZ
def keysD (dn : List (Int × Int)) : List Int := srt (dn.map (·.1))
def valD (dn : List (Int × Int)) (s : Int) : Int := (look dn s).getD 0
def encD (dn : List (Int × Int)) (s : Int) : List Int := encZ s ++ encZ (valD dn s)
def saveP (mach : Int) (t : T) : List Int := ((((encZ mach ++ encZ t.gen) ++ encN (t.us.length : Nat)) ++ t.us.flatMap encU) ++ encN (t.dn.length : Nat)) ++ (keysD t.dn).flatMap (encD t.dn)
def URg (u : U) : Prop := I64 u.it ∧ I64 u.rp ∧ I64 u.st ∧ I64 u.va
structure SOK (mach : Int) (t : T) : Prop where
  mc : I64 mach
  gn : I64 t.gen
  us : ∀ u ∈ t.us, URg u
  dn : ∀ p ∈ t.dn, I64 p.1 ∧ I64 p.2
  lu : t.us.length ≤ 5000
  ld : t.dn.length ≤ 5000
  nd : (t.dn.map (·.1)).Nodup
theorem encZ_len {z : Int} (h : I64 z) : (encZ z).length ≤ 9 := Cfg.encN_len (Cfg.zig_u64 h)
theorem encZ_byt {z : Int} (h : I64 z) : Byt (encZ z) := Cfg.encN_byt (Cfg.zig_u64 h)
theorem flat_len {α : Type} {f : α → List Int} {k : Nat} : ∀ {l : List α}, (∀ a ∈ l, (f a).length ≤ k) → (l.flatMap f).length ≤ k * l.length
  | [], _ => Nat.zero_le _
  | a :: l, h => by
    have h1 := h a (by simp)
    have h2 := flat_len (l := l) fun b hb => h b (by simp [hb])
    rw [List.flatMap_cons, List.length_append, List.length_cons, Nat.mul_add]; omega
theorem flat_byt {α : Type} {f : α → List Int} {l : List α} (h : ∀ a ∈ l, Byt (f a)) : Byt (l.flatMap f) := fun z hz => by
  obtain ⟨a, ha, hza⟩ := List.mem_flatMap.1 hz
  exact h a ha z hza
theorem URg.zs {u : U} (h : URg u) : ∀ z ∈ [u.it, u.rp, u.st, u.va], I64 z := fun z hz => by
  obtain ⟨h1, h2, h3, h4⟩ := h
  simp only [List.mem_cons, List.not_mem_nil, or_false] at hz
  rcases hz with rfl | rfl | rfl | rfl <;> assumption
theorem URg.len {u : U} (h : URg u) : (encU u).length ≤ 36 := by
  have := flat_len (f := encZ) (k := 9) (l := [u.it, u.rp, u.st, u.va]) fun z hz => encZ_len (h.zs z hz)
  exact this
theorem encU_byt {u : U} (h : URg u) : Byt (encU u) := flat_byt fun z hz => encZ_byt (h.zs z hz)
theorem look_mem {dn : List (Int × Int)} {s v : Int} (h : look dn s = some v) : (s, v) ∈ dn := by
  unfold look at h
  cases hf : dn.find? fun p => decide (p.1 = s) with
  | none => rw [hf] at h; cases h
  | some q =>
    rw [hf] at h
    have h1 := List.mem_of_find?_eq_some hf
    have h2 := List.find?_some hf
    simp only [decide_eq_true_eq] at h2
    cases h; cases q; cases h2; exact h1
theorem look_isSome {dn : List (Int × Int)} {s : Int} : (look dn s).isSome = true ↔ s ∈ dn.map (·.1) := by
  unfold look
  rw [Option.isSome_map, List.find?_isSome]
  simp only [decide_eq_true_eq, List.mem_map]
theorem valD_i64 {dn : List (Int × Int)} (h : ∀ p ∈ dn, I64 p.1 ∧ I64 p.2) (s : Int) : I64 (valD dn s) := by
  unfold valD
  cases hl : look dn s with
  | none => exact ⟨by decide, by decide⟩
  | some v => exact (h _ (look_mem hl)).2
theorem srt_mem {l : List Int} {z : Int} : z ∈ srt l ↔ z ∈ l := by unfold srt; rw [List.mem_mergeSort]
theorem srt_perm {l k : List Int} (h : l.Perm k) : srt l = srt k := by
  have hp : ∀ l : List Int, (srt l).Pairwise fun x y => decide (x ≤ y) = true := fun l => List.pairwise_mergeSort (le := fun (x y : Int) => decide (x ≤ y)) (fun a b c h1 h2 => by simp at *; omega) (fun a b => by simp; omega) l
  exact ((List.mergeSort_perm l _).trans (h.trans (List.mergeSort_perm k _).symm)).eq_of_pairwise (fun a b _ _ h1 h2 => by simp only [decide_eq_true_eq] at h1 h2; omega) (hp l) (hp k)
theorem nodup_le {α : Type} [DecidableEq α] : ∀ {l k : List α}, l.Nodup → (∀ z ∈ l, z ∈ k) → l.length ≤ k.length
  | [], _, _, _ => Nat.zero_le _
  | a :: l, k, hn, h => by
    rw [List.nodup_cons] at hn
    have ha := h a (by simp)
    have h2 := nodup_le (l := l) (k := k.erase a) hn.2 fun z hz => (List.mem_erase_of_ne (fun e : z = a => hn.1 (by rw [← e]; exact hz))).2 (h z (by simp [hz]))
    rw [List.length_erase_of_mem ha] at h2
    have := List.length_pos_of_mem ha
    rw [List.length_cons]; omega
theorem keys_of {dn : List (Int × Int)} (hn : (dn.map (·.1)).Nodup) {l : List Int} (hl : l.Nodup) (h : ∀ z, z ∈ l ↔ z ∈ dn.map (·.1)) : srt l = keysD dn ∧ l.length = dn.length := by
  have hp := (List.perm_ext_iff_of_nodup hl hn).2 h
  exact ⟨srt_perm hp, by rw [hp.length_eq, List.length_map]⟩
theorem keysD_len (dn : List (Int × Int)) : (keysD dn).length = dn.length := by unfold keysD; rw [Cfg.srt_len, List.length_map]
theorem keysD_i64 {dn : List (Int × Int)} (h : ∀ p ∈ dn, I64 p.1 ∧ I64 p.2) : ∀ s ∈ keysD dn, I64 s := fun s hs => by
  obtain ⟨p, hp, rfl⟩ := List.mem_map.1 (srt_mem.1 hs)
  exact (h p hp).1
theorem encD_len {dn : List (Int × Int)} (h : ∀ p ∈ dn, I64 p.1 ∧ I64 p.2) {s : Int} (hs : I64 s) : (encD dn s).length ≤ 18 := by
  have h1 := encZ_len hs
  have h2 := encZ_len (valD_i64 h s)
  unfold encD; rw [List.length_append]; omega
theorem nat_u64 {n : Nat} (h : n ≤ 1000000) : U64 (n : Int) := ⟨by omega, by omega⟩
theorem save_byt {mach : Int} {t : T} (h : SOK mach t) : Byt (saveP mach t) := by
  have h1 := h.lu; have h2 := h.ld
  unfold saveP
  refine ((((encZ_byt h.mc).app (encZ_byt h.gn)).app (Cfg.encN_byt (nat_u64 (by omega)))).app (flat_byt fun u hu => encU_byt (h.us u hu))).app (Cfg.encN_byt (nat_u64 (by omega))) |>.app (flat_byt fun s hs => ?_)
  exact (encZ_byt (keysD_i64 h.dn s hs)).app (encZ_byt (valD_i64 h.dn s))
theorem save_look {mach : Int} {us : List U} {cs cs' : List Cl} {gen : Int} {dn dn' : List (Int × Int)} (hn : (dn.map (·.1)).Nodup) (hn' : (dn'.map (·.1)).Nodup) (h : ∀ s, look dn s = look dn' s) : saveP mach ⟨us, cs, gen, dn⟩ = saveP mach ⟨us, cs', gen, dn'⟩ := by
  have hk : ∀ z, z ∈ dn.map (·.1) ↔ z ∈ dn'.map (·.1) := fun z => by rw [← look_isSome, ← look_isSome, h]
  obtain ⟨h1, h2⟩ := keys_of hn' hn hk
  have h3 : keysD dn = keysD dn' := h1
  have h4 : dn.length = dn'.length := by rw [← h2, List.length_map]
  have h5 : encD dn = encD dn' := by funext s; unfold encD valD; rw [h]
  unfold saveP
  simp only
  rw [h3, h4, h5]
def rdU (s : RS) : U × RS :=
  let a := rdZ s; let b := rdZ a.2; let c := rdZ b.2; let d := rdZ c.2
  (⟨a.1, b.1, c.1, d.1, 0⟩, d.2)
def rdUs : Nat → RS → List U × RS
  | 0, s => ([], s)
  | n + 1, s => ((rdUs n s).1 ++ [(rdU (rdUs n s).2).1], (rdU (rdUs n s).2).2)
def dput (dn : List (Int × Int)) (s v : Int) : List (Int × Int) := (dn.filter fun p => !decide (p.1 = s)) ++ [(s, v)]
def rdD (dn : List (Int × Int)) (s : RS) : List (Int × Int) × RS := (dput dn (rdZ s).1 (rdZ (rdZ s).2).1, (rdZ (rdZ s).2).2)
def rdDs : Nat → RS → List (Int × Int) × RS
  | 0, s => ([], s)
  | n + 1, s => rdD (rdDs n s).1 (rdDs n s).2
theorem look_dput (dn : List (Int × Int)) (s v q : Int) : look (dput dn s v) q = if s = q then some v else look dn q := by
  unfold look dput
  rw [List.find?_append, List.find?_filter]
  by_cases e : s = q
  · subst e
    have : (dn.find? fun a => decide ((!decide (a.1 = s)) = true ∧ decide (a.1 = s) = true)) = none := List.find?_eq_none.2 fun a _ => by simp
    rw [this, if_pos rfl]; simp
  · rw [if_neg e]
    have e2 : ¬ q = s := fun h2 => e h2.symm
    have : (fun a : Int × Int => decide ((!decide (a.1 = s)) = true ∧ decide (a.1 = q) = true)) = fun a => decide (a.1 = q) := by
      funext a
      by_cases h : a.1 = q
      · have : ¬ a.1 = s := fun h2 => e (h2.symm.trans h)
        simp [h, e2]
      · simp [h]
    rw [this]
    cases dn.find? fun a => decide (a.1 = q) with
    | none => simp [e]
    | some w => simp
theorem dput_nd {dn : List (Int × Int)} (h : (dn.map (·.1)).Nodup) (s v : Int) : ((dput dn s v).map (·.1)).Nodup := by
  unfold dput
  rw [List.map_append, List.nodup_append]
  refine ⟨h.sublist ((List.filter_sublist).map _), by simp, fun a ha b hb => ?_⟩
  obtain ⟨p, hp, rfl⟩ := List.mem_map.1 ha
  have := (List.mem_filter.1 hp).2
  simp only [List.map_cons, List.map_nil, List.mem_singleton] at hb
  subst hb
  simpa using this
theorem dput_len (dn : List (Int × Int)) (s v : Int) : (dput dn s v).length ≤ dn.length + 1 := by
  unfold dput; rw [List.length_append]
  have := List.length_filter_le (fun p : Int × Int => !decide (p.1 = s)) dn
  simp only [List.length_singleton]; omega
theorem rdDs_nd : ∀ (n : Nat) (s : RS), ((rdDs n s).1.map (·.1)).Nodup
  | 0, _ => List.nodup_nil
  | n + 1, s => dput_nd (rdDs_nd n s) _ _
theorem rdDs_len : ∀ (n : Nat) (s : RS), (rdDs n s).1.length ≤ n
  | 0, _ => Nat.le_refl _
  | n + 1, s => Nat.le_trans (dput_len _ _ _) (Nat.succ_le_succ (rdDs_len n s))
theorem rdUs_len : ∀ (n : Nat) (s : RS), (rdUs n s).1.length = n
  | 0, _ => rfl
  | n + 1, s => by show (_ ++ [_]).length = _; rw [List.length_append, rdUs_len n s]; rfl
theorem rdZ_i64 {s : RS} (h : Byt s.1) : I64 (rdZ s).1 ∧ Byt (rdZ s).2.1 := ⟨Cfg.unzig_i64 (Cfg.rdN_byt h).2, (Cfg.rdN_byt h).1⟩
theorem rdU_ok {s : RS} (h : Byt s.1) : URg (rdU s).1 ∧ Byt (rdU s).2.1 := by
  obtain ⟨a1, a2⟩ := rdZ_i64 h
  obtain ⟨b1, b2⟩ := rdZ_i64 a2
  obtain ⟨c1, c2⟩ := rdZ_i64 b2
  obtain ⟨d1, d2⟩ := rdZ_i64 c2
  exact ⟨⟨a1, b1, c1, d1⟩, d2⟩
theorem rdUs_ok : ∀ (n : Nat) {s : RS}, Byt s.1 → (∀ u ∈ (rdUs n s).1, URg u) ∧ Byt (rdUs n s).2.1
  | 0, s, h => ⟨(fun u hu => nomatch hu), h⟩
  | n + 1, s, h => by
    obtain ⟨h1, h2⟩ := rdUs_ok n h
    obtain ⟨h3, h4⟩ := rdU_ok h2
    refine ⟨fun u hu => ?_, h4⟩
    rcases List.mem_append.1 hu with h5 | h5
    · exact h1 u h5
    · simp only [List.mem_singleton] at h5; subst h5; exact h3
theorem rdDs_ok : ∀ (n : Nat) {s : RS}, Byt s.1 → (∀ p ∈ (rdDs n s).1, I64 p.1 ∧ I64 p.2) ∧ Byt (rdDs n s).2.1
  | 0, s, h => ⟨(fun u hu => nomatch hu), h⟩
  | n + 1, s, h => by
    obtain ⟨h1, h2⟩ := rdDs_ok n h
    obtain ⟨a1, a2⟩ := rdZ_i64 h2
    obtain ⟨b1, b2⟩ := rdZ_i64 a2
    refine ⟨fun p hp => ?_, b2⟩
    rcases List.mem_append.1 hp with h5 | h5
    · exact h1 p (List.mem_filter.1 h5).1
    · simp only [List.mem_singleton] at h5; subst h5; exact ⟨a1, b1⟩
def cnt (s : RS) : Int × RS := rdC s (s.1.length : Nat)
def loadM (l : List Int) : Int := (rdZ (l, 0)).1
def loadS1 (l : List Int) : RS := (rdZ (rdZ (l, 0)).2).2
def loadU (l : List Int) : List U × RS := rdUs (cnt (loadS1 l)).1.toNat (cnt (loadS1 l)).2
def loadD (l : List Int) : List (Int × Int) × RS := rdDs (cnt (loadU l).2).1.toNat (cnt (loadU l).2).2
def loadT (l : List Int) : T := ⟨(loadU l).1, [], (rdZ (rdZ (l, 0)).2).1, (loadD l).1⟩
theorem cnt_le {s : RS} (hb : Byt s.1) (hm : s.1.length ≤ 1000000) : 0 ≤ (cnt s).1 ∧ (cnt s).1 ≤ (s.1.length : Int) ∧ Byt (cnt s).2.1 := by
  obtain ⟨h1, h2⟩ := Cfg.rdC_range (most := (s.1.length : Nat)) hb (by omega)
  refine ⟨h1, ?_, Cfg.rdC_byt hb⟩
  unfold cnt rdC
  split
  · exact Int.natCast_nonneg _
  split
  · split
    · exact Int.natCast_nonneg _
    · simp only; omega
  · exact Int.natCast_nonneg _
theorem rdN_len (s : RS) : (rdN s).2.1.length ≤ s.1.length := by
  unfold rdN
  split
  · exact Nat.le_refl _
  split
  · rename_i h; exact Nat.le_of_lt (Cfg.decN_short h)
  · exact Nat.zero_le _
theorem rdC_len (s : RS) (m : Int) : (rdC s m).2.1.length ≤ s.1.length := by
  unfold rdC
  split
  · exact Nat.le_refl _
  split
  · rename_i h
    split
    · exact Nat.zero_le _
    · exact Nat.le_of_lt (Cfg.decN_short h)
  · exact Nat.zero_le _
theorem rdUs_rest : ∀ (n : Nat) (s : RS), (rdUs n s).2.1.length ≤ s.1.length
  | 0, _ => Nat.le_refl _
  | n + 1, s => by
    have h0 := rdUs_rest n s
    have h1 := rdN_len (rdUs n s).2
    have h2 := rdN_len (rdZ (rdUs n s).2).2
    have h3 := rdN_len (rdZ (rdZ (rdUs n s).2).2).2
    have h4 := rdN_len (rdZ (rdZ (rdZ (rdUs n s).2).2).2).2
    exact Nat.le_trans h4 (Nat.le_trans h3 (Nat.le_trans h2 (Nat.le_trans h1 h0)))
theorem load_ok {l : List Int} (hb : Byt l) (hl : l.length ≤ 5000) : SOK (loadM l) (loadT l) := by
  obtain ⟨a1, a2⟩ := rdZ_i64 (s := (l, 0)) hb
  obtain ⟨b1, b2⟩ := rdZ_i64 a2
  have hr1 := rdN_len (l, 0)
  have hr2 := rdN_len (rdZ (l, 0)).2
  have hs1 : (loadS1 l).1.length ≤ 5000 := Nat.le_trans hr2 (Nat.le_trans hr1 hl)
  obtain ⟨c1, c2, c3⟩ := cnt_le (s := loadS1 l) b2 (by omega)
  obtain ⟨d1, d2⟩ := rdUs_ok (cnt (loadS1 l)).1.toNat c3
  have hr3 := rdC_len (loadS1 l) ((loadS1 l).1.length : Nat)
  have hr4 := rdUs_rest (cnt (loadS1 l)).1.toNat (cnt (loadS1 l)).2
  have hs2 : (loadU l).2.1.length ≤ 5000 := Nat.le_trans hr4 (Nat.le_trans hr3 hs1)
  obtain ⟨e1, e2, e3⟩ := cnt_le (s := (loadU l).2) d2 (by omega)
  obtain ⟨f1, f2⟩ := rdDs_ok (cnt (loadU l).2).1.toNat e3
  refine ⟨a1, b1, d1, f1, ?_, ?_, rdDs_nd _ _⟩
  · show (loadU l).1.length ≤ 5000
    have : (loadU l).1.length = (cnt (loadS1 l)).1.toNat := rdUs_len _ _
    omega
  · show (loadD l).1.length ≤ 5000
    have : (loadD l).1.length ≤ (cnt (loadU l).2).1.toNat := rdDs_len _ _
    omega
theorem rdN_enc {n : Int} (h : U64 n) (r : List Int) : rdN (encN n ++ r, 0) = (n, (r, 0)) := Cfg.rdN_some (Cfg.dec_enc h r)
theorem rdZ_enc {z : Int} (h : I64 z) (r : List Int) : rdZ (encZ z ++ r, 0) = (z, (r, 0)) := by
  unfold rdZ encZ
  rw [rdN_enc (Cfg.zig_u64 h)]
  simp only [Cfg.unzig_zig]
theorem rdC_enc {n : Nat} (h : n ≤ 1000000) (r : List Int) {m : Int} (hm : (n : Int) ≤ m) : rdC (encN n ++ r, 0) m = ((n : Int), (r, 0)) := (Cfg.rdC_some (Cfg.dec_enc (nat_u64 h) r)).trans (if_neg (by omega))
theorem rdU_enc {u : U} (h : URg u) (hc : u.ca = 0) (r : List Int) : rdU (encU u ++ r, 0) = (u, (r, 0)) := by
  obtain ⟨h1, h2, h3, h4⟩ := h
  unfold rdU encU
  simp only [List.flatMap_cons, List.flatMap_nil, List.append_nil, List.append_assoc]
  rw [rdZ_enc h1]; simp only
  rw [rdZ_enc h2]; simp only
  rw [rdZ_enc h3]; simp only
  rw [rdZ_enc h4]; simp only
  cases u; cases hc; rfl
theorem rdUs_enc : ∀ (n : Nat) (l : List U) (r : List Int), n = l.length → (∀ u ∈ l, URg u ∧ u.ca = 0) → rdUs n (l.flatMap encU ++ r, 0) = (l, (r, 0)) := by
  have key : ∀ (n : Nat) (l : List U) (r : List Int), n ≤ l.length → (∀ u ∈ l, URg u ∧ u.ca = 0) → rdUs n (l.flatMap encU ++ r, 0) = (l.take n, ((l.drop n).flatMap encU ++ r, 0)) := by
    intro n
    induction n with
    | zero => intro l r _ _; simp [rdUs]
    | succ n ih =>
      intro l r hn h
      have hd : l.drop n = l[n] :: l.drop (n + 1) := List.drop_eq_getElem_cons hn
      obtain ⟨g1, g2⟩ := h _ (List.getElem_mem hn)
      unfold rdUs
      rw [ih l r (by omega) h, hd, List.flatMap_cons, List.append_assoc]
      simp only
      rw [rdU_enc g1 g2]
      simp only
      rw [List.take_add_one, List.getElem?_eq_getElem hn]; rfl
  intro n l r hn h
  rw [key n l r (by omega) h, hn, List.take_length, List.drop_length]; rfl
theorem rdDs_enc (f : Int → Int) : ∀ (n : Nat) (ks : List Int) (r : List Int), n ≤ ks.length → ks.Nodup → (∀ s ∈ ks, I64 s ∧ I64 (f s)) → rdDs n (ks.flatMap (fun s => encZ s ++ encZ (f s)) ++ r, 0) = ((ks.take n).map (fun s => (s, f s)), ((ks.drop n).flatMap (fun s => encZ s ++ encZ (f s)) ++ r, 0))
  | 0, ks, r, _, _, _ => by simp [rdDs]
  | n + 1, ks, r, hn, hnd, h => by
    have hd : ks.drop n = ks[n] :: ks.drop (n + 1) := List.drop_eq_getElem_cons hn
    obtain ⟨g1, g2⟩ := h _ (List.getElem_mem hn)
    have ih := rdDs_enc f n ks r (by omega) hnd h
    unfold rdDs rdD
    rw [ih, hd, List.flatMap_cons]
    simp only [List.append_assoc]
    rw [rdZ_enc g1]; simp only
    rw [rdZ_enc g2]; simp only
    rw [List.take_add_one, List.getElem?_eq_getElem hn]
    have hf : (((ks.take n).map fun s => (s, f s)).filter fun p => !decide (p.1 = ks[n])) = (ks.take n).map fun s => (s, f s) := List.filter_eq_self.2 fun p hp => by
      obtain ⟨z, hz, rfl⟩ := List.mem_map.1 hp
      obtain ⟨i, hi⟩ := List.getElem?_of_mem hz
      rw [List.getElem?_take] at hi
      split at hi
      · have hlt := (List.getElem?_eq_some_iff.1 hi).1
        have h1 := (List.getElem?_eq_some_iff.1 hi).2
        have h2 := (List.nodup_iff_pairwise_ne.1 hnd)
        have h3 := List.pairwise_iff_getElem.1 h2 i n hlt hn (by omega)
        simp only [Bool.not_eq_true', decide_eq_false_iff_not]
        rw [← h1]; exact h3
      · cases hi
    unfold dput
    rw [hf]
    simp only [List.map_append, Option.toList_some, List.map_cons, List.map_nil]
theorem srt_nodup {l : List Int} (h : l.Nodup) : (srt l).Nodup := (List.mergeSort_perm l _).nodup_iff.2 h
theorem look_map {f : Int → Int} {ks : List Int} (q : Int) : look (ks.map fun s => (s, f s)) q = if q ∈ ks then some (f q) else none := by
  unfold look
  induction ks with
  | nil => simp
  | cons a ks ih =>
    rw [List.map_cons, List.find?_cons]
    by_cases e : a = q
    · subst e; simp
    · have e2 : ¬ q = a := fun h => e h.symm
      simp only [e, decide_false, List.mem_cons, e2, false_or]
      exact ih
theorem load_save {mach : Int} {t : T} (h : SOK mach t) (hc : ∀ u ∈ t.us, u.ca = 0) : loadM (saveP mach t) = mach ∧ (loadT (saveP mach t)).us = t.us ∧ (loadT (saveP mach t)).gen = t.gen ∧ (∀ q, look (loadT (saveP mach t)).dn q = look t.dn q) ∧ rdE (loadD (saveP mach t)).2 = 0 := by
  have h1 := h.lu; have h2 := h.ld
  have hU : ∀ u ∈ t.us, URg u ∧ u.ca = 0 := fun u hu => ⟨h.us u hu, hc u hu⟩
  have e0 : (saveP mach t, (0 : Int)) = (encZ mach ++ (encZ t.gen ++ (encN (t.us.length : Nat) ++ (t.us.flatMap encU ++ (encN (t.dn.length : Nat) ++ ((keysD t.dn).flatMap (encD t.dn) ++ []))))), 0) := by
    unfold saveP; simp only [List.append_assoc, List.append_nil]
  have e1 : rdZ (saveP mach t, 0) = (mach, (encZ t.gen ++ (encN (t.us.length : Nat) ++ (t.us.flatMap encU ++ (encN (t.dn.length : Nat) ++ ((keysD t.dn).flatMap (encD t.dn) ++ [])))), 0)) := by rw [e0, rdZ_enc h.mc]
  have e2 : rdZ (rdZ (saveP mach t, 0)).2 = (t.gen, (encN (t.us.length : Nat) ++ (t.us.flatMap encU ++ (encN (t.dn.length : Nat) ++ ((keysD t.dn).flatMap (encD t.dn) ++ []))), 0)) := by rw [e1]; simp only; rw [rdZ_enc h.gn]
  have l1 : ∀ z, 1 ≤ (encZ z).length := fun z => by unfold encZ encN; simp
  have hul : t.us.length ≤ (t.us.flatMap encU).length := by
    have : ∀ l : List U, l.length ≤ (l.flatMap encU).length := fun l => by
      induction l with
      | nil => exact Nat.le_refl _
      | cons a l ih =>
        have h5 : 1 ≤ (encU a).length := by unfold encU; simp only [List.flatMap_cons, List.length_append]; have := l1 a.it; omega
        rw [List.flatMap_cons, List.length_append, List.length_cons]; omega
    exact this _
  have hdl : t.dn.length ≤ ((keysD t.dn).flatMap (encD t.dn)).length := by
    have : ∀ l : List Int, l.length ≤ (l.flatMap (encD t.dn)).length := fun l => by
      induction l with
      | nil => exact Nat.le_refl _
      | cons a l ih =>
        have h5 : 1 ≤ (encD t.dn a).length := by unfold encD; rw [List.length_append]; have := l1 a; omega
        rw [List.flatMap_cons, List.length_append, List.length_cons]; omega
    have := this (keysD t.dn)
    rwa [keysD_len] at this
  have e3 : cnt (loadS1 (saveP mach t)) = ((t.us.length : Int), (t.us.flatMap encU ++ (encN (t.dn.length : Nat) ++ ((keysD t.dn).flatMap (encD t.dn) ++ [])), 0)) := by
    unfold cnt loadS1; rw [e2]
    exact rdC_enc (by omega) _ (by simp only [List.length_append]; omega)
  have e4 : loadU (saveP mach t) = (t.us, (encN (t.dn.length : Nat) ++ ((keysD t.dn).flatMap (encD t.dn) ++ []), 0)) := by
    unfold loadU; rw [e3]; simp only [Int.toNat_natCast]
    exact rdUs_enc _ _ _ rfl hU
  have e5 : cnt (loadU (saveP mach t)).2 = ((t.dn.length : Int), ((keysD t.dn).flatMap (encD t.dn) ++ [], 0)) := by
    rw [e4]; unfold cnt
    exact rdC_enc (by omega) _ (by simp only [List.length_append, List.length_nil]; omega)
  have e6 : loadD (saveP mach t) = ((keysD t.dn).map (fun s => (s, valD t.dn s)), ([], 0)) := by
    unfold loadD; rw [e5]; simp only [Int.toNat_natCast]
    have := rdDs_enc (valD t.dn) t.dn.length (keysD t.dn) [] (by rw [keysD_len]; exact Nat.le_refl _) (srt_nodup h.nd) (fun s hs => ⟨keysD_i64 h.dn s hs, valD_i64 h.dn s⟩)
    rw [show encD t.dn = fun s => encZ s ++ encZ (valD t.dn s) from rfl, this, ← keysD_len t.dn, List.take_length, List.drop_length]; rfl
  refine ⟨by unfold loadM; rw [e1], by unfold loadT; rw [e4], by unfold loadT; rw [e2], fun q => ?_, by rw [e6]; rfl⟩
  show look (loadD (saveP mach t)).1 q = _
  rw [e6]
  simp only
  rw [look_map]
  by_cases hq : q ∈ keysD t.dn
  · rw [if_pos hq]
    have h6 : (look t.dn q).isSome = true := look_isSome.2 (srt_mem.1 hq)
    obtain ⟨v, hv⟩ := Option.isSome_iff_exists.1 h6
    unfold valD; rw [hv]; rfl
  · rw [if_neg hq]
    cases hl : look t.dn q with
    | none => rfl
    | some v => exact absurd (srt_mem.2 (look_isSome.1 (by rw [hl]; rfl))) hq
end Go.Proofs.YtboapdcmaeojgaaGreatDoor.Fen
namespace Go.Proofs.YtboapdcmaeojgaaGreatDoor.Fen
open SL Cat
open Cfg (I64)
set_option linter.unusedVariables false
set_option linter.unusedSimpArgs false
theorem w64_nn {x : Int} (h0 : -9223372036854775808 ≤ x) (h1 : x ≤ 9223372036854775807) : w64 x = x := by
  unfold w64 IntKind.wrap
  simp only [IntKind.bits, IntKind.signed]
  simp
  omega
def PossP (kind : Int → Int) (mach : Int) (u : U) : Prop :=
  (kind u.it = 0 ∧ 1 ≤ u.rp ∧ u.rp.tmod 100 = mach ∧ (u.st = 0 ∨ u.st = 3) ∧ u.va = 0) ∨ (kind u.it = 1 ∧ u.rp = 0 ∧ (u.st = 0 ∨ u.st = 1) ∧ u.va = 0) ∨ (kind u.it = 2 ∧ u.rp = 0 ∧ (u.st = 0 ∨ u.st = 2) ∧ 0 ≤ u.va)
instance (kind : Int → Int) (mach : Int) (u : U) : Decidable (PossP kind mach u) := by unfold PossP; infer_instance
structure GoodP (kind : Int → Int) (mach : Int) (t : T) : Prop where
  us : ∀ u ∈ t.us, PossP kind mach u
  pw : t.us.Pairwise R
  dn : ∀ s v, look t.dn s = some v → 1 ≤ s ∧ 0 ≤ v ∧ 1 ≤ t.gen
  gn : 0 ≤ t.gen
structure VI (k : Nat) (t : T) : Prop where
  g0 : 0 ≤ t.gen
  g1 : t.gen ≤ 9223372036854775807
  va : ∀ u ∈ t.us, 0 ≤ u.va ∧ u.va ≤ 1099511627776 + k
  dn : ∀ p ∈ t.dn, 1 ≤ p.1 ∧ p.1 ≤ 9223372036854775807 ∧ 0 ≤ p.2 ∧ p.2 ≤ 1099511627776 + k ∧ 1 ≤ t.gen
  nd : (t.dn.map (·.1)).Nodup
theorem VI.up {k : Nat} {t : T} (h : VI k t) : VI (k + 1) t :=
  ⟨h.g0, h.g1, fun u hu => by have := h.va u hu; omega, fun p hp => by have := h.dn p hp; omega, h.nd⟩
theorem VI.cs {k : Nat} {t : T} (h : VI k t) (cs : List Cl) : VI k { t with cs := cs } := ⟨h.g0, h.g1, h.va, h.dn, h.nd⟩
theorem VI.seen {k : Nat} {t : T} (h : VI k t) {g : Int} (h1 : 1 ≤ g) (h2 : g ≤ 9223372036854775807) : VI k (Fen.seen t g) := by
  unfold Fen.seen
  split
  · exact ⟨by show 0 ≤ g; omega, h2, h.va, (fun p hp => nomatch hp), List.nodup_nil⟩
  · exact h
theorem exec_va {k mach : Int} {us : List U} {cs : List Cl} {c : Cm} {B : Int} (h : ∀ u ∈ us, 0 ≤ u.va ∧ u.va ≤ B) (hB : 1099511627776 ≤ B) (hf : Fits k mach c) {job : Bool} : (∀ u ∈ (execP job us cs c).1, 0 ≤ u.va ∧ u.va ≤ B) ∧ 0 ≤ (execP job us cs c).2.2 ∧ (execP job us cs c).2.2 ≤ B := by
  have hst : ∀ i s, ∀ u ∈ stAt us i s, 0 ≤ u.va ∧ u.va ≤ B := fun i s a ha => by
    rcases stAt_mem ha with h1 | ⟨u, hu, rfl⟩
    · exact h a h1
    · exact h u (List.mem_of_getElem? hu)
  have hva : ∀ i, 0 ≤ vaAt us i ∧ vaAt us i ≤ B := fun i => by
    unfold vaAt
    split
    · rename_i u hu; exact h u (List.mem_of_getElem? hu)
    · omega
  obtain ⟨_, h0, h1, _⟩ := hf
  unfold execP
  repeat' split
  all_goals simp only
  all_goals first
    | exact ⟨h, by omega, by omega⟩
    | exact ⟨hst _ _, by omega, by omega⟩
    | exact ⟨hst _ _, hva _⟩
    | exact ⟨fun a ha => h a ((List.eraseIdx_sublist _ _).subset ha), by omega, by omega⟩
    | (refine ⟨fun a ha => ?_, by omega, by omega⟩
       rcases ins_mem.1 ha with e | e
       · subst e; simp only; omega
       · first | exact h a e | exact hst _ _ a e)
theorem VI.do {k : Nat} {t : T} (h : VI k t) {kd mach : Int} {g s : Int} {c : Cm} (hg : g ≤ 9223372036854775807) (hs : s ≤ 9223372036854775807) : VI k (doP kd mach t g s c).1 := by
  unfold doP
  split
  · exact h
  rename_i hf
  rw [Classical.not_not] at hf
  split
  · exact h
  have hsn := h.seen hf.1 hg
  split
  · exact hsn
  · rename_i hgn _ hlk
    have hx := exec_va (cs := (Fen.seen t g).cs) (job := decide (kd = 2)) (B := 1099511627776 + k) hsn.va (by omega) hf.2.2
    simp only
    split
    · refine ⟨hsn.g0, hsn.g1, hx.1, fun p hp => ?_, ?_⟩
      · rcases List.mem_append.1 hp with h1 | h1
        · exact hsn.dn p h1
        · simp only [List.mem_singleton] at h1
          subst h1
          have hg1 : 1 ≤ (Fen.seen t g).gen := by rw [seen_max hgn]; omega
          exact ⟨hf.2.1, hs, hx.2.1, hx.2.2, hg1⟩
      · show (((Fen.seen t g).dn ++ [_]).map _).Nodup
        rw [List.map_append, List.nodup_append]
        refine ⟨hsn.nd, by simp, fun a ha b hb e => ?_⟩
        simp only [List.map_cons, List.map_nil, List.mem_singleton] at hb
        subst hb; subst e
        have := look_isSome.2 ha
        rw [hlk] at this; cases this
    · exact ⟨hsn.g0, hsn.g1, hx.1, hsn.dn, hsn.nd⟩
theorem VI.new {m : Md} {mach : Int} : VI 0 (newT m mach) := by
  refine ⟨Int.le_refl _, show (0 : Int) ≤ 9223372036854775807 by decide, fun u hu => ?_, (fun p hp => nomatch hp), List.nodup_nil⟩
  have : ∀ j, ∀ u ∈ newN m.is mach j, u.va = 0 := fun j => by
    induction j with
    | zero => intro u hu; exact nomatch hu
    | succ j ih =>
      intro u hu
      unfold newN at hu
      rcases List.mem_append.1 hu with h | h
      · exact ih u h
      · split at h
        · split at h
          · simp only [List.mem_singleton] at h; subst h; rfl
          · exact nomatch h
        · exact nomatch h
  have := this _ u hu
  omega
theorem VI.step {m : Md} {mach : Int} {k : Nat} (hk : k ≤ 1000000) {t : T} (h : VI k t) {o : Opn} (hg : o.g ≤ 9223372036854775807) (hs : o.s ≤ 9223372036854775807) : VI (k + 1) (stepP m mach t o) := by
  unfold stepP
  split
  · exact (h.do hg hs).up
  split
  · have h2 : VI k (beginP (kdOf m o.cl.it) t o.cl).1 := by
      unfold beginP
      split
      · exact h
      split
      · exact h
      split
      · exact h
      · split
        · exact h
        · exact h.cs _
    exact h2.up
  split
  · refine ⟨h.g0, h.g1, fun a ha => ?_, h.up.dn, h.nd⟩
    obtain ⟨u, hu, rfl⟩ := List.mem_map.1 ha
    have h1 := h.va u hu
    unfold tickU
    split
    · show 0 ≤ w64 (u.va + 1) ∧ w64 (u.va + 1) ≤ _
      rw [w64_nn (by omega) (by omega)]; omega
    · omega
  split
  · exact (h.cs []).up
  · exact h.up
theorem VI.fold {m : Md} {mach : Int} : ∀ {l : List Opn} {k : Nat} {t : T}, k + l.length ≤ 1000000 → VI k t → (∀ o ∈ l, o.g ≤ 9223372036854775807 ∧ o.s ≤ 9223372036854775807) → VI (k + l.length) (l.foldl (stepP m mach) t)
  | [], k, t, _, h, _ => h
  | o :: l, k, t, hk, h, hR => by
    rw [List.length_cons] at hk
    have h1 := hR o (by simp)
    have := VI.fold (m := m) (mach := mach) (l := l) (k := k + 1) (by omega) (h.step (m := m) (mach := mach) (by omega) h1.1 h1.2) fun o ho => hR o (by simp [ho])
    rw [List.length_cons, show k + (l.length + 1) = k + 1 + l.length by omega]
    exact this
theorem VI.run {m : Md} {mach : Int} {l : List Opn} (hl : l.length ≤ 1000) (hR : ∀ o ∈ l, o.g ≤ 9223372036854775807 ∧ o.s ≤ 9223372036854775807) : VI l.length (runP m mach l) := by
  have := VI.fold (m := m) (mach := mach) (l := l) (k := 0) (by omega) (VI.new (m := m) (mach := mach)) hR
  rwa [Nat.zero_add] at this
theorem VI.good {m : Md} {mach : Int} {k : Nat} {t : T} (h : VI k t) (hT : TI m mach t) : GoodP (kdOf m) mach t := by
  refine ⟨fun u hu => ?_, hT.inv.pw, fun s v hl => ?_, h.g0⟩
  · have h1 := h.va u hu
    rcases hT.inv.ok u hu with ⟨_, ⟨a1, a2, a3, a4, a5⟩ | ⟨a1, a2, a3, a4⟩ | ⟨a1, a2, a3⟩⟩
    · exact .inl ⟨a1, a2, a3, a4, a5⟩
    · exact .inr (.inl ⟨a1, a2, a3, a4⟩)
    · exact .inr (.inr ⟨a1, a2, a3, h1.1⟩)
  · have := h.dn _ (look_mem hl)
    exact ⟨this.1, this.2.2.1, this.2.2.2.2⟩
theorem VI.sok {m : Md} {mach : Int} {k : Nat} {t : T} (h : VI k t) (hk : k ≤ 1000) (hv : MdV m) (hs : SI m mach k t) (h1 : 1 ≤ mach) (h2 : mach ≤ m.mc.length) : SOK mach t := by
  have hn := hv.site.n3.2
  have a1 := hs.us; have a2 := hs.dn
  have h5 := hv.n5
  refine ⟨⟨by omega, by omega⟩, ⟨by have := h.g0; omega, h.g1⟩, fun u hu => ?_, fun p hp => ?_, by omega, by omega, h.nd⟩
  · have b1 := hs.ti.inv.rng hu
    have b2 := hs.ti.rng u hu
    have b3 := h.va u hu
    exact ⟨⟨by omega, by omega⟩, ⟨by omega, b2⟩, ⟨by omega, by omega⟩, ⟨by omega, by omega⟩⟩
  · have := h.dn p hp
    exact ⟨⟨by omega, by omega⟩, ⟨by omega, by omega⟩⟩
theorem ti_ca {m : Md} {mach : Int} {t : T} (h : TI m mach t) : ∀ u ∈ t.us, u.ca = 0 := fun u hu => (h.inv.ok u hu).1
end Go.Proofs.YtboapdcmaeojgaaGreatDoor.Fen
namespace Go.Proofs.YtboapdcmaeojgaaGreatDoor
open SL Cat Fen
set_option linter.unusedVariables false
set_option linter.unusedSimpArgs false
theorem ent101 : Ent Tryz.prog 101 := ⟨_, _, Tryz.func101, by kernel_rfl, rfl⟩
structure Fen.ZC where
  seen : Array Nat
  last : Nat
  done : List Int
theorem Fen.PossP.rng {m : Md} {mach : Int} {u : U} (h : PossP (kdOf m) mach u) (hn : m.is.length ≤ 1000000) (hr : URg u) : URng u := by
  obtain ⟨_, ⟨_, h2⟩, _⟩ := hr
  have h1 : 1 ≤ u.it ∧ u.it ≤ m.is.length := by
    unfold PossP at h
    rcases h with h | h | h <;> exact kdOf_ge (by omega)
  have h3 : 0 ≤ u.rp := by unfold PossP at h; omega
  exact ⟨by omega, by omega, h3, h2⟩
theorem Fen.R_trans {a b c : U} (h : R a b) (h2 : R b c) : R a c := by unfold R at *; omega
theorem Fen.pw_adj : ∀ {l : List U}, (∀ (k : Nat) a c, l[k]? = some a → l[k + 1]? = some c → R a c) → l.Pairwise R
  | [], _ => List.Pairwise.nil
  | [a], _ => List.pairwise_singleton _ _
  | a :: b :: l, h => by
    have h1 := pw_adj (l := b :: l) fun k x y hx hy => h (k + 1) x y hx hy
    refine List.pairwise_cons.2 ⟨fun c hc => ?_, h1⟩
    have hab := h 0 a b rfl rfl
    rcases List.mem_cons.1 hc with rfl | hc
    · exact hab
    · exact R_trans hab ((List.pairwise_cons.1 h1).1 c hc)
theorem Fen.GoodP.at {kind : Int → Int} {mach : Int} {t : T} (h : GoodP kind mach t) {i : Nat} {u : U} (hu : t.us[i]? = some u) : PossP kind mach u ∧ (0 < i → cfU (t.us[i - 1]?.getD ⟨0, 0, 0, 0, 0⟩) u < 0 ∧ ((t.us[i - 1]?.getD ⟨0, 0, 0, 0, 0⟩).it = u.it → (t.us[i - 1]?.getD ⟨0, 0, 0, 0, 0⟩).st = 3)) := by
  refine ⟨h.us u (List.mem_of_getElem? hu), fun hi => ?_⟩
  obtain ⟨hlt, rfl⟩ := List.getElem?_eq_some_iff.1 hu
  have h1 : t.us[i - 1]? = some (t.us[i - 1]'(by omega)) := List.getElem?_eq_getElem (by omega)
  rw [h1, Option.getD_some]
  have h2 : R (t.us[i - 1]'(by omega)) t.us[i] := List.pairwise_iff_getElem.1 h.pw (i - 1) i (by omega) hlt (by omega)
  unfold cfU
  unfold R at h2
  split <;> omega
set_option maxRecDepth 100000 in
set_option maxHeartbeats 400000 in
theorem before_ct (a u : U) (ha : URng a) (hu : URng u) : Ct Tryz.prog 102 [.agg [.int .i64 a.it, .int .i64 a.rp, .int .i64 a.st, .int .i64 a.va, .int .i64 a.ca].toArray, .agg [.int .i64 u.it, .int .i64 u.rp, .int .i64 u.st, .int .i64 u.va, .int .i64 u.ca].toArray] [] (fun v Hs => v = .int .i64 (cfU a u) ∧ Hs = []) := by
  refine Ct.body Tryz.func102 rfl Tryz.ntmps102 rfl ?_
  intro E F
  unfold URng at ha hu
  refine q_sr ?_
  refine q_bx 102 fun b2 => ?_
  refine q_bx 103 fun b3 => ?_
  refine q_an ?_
  refine W.seq (q_sr (q_q (q_fa fo48_0) (q_q (q_l 102 u3) (q_q (q_fa fo48_0) (q_q (q_l 103 u3) (q_q (q_b BinV.neq) (q_nn (q_k [2, 3, 9] [0, 102, 103] ?_))))))))
  first | refine W.condD rfl (fun hc9 => ?_) (fun hc9 => ?_) | (refine W.cond rfl (fun hc9 => ?_) (fun hc9 => ?_) <;> try simp only [Bool.or_eq_true, Bool.and_eq_true, Bool.not_eq_true', Bool.not_eq_false', decide_eq_true_eq, Bool.or_eq_false_iff, Bool.and_eq_false_iff, decide_eq_false_iff_not, beq_iff_eq, beq_eq_false_iff_ne, ne_eq, Decidable.not_not] at hc9)
  ·
   refine q_sr (q_q (q_fa fo48_0) (q_q (q_l 102 u3) (q_q (q_fa fo48_0) (q_q (q_l 103 u3) ?_))))
   refine q_q q_sb (q_an ?_)
   refine q_k [4] [0, 102, 103] ?_
   refine W.ret (N.then_ret ?_)
   exact q_r [] (.cons (.tmp rfl) .nil) rfl rfl rfl ⟨by unfold cfU; rw [if_pos hc9]; rfl, rfl⟩
  ·
   refine W.skip (N.next (q_sr (q_q (q_fa fo48_1) (q_q (q_l 102 u3) (q_q (q_fa fo48_1) (q_q (q_l 103 u3) ?_))))))
   refine q_q q_sb (q_an ?_)
   refine q_k [4] [0, 102, 103] ?_
   refine W.ret ?_
   exact q_r [] (.cons (.tmp rfl) .nil) rfl rfl rfl ⟨by unfold cfU; rw [if_neg hc9]; rfl, rfl⟩
set_option maxRecDepth 100000 in
set_option maxHeartbeats 1600000 in
theorem poss_ct (m : Md) (H1 : PH) (hM : m.In H1) (mach : Int) (b : Nat) (x : Tb) (u : U) : Ct Tryz.prog 101 [.pointer (some ⟨b, 0, none⟩), .agg [.int .i64 u.it, .int .i64 u.rp, .int .i64 u.st, .int .i64 u.va, .int .i64 u.ca].toArray] [H1, single b (.cells [.slice m.psi m.si.length m.csi, .slice m.pfe m.fe.length m.cfe, .slice m.prk m.rk.length m.crk, .slice m.pmc m.mc.length m.cmc, .slice m.pln m.ln.length m.cln, .slice m.pis m.is.length m.cis, .int .i64 m.da, .int .i64 m.sl, .int .i64 m.re, .int .i64 m.fa, .slice m.prl m.rl.length m.crl, .int .i64 mach, .slice x.pu x.nu x.cu, .slice x.pc x.nc x.cc, .int .i64 x.gen, .map (some x.d)].toArray 82 (0, 0))] (fun v Hs => v = .bool (decide (PossP (kdOf m) mach u)) ∧ Hs = [H1, single b (.cells [.slice m.psi m.si.length m.csi, .slice m.pfe m.fe.length m.cfe, .slice m.prk m.rk.length m.crk, .slice m.pmc m.mc.length m.cmc, .slice m.pln m.ln.length m.cln, .slice m.pis m.is.length m.cis, .int .i64 m.da, .int .i64 m.sl, .int .i64 m.re, .int .i64 m.fa, .slice m.prl m.rl.length m.crl, .int .i64 mach, .slice x.pu x.nu x.cu, .slice x.pc x.nc x.cc, .int .i64 x.gen, .map (some x.d)].toArray 82 (0, 0))]) := by
  refine Ct.body Tryz.func101 rfl Tryz.ntmps101 rfl ?_
  intro E F
  refine q_sr ?_
  refine q_bx 103 fun b3 => ?_
  refine q_an ?_
  refine W.seq (q_sr (q_q q_mv (q_q (q_fa fo48_0) (q_q (q_l 103 u3) ?_))))
  refine q_e (q_c ent48 [1, 2] [1, 2] (kind_ct m H1 hM mach b x u.it)) ?_
  rintro _ _ ⟨_, ⟨rfl, rfl⟩, rfl⟩
  refine q_nn (q_k [0, 3, 8] [0, 1, 2, 103] ?_)
  refine W.block (q_sr (q_q (q_b BinV.eql) (q_an ?_)))
  first | refine W.condD rfl (fun hc9 => ?_) (fun hc9 => ?_) | (refine W.cond rfl (fun hc9 => ?_) (fun hc9 => ?_) <;> try simp only [Bool.or_eq_true, Bool.and_eq_true, Bool.not_eq_true', Bool.not_eq_false', decide_eq_true_eq, Bool.or_eq_false_iff, Bool.and_eq_false_iff, decide_eq_false_iff_not, beq_iff_eq, beq_eq_false_iff_ne, ne_eq, Decidable.not_not] at hc9)
  ·
   refine W.seq ?_
   refine W.draw (.q 0 (.q 1 (.q 2 (.q 3 (.q 4 (.q 5 (.q 6 (.q 7 (.q 8 (.q 9 (.q 10 (.q 11 (.q 12 (.q 13 (.q 14 (.q 15 (.q 16 (.q 17 (.q 18 (.q 19 (.q 20 (.q 21 (.q 22 (.q 23 (.q 24 (.q 25 (.q 26 (.q 27 (.q 28 .done))))))))))))))))))))))))))))) (.of [0, 1, 2, 103] rfl) mix (by kernel_rfl) (by kernel_rfl) (q_d rfl (q_fa fo48_1) (q_d rfl (q_l 103 u3) (q_d rfl (q_b BinV.geq) (q_d rfl q_mv ?_))))
   refine' DL.and (t := 14) (d := 23) 9 rfl (.of [0, 3, 8, 9, 10, 11, 12, 13] rfl) (.of [0, 1, 2, 103] rfl) ?_ ?_ ?_
   rotate_left 1
   ·
    intro hg14
    refine DL.gq rfl rfl rfl (q_fa fo48_1) rfl ?_
    refine DL.gq rfl rfl rfl (q_l 103 u3) rfl ?_
    refine DL.gq rfl rfl rfl (Yld.bin rfl rfl (by first | exact BinV.rem (by omega) (by omega) | exact BinV.remW (by omega))) rfl ?_
    refine DL.gq rfl rfl rfl q_mv rfl ?_
    refine DL.gq rfl rfl rfl q_np rfl ?_
    refine DL.gq rfl rfl rfl (q_fa fo82_1) rfl ?_
    refine DL.gq rfl rfl rfl (q_l 2 u3) rfl ?_
    refine DL.gq rfl rfl rfl (q_b BinV.eql) rfl (q_d rfl Yld.pk ?_)
    exact DL.meet (.to rfl) (.to rfl)
   ·
    intro hg14
    repeat refine q_ds ?_
    refine q_d rfl Yld.pk ?_
    exact DL.meet (.to rfl) (.to rfl)
   refine q_d rfl q_mv ?_
   refine' DL.and (t := 24) (d := 33) 9 rfl (.of [0, 3, 8, 9, 10, 11, 12, 13, 23] rfl) (.of [0, 1, 2, 103] rfl) ?_ ?_ ?_
   rotate_left 1
   ·
    intro hg24
    refine DL.gq rfl rfl rfl (q_fa fo48_2) rfl ?_
    refine DL.gq rfl rfl rfl (q_l 103 u3) rfl ?_
    refine DL.gq rfl rfl rfl (q_b BinV.eql) rfl ?_
    refine DL.gq rfl rfl rfl q_mv rfl ?_
    refine' DL.or (t := 28) (d := 32) 4 rfl (.of [0, 3, 8, 9, 10, 11, 12, 13, 23, 24, 25, 26, 27] rfl) (.of [0, 1, 2, 103] rfl) ?_ ?_ ?_
    rotate_left 1
    ·
     intro hg28
     refine DL.gq rfl rfl rfl (q_fa fo48_2) rfl ?_
     refine DL.gq rfl rfl rfl (q_l 103 u3) rfl ?_
     refine DL.gq rfl rfl rfl (q_b BinV.eql) rfl ?_
     refine DL.gq rfl rfl rfl Yld.pk rfl ?_
     exact DL.meet (.to rfl) (.to rfl)
    ·
     intro hg28
     repeat refine q_ds ?_
     refine DL.gq rfl rfl rfl Yld.pk rfl ?_
     exact DL.meet (.to rfl) (.to rfl)
    refine q_d rfl Yld.pk ?_
    exact DL.meet (.to rfl) (.to rfl)
   ·
    intro hg24
    repeat refine q_ds ?_
    refine DL.gskipU rfl rfl rfl rfl ?_
    refine DL.gskipU rfl rfl rfl rfl ?_
    refine DL.gskipU rfl rfl rfl rfl (q_ds ?_)
    refine q_d rfl Yld.pk ?_
    exact DL.meet (.to rfl) (.to rfl)
   refine q_d rfl q_mv ?_
   refine' DL.and (t := 34) (d := 38) 4 rfl (.of [0, 3, 8, 9, 10, 11, 12, 13, 23, 33] rfl) (.of [0, 1, 2, 103] rfl) ?_ ?_ ?_
   rotate_left 1
   ·
    intro hg34
    refine DL.gq rfl rfl rfl (q_fa fo48_3) rfl ?_
    refine DL.gq rfl rfl rfl (q_l 103 u2) rfl ?_
    refine DL.gq rfl rfl rfl (q_b BinV.eql) rfl (q_d rfl Yld.pk ?_)
    exact DL.meet (.to rfl) (.to rfl)
   ·
    intro hg34
    repeat refine q_ds ?_
    refine q_d rfl Yld.pk ?_
    exact DL.meet (.to rfl) (.to rfl)
   refine q_d rfl q_as (DL.done (N.next (q_k [4] [0, 1, 2, 103] ?_)))
   refine W.ret (N.block_ret (N.then_ret ?_))
   exact q_r [1, 2] (.cons (.tmp rfl) .nil) rfl rfl rfl ⟨by show Value.bool _ = Value.bool _; congr 1; rw [Bool.eq_iff_iff]; simp only [Bool.and_eq_true, Bool.or_eq_true, Bool.false_eq_true, false_iff, decide_eq_true_eq]; unfold PossP; omega, rfl⟩
  ·
   refine q_sr (q_q (q_b BinV.eql) (q_an ?_))
   refine q_k [3, 8, 39] [0, 1, 2, 103] ?_
   first | refine W.condD rfl (fun hc39 => ?_) (fun hc39 => ?_) | (refine W.cond rfl (fun hc39 => ?_) (fun hc39 => ?_) <;> try simp only [Bool.or_eq_true, Bool.and_eq_true, Bool.not_eq_true', Bool.not_eq_false', decide_eq_true_eq, Bool.or_eq_false_iff, Bool.and_eq_false_iff, decide_eq_false_iff_not, beq_iff_eq, beq_eq_false_iff_ne, ne_eq, Decidable.not_not] at hc39)
   ·
    refine q_sr (q_q (q_fa fo48_1) (q_q (q_l 103 u3) (q_q (q_b BinV.eql) (q_q q_mv ?_))))
    refine' q_and 44 53 9 [3, 8, 39, 41, 42, 43] [0, 1, 2, 103] ?_ ?_ ?_
    rotate_left 1
    ·
     intro hg44
     refine q_g (q_fa fo48_2) (q_g (q_l 103 u3) (q_g (q_b BinV.eql) (q_g q_mv ?_)))
     refine' q_or 48 52 4 [3, 8, 39, 41, 42, 43, 44, 45, 46, 47] [0, 1, 2, 103] ?_ ?_ ?_
     rotate_left 1
     ·
      intro hg48
      refine q_g (q_fa fo48_2) (q_g (q_l 103 u3) (q_g (q_b BinV.eql) (q_g Yld.pk ?_)))
      exact q_m
     ·
      intro hg48
      repeat refine q_gs ?_
      refine q_g Yld.pk ?_
      exact q_m
     refine q_q Yld.pk ?_
     exact q_m
    ·
     intro hg44
     repeat refine q_gs ?_
     refine RL.gskipU rfl rfl rfl ?_
     refine RL.gskipU rfl rfl rfl ?_
     refine RL.gskipU rfl rfl rfl (q_gs (q_q Yld.pk ?_))
     exact q_m
    refine q_q q_mv ?_
    refine' q_and 54 58 4 [3, 8, 39, 41, 42, 43, 53] [0, 1, 2, 103] ?_ ?_ ?_
    rotate_left 1
    ·
     intro hg54
     refine q_g (q_fa fo48_3) (q_g (q_l 103 u2) (q_g (q_b BinV.eql) (q_q Yld.pk ?_)))
     exact q_m
    ·
     intro hg54
     repeat refine q_gs ?_
     refine q_q Yld.pk ?_
     exact q_m
    refine q_an ?_
    refine q_k [4] [0, 1, 2, 103] ?_
    refine W.ret (N.block_ret (N.then_ret ?_))
    exact q_r [1, 2] (.cons (.tmp rfl) .nil) rfl rfl rfl ⟨by show Value.bool _ = Value.bool _; congr 1; rw [Bool.eq_iff_iff]; simp only [Bool.and_eq_true, Bool.or_eq_true, Bool.false_eq_true, false_iff, decide_eq_true_eq]; unfold PossP; omega, rfl⟩
   ·
    refine q_sr (q_q (q_b BinV.eql) (q_an ?_))
    first | refine W.condD rfl (fun hc59 => ?_) (fun hc59 => ?_) | (refine W.cond rfl (fun hc59 => ?_) (fun hc59 => ?_) <;> try simp only [Bool.or_eq_true, Bool.and_eq_true, Bool.not_eq_true', Bool.not_eq_false', decide_eq_true_eq, Bool.or_eq_false_iff, Bool.and_eq_false_iff, decide_eq_false_iff_not, beq_iff_eq, beq_eq_false_iff_ne, ne_eq, Decidable.not_not] at hc59)
    ·
     refine q_sr (q_q (q_fa fo48_1) (q_q (q_l 103 u3) (q_q (q_b BinV.eql) (q_q q_mv ?_))))
     refine' q_and 64 73 9 [3, 8, 39, 59, 60, 61, 62, 63] [0, 1, 2, 103] ?_ ?_ ?_
     rotate_left 1
     ·
      intro hg64
      refine q_g (q_fa fo48_2) (q_g (q_l 103 u3) (q_g (q_b BinV.eql) (q_g q_mv ?_)))
      refine' q_or 68 72 4 [3, 8, 39, 59, 60, 61, 62, 63, 64, 65, 66, 67] [0, 1, 2, 103] ?_ ?_ ?_
      rotate_left 1
      ·
       intro hg68
       refine q_g (q_fa fo48_2) (q_g (q_l 103 u3) (q_g (q_b BinV.eql) (q_g Yld.pk ?_)))
       exact q_m
      ·
       intro hg68
       repeat refine q_gs ?_
       refine q_g Yld.pk ?_
       exact q_m
      refine q_q Yld.pk ?_
      exact q_m
     ·
      intro hg64
      repeat refine q_gs ?_
      refine RL.gskipU rfl rfl rfl ?_
      refine RL.gskipU rfl rfl rfl ?_
      refine RL.gskipU rfl rfl rfl (q_gs (q_q Yld.pk ?_))
      exact q_m
     refine q_q q_mv ?_
     refine' q_and 74 78 4 [3, 8, 39, 59, 60, 61, 62, 63, 73] [0, 1, 2, 103] ?_ ?_ ?_
     rotate_left 1
     ·
      intro hg74
      refine q_g (q_fa fo48_3) (q_g (q_l 103 u2) (q_g (q_b BinV.geq) (q_q Yld.pk ?_)))
      exact q_m
     ·
      intro hg74
      repeat refine q_gs ?_
      refine q_q Yld.pk ?_
      exact q_m
     refine q_an ?_
     refine q_k [4] [0, 1, 2, 103] ?_
     refine W.ret (N.block_ret (N.then_ret ?_))
     exact q_r [1, 2] (.cons (.tmp rfl) .nil) rfl rfl rfl ⟨by show Value.bool _ = Value.bool _; congr 1; rw [Bool.eq_iff_iff]; simp only [Bool.and_eq_true, Bool.or_eq_true, Bool.false_eq_true, false_iff, decide_eq_true_eq]; unfold PossP; omega, rfl⟩
    ·
     refine W.skip (N.block_normal (N.next ?_))
     refine W.keep .nil (.of [0, 1, 2, 103] rfl) (q_sr (q_an ?_))
     refine W.ret ?_
     exact q_r [1, 2] (.cons (.tmp rfl) .nil) rfl rfl rfl ⟨by show Value.bool _ = Value.bool _; congr 1; rw [Bool.eq_iff_iff]; simp only [Bool.and_eq_true, Bool.or_eq_true, Bool.false_eq_true, false_iff, decide_eq_true_eq]; unfold PossP; omega, rfl⟩
set_option maxRecDepth 100000 in
set_option maxHeartbeats 3200000 in
theorem cons_ct (m : Md) (H1 : PH) (hM : m.In H1) (mach : Int) (b : Nat) (t : T) (x : Tb) (hx : x.Is t) (hr : ∀ u ∈ t.us, URg u) (hn : m.is.length ≤ 1000000) (hb : t.us.length ≤ 1000000) : Ct Tryz.prog 61 [.pointer (some ⟨b, 0, none⟩)] [H1, single b (.cells [.slice m.psi m.si.length m.csi, .slice m.pfe m.fe.length m.cfe, .slice m.prk m.rk.length m.crk, .slice m.pmc m.mc.length m.cmc, .slice m.pln m.ln.length m.cln, .slice m.pis m.is.length m.cis, .int .i64 m.da, .int .i64 m.sl, .int .i64 m.re, .int .i64 m.fa, .slice m.prl m.rl.length m.crl, .int .i64 mach, .slice x.pu x.nu x.cu, .slice x.pc x.nc x.cc, .int .i64 x.gen, .map (some x.d)].toArray 82 (0, 0)), x.HU, x.HC, single x.d (.map x.es x.ck)] (fun v Hs => v = .bool (pB (GoodP (kdOf m) mach t)) ∧ Hs = [H1, single b (.cells [.slice m.psi m.si.length m.csi, .slice m.pfe m.fe.length m.cfe, .slice m.prk m.rk.length m.crk, .slice m.pmc m.mc.length m.cmc, .slice m.pln m.ln.length m.cln, .slice m.pis m.is.length m.cis, .int .i64 m.da, .int .i64 m.sl, .int .i64 m.re, .int .i64 m.fa, .slice m.prl m.rl.length m.crl, .int .i64 mach, .slice x.pu x.nu x.cu, .slice x.pc x.nc x.cc, .int .i64 x.gen, .map (some x.d)].toArray 82 (0, 0)), x.HU, x.HC, single x.d (.map x.es x.ck)]) := by
  refine Ct.body Tryz.func61 rfl Tryz.ntmps61 rfl ?_
  intro E F
  obtain ⟨hnu, hnc, hgn, hOu, hOc, hMp, hdn⟩ := id hx
  have hSu := hOu.sl
  have hmu := hSu.len_le
  simp only [List.length_map, maxLen] at hmu
  refine q_sr (q_an ?_)
  refine W.seq (q_sr (q_q q_mv (q_q q_np (q_q (q_fa fo82_2) (q_q (q_l 2 u41) (q_q (q_n u41) (q_q q_mv (q_nn (q_k [0, 10, 11, 12] [0, 1, 2, 3, 4, 5] ?_)))))))))
  refine W.block ?_
  refine W.loopK (ι := Nat) (fun i => (i ≤ t.us.length ∧ (∀ (j : Nat) a, j < i → t.us[j]? = some a → URng a) ∧ (∀ (j : Nat) a, j < i → t.us[j]? = some a → PossP (kdOf m) mach a) ∧ ∀ (j : Nat) a b, j + 1 < i → t.us[j]? = some a → t.us[j + 1]? = some b → R a b)) (fun i => [(12, .int .i64 (i : Nat))]) (fun i => []) (fun i => t.us.length - i) (.of [0, 10, 11] rfl) (.of [0, 1, 2, 3, 4, 5] rfl) 0 ?_ ?_ ?_ ?_
  · exact ⟨Nat.zero_le _, fun _ _ h => absurd h (Nat.not_lt_zero _), fun _ _ h => absurd h (Nat.not_lt_zero _), fun _ _ _ h => absurd h (Nat.not_lt_zero _)⟩
  · exact (q_a .nil)
  · exact .nil
  rintro i ⟨hi, hI, hJ, hK⟩
  refine q_k [12, 0, 10, 11] [0, 1, 2, 3, 4, 5] ?_
  refine q_sr (q_q (q_b BinV.lss) (q_nn (W.seq ?_)))
  first | refine W.condD rfl (fun hc13 => ?_) (fun hc13 => ?_) | (refine W.cond rfl (fun hc13 => ?_) (fun hc13 => ?_) <;> try simp only [Bool.or_eq_true, Bool.and_eq_true, Bool.not_eq_true', Bool.not_eq_false', decide_eq_true_eq, Bool.or_eq_false_iff, Bool.and_eq_false_iff, decide_eq_false_iff_not, beq_iff_eq, beq_eq_false_iff_ne, ne_eq, Decidable.not_not] at hc13)
  ·
   obtain ⟨u, hu⟩ : ∃ u, t.us[i]? = some u := ⟨_, List.getElem?_eq_getElem (show i < t.us.length by first | omega | (simp only [List.length_map] at *; omega))⟩
   have hlu : (t.us.map U.c)[i]? = some u.c := by simp [hu]
   refine W.skip (N.next (W.seq (W.block (q_sr (q_q q_mv ?_)))))
   refine q_q (q_ix u41 sz48) ?_
   refine q_q (by first | exact q_rA 1 u48 sz48 | exact q_rA 2 u48 sz48 | exact q_rA 3 u48 sz48 | exact q_rA 4 u48 sz48 | exact q_rA 5 u48 sz48) ?_
   refine q_al 104 zc48 fun b4 => ?_
   refine q_q q_as (q_s 104 sz48 ?_)
   refine q_nn (q_k [0, 3, 4, 10, 11, 12] [0, 1, 2, 3, 4, 5, 104] ?_)
   refine W.seq (W.seq ?_)
   refine W.draw (.q 0 (.q 1 (.one 2 (.q 3 (.q 4 (.q 5 (.q 6 (.q 7 (.q 8 (.q 9 (.q 10 (.q 12 (.q 13 (.q 16 (.one 11 (.q 14 (.q 15 (.one 17 (.q 18 (.q 19 (.q 20 .done))))))))))))))))))))) (.of [0, 3, 4, 5, 104] rfl) mix (by kernel_rfl) (by kernel_rfl) (q_d rfl q_mv (q_d rfl (q_lw 104 u48 sz48) ?_))
   refine q_o rfl (q_c ent101 [1, 2] [1, 2] (poss_ct m H1 hM mach b x u)) ?_
   rintro _ _ ⟨_, ⟨rfl, rfl⟩, rfl⟩
   refine q_d rfl Yld.nt (q_d rfl q_mv ?_)
   refine' DL.or (t := 21) (d := 37) 16 rfl (.of [0, 3, 4, 10, 11, 12, 17, 18, 19, 20] rfl) (.of [0, 1, 2, 3, 4, 5, 104] rfl) ?_ ?_ ?_
   rotate_left 1
   ·
    intro hg21
    have hpu : PossP (kdOf m) mach u := by simpa using hg21
    have hru := hpu.rng hn (hr u (List.mem_of_getElem? hu))
    refine DL.gq rfl rfl rfl q_mv rfl ?_
    refine DL.gq rfl rfl rfl (q_b BinV.gtr) rfl ?_
    refine DL.gq rfl rfl rfl q_mv rfl ?_
    refine' DL.and (t := 24) (d := 36) 12 rfl (.of [0, 3, 4, 10, 11, 12, 17, 18, 19, 20, 21, 22, 23] rfl) (.of [0, 1, 2, 3, 4, 5, 104] rfl) ?_ ?_ ?_
    rotate_left 1
    ·
     intro hg24
     have hi2 : 0 < i := by have := of_decide_eq_true hg24; omega
     have hla : (t.us.map U.c)[((i : Int) - 1).toNat]? = some (U.c (t.us[i - 1]?.getD ⟨0, 0, 0, 0, 0⟩)) := by rw [show ((i : Int) - 1).toNat = i - 1 by omega, List.getElem?_map, List.getElem?_eq_getElem (show i - 1 < t.us.length by omega)]; rfl
     have hra : URng (t.us[i - 1]?.getD ⟨0, 0, 0, 0, 0⟩) := by rw [List.getElem?_eq_getElem (show i - 1 < t.us.length by omega)]; exact hI (i - 1) _ (by omega) (List.getElem?_eq_getElem (show i - 1 < t.us.length by omega))
     refine DL.gq rfl rfl rfl q_mv rfl ?_
     refine DL.gq rfl rfl rfl q_np rfl ?_
     refine DL.gq rfl rfl rfl (q_fa fo82_2) rfl ?_
     refine DL.gq rfl rfl rfl q_mv rfl ?_
     refine DL.gq rfl rfl rfl q_sb rfl ?_
     refine DL.gq rfl rfl rfl (q_lw 104 u48 sz48) rfl ?_
     refine DL.gone rfl rfl rfl (Yld.eff (q_l 2 u41)) rfl (by rintro _ _ ⟨rfl, rfl⟩; repeat (first | exact .nil | refine .cons rfl ?_)) ?_
     rintro _ _ ⟨rfl, rfl⟩
     refine DL.gq rfl rfl rfl (q_ix u41 sz48) rfl ?_
     refine DL.gq rfl rfl rfl (by first | exact q_rA 1 u48 sz48 | exact q_rA 2 u48 sz48 | exact q_rA 104 u48 sz48 | exact q_rA 3 u48 sz48 | exact q_rA 4 u48 sz48 | exact q_rA 5 u48 sz48) rfl ?_
     refine DL.gone rfl rfl rfl (q_c ent102 [] [] (before_ct (t.us[i - 1]?.getD ⟨0, 0, 0, 0, 0⟩) u hra hru)) rfl (by rintro _ _ ⟨_, ⟨rfl, rfl⟩, rfl⟩; repeat (first | exact .nil | refine .cons rfl ?_)) ?_
     rintro _ _ ⟨_, ⟨rfl, rfl⟩, rfl⟩
     refine DL.gq rfl rfl rfl (q_b BinV.geq) rfl ?_
     refine DL.gq rfl rfl rfl Yld.pk rfl ?_
     exact DL.meet (.to rfl) (.to rfl)
    ·
     intro hg24
     repeat refine q_ds ?_
     refine DL.gskip1 rfl rfl rfl rfl rfl (q_ds ?_)
     refine q_ds ?_
     refine DL.gskip1 rfl rfl rfl rfl rfl (q_ds ?_)
     refine DL.gq rfl rfl rfl Yld.pk rfl ?_
     exact DL.meet (.to rfl) (.to rfl)
    refine q_d rfl Yld.pk ?_
    exact DL.meet (.to rfl) (.to rfl)
   ·
    intro hg21
    repeat refine q_ds ?_
    refine DL.gskipU rfl rfl rfl rfl ?_
    refine DL.gskipU rfl rfl rfl rfl ?_
    refine DL.gskipU rfl rfl rfl rfl ?_
    refine DL.gskipU rfl rfl rfl rfl ?_
    refine DL.gskipU rfl rfl rfl rfl ?_
    refine DL.gskipU rfl rfl rfl rfl ?_
    refine DL.gskip1U rfl rfl rfl rfl ?_
    refine DL.gskipU rfl rfl rfl rfl ?_
    refine DL.gskipU rfl rfl rfl rfl ?_
    refine DL.gskip1U rfl rfl rfl rfl ?_
    refine DL.gskipU rfl rfl rfl rfl (q_ds ?_)
    refine q_d rfl Yld.pk ?_
    exact DL.meet (.to rfl) (.to rfl)
   refine DL.done (N.next (q_k [0, 3, 4, 10, 11, 12, 37] [0, 1, 2, 3, 4, 5, 104] ?_))
   refine W.cond rfl (fun hc37 => ?_) (fun hc37 => ?_)
   ·
    have hng : ¬ GoodP (kdOf m) mach t := fun h => by
      obtain ⟨h1, h2⟩ := h.at hu
      simp only [Bool.or_eq_true, Bool.and_eq_true, decide_eq_true_eq] at hc37
      rcases hc37 with h3 | ⟨h3, h4⟩
      · exact h3 h1
      · have := (h2 (by omega)).1; omega
    refine q_sr (q_an ?_)
    refine q_k [2] [0, 1, 2, 3, 4, 5, 104] ?_
    refine W.ret (N.then_ret (N.block_ret (N.then_ret (N.then_ret (N.block_ret (N.then_ret ?_))))))
    exact q_r [1, 2, 3, 4, 5] (.cons (.tmp rfl) .nil) rfl rfl rfl ⟨by rw [pB_not hng]; rfl, rfl⟩
   ·
    have hpu2 : PossP (kdOf m) mach u := by
      simp only [Bool.or_eq_false_iff, decide_eq_false_iff_not, Classical.not_not] at hc37
      exact hc37.1
    have hru2 := hpu2.rng hn (hr u (List.mem_of_getElem? hu))
    refine W.skip (N.next (W.seq ?_))
    refine W.draw (.q 0 (.q 1 (.q 2 (.q 3 (.q 4 (.q 5 (.q 6 (.q 7 (.q 8 (.q 9 (.q 10 (.q 11 (.q 12 (.q 13 (.q 14 (.q 15 (.q 16 (.q 17 (.q 18 (.q 19 (.q 20 (.q 21 (.q 22 (.q 23 (.q 24 (.q 25 (.q 26 (.q 27 .done)))))))))))))))))))))))))))) (.of [0, 1, 2, 3, 4, 5, 104] rfl) mix (by kernel_rfl) (by kernel_rfl) (q_d rfl q_mv (q_d rfl (q_b BinV.gtr) (q_d rfl q_mv ?_)))
    refine' DL.and (t := 40) (d := 53) 13 rfl (.of [0, 3, 4, 10, 11, 12, 37, 38, 39] rfl) (.of [0, 1, 2, 3, 4, 5, 104] rfl) ?_ ?_ ?_
    rotate_left 1
    ·
     intro hg40
     have hi2 : 0 < i := by have := of_decide_eq_true hg40; omega
     have hla : (t.us.map U.c)[((i : Int) - 1).toNat]? = some (U.c (t.us[i - 1]?.getD ⟨0, 0, 0, 0, 0⟩)) := by rw [show ((i : Int) - 1).toNat = i - 1 by omega, List.getElem?_map, List.getElem?_eq_getElem (show i - 1 < t.us.length by omega)]; rfl
     refine DL.gq rfl rfl rfl q_mv rfl ?_
     refine DL.gq rfl rfl rfl q_np rfl ?_
     refine DL.gq rfl rfl rfl (q_fa fo82_2) rfl ?_
     refine DL.gq rfl rfl rfl (q_l 2 u41) rfl ?_
     refine DL.gq rfl rfl rfl q_mv rfl ?_
     refine DL.gq rfl rfl rfl q_sb rfl ?_
     refine DL.gq rfl rfl rfl (q_ix u41 sz48) rfl ?_
     refine DL.gq rfl rfl rfl (q_fa fo48_0) rfl ?_
     refine DL.gq rfl rfl rfl (by first | exact (by first | exact q_r1 1 u3 | exact q_r1 2 u3 | exact q_r1 104 u3 | exact q_r1 3 u3 | exact q_r1 4 u3 | exact q_r1 5 u3) | exact (by first | exact q_rF 1 0 u3 | exact q_rF 2 0 u3 | exact q_rF 104 0 u3 | exact q_rF 3 0 u3 | exact q_rF 4 0 u3 | exact q_rF 5 0 u3)) rfl ?_
     refine DL.gq rfl rfl rfl (q_fa fo48_0) rfl ?_
     refine DL.gq rfl rfl rfl (q_l 104 u3) rfl ?_
     refine DL.gq rfl rfl rfl (q_b BinV.eql) rfl (q_d rfl Yld.pk ?_)
     exact DL.meet (.to rfl) (.to rfl)
    ·
     intro hg40
     repeat refine q_ds ?_
     refine q_d rfl Yld.pk ?_
     exact DL.meet (.to rfl) (.to rfl)
    refine q_d rfl q_mv ?_
    refine' DL.and (t := 54) (d := 65) 11 rfl (.of [0, 3, 4, 10, 11, 12, 37, 38, 39, 53] rfl) (.of [0, 1, 2, 3, 4, 5, 104] rfl) ?_ ?_ ?_
    rotate_left 1
    ·
     intro hg54
     have hg54b := (Bool.and_eq_true _ _ ▸ hg54 : _ ∧ _).1
     have hi2 : 0 < i := by have := of_decide_eq_true hg54b; omega
     have hla : (t.us.map U.c)[((i : Int) - 1).toNat]? = some (U.c (t.us[i - 1]?.getD ⟨0, 0, 0, 0, 0⟩)) := by rw [show ((i : Int) - 1).toNat = i - 1 by omega, List.getElem?_map, List.getElem?_eq_getElem (show i - 1 < t.us.length by omega)]; rfl
     refine DL.gq rfl rfl rfl q_mv rfl ?_
     refine DL.gq rfl rfl rfl q_np rfl ?_
     refine DL.gq rfl rfl rfl (q_fa fo82_2) rfl ?_
     refine DL.gq rfl rfl rfl (q_l 2 u41) rfl ?_
     refine DL.gq rfl rfl rfl q_mv rfl ?_
     refine DL.gq rfl rfl rfl q_sb rfl ?_
     refine DL.gq rfl rfl rfl (q_ix u41 sz48) rfl ?_
     refine DL.gq rfl rfl rfl (q_fa fo48_2) rfl ?_
     refine DL.gq rfl rfl rfl (by first | exact q_rF 1 2 u3 | exact q_rF 2 2 u3 | exact q_rF 104 2 u3 | exact q_rF 3 2 u3 | exact q_rF 4 2 u3 | exact q_rF 5 2 u3) rfl ?_
     refine DL.gq rfl rfl rfl (q_b BinV.neq) rfl (q_d rfl Yld.pk ?_)
     exact DL.meet (.to rfl) (.to rfl)
    ·
     intro hg54
     repeat refine q_ds ?_
     refine q_d rfl Yld.pk ?_
     exact DL.meet (.to rfl) (.to rfl)
    refine DL.done (N.next (q_k [0, 10, 11, 12, 65] [0, 1, 2, 3, 4, 5, 104] ?_))
    refine W.cond rfl (fun hc65 => ?_) (fun hc65 => ?_)
    ·
     have hng : ¬ GoodP (kdOf m) mach t := fun h => by
       obtain ⟨h1, h2⟩ := h.at hu
       simp only [Bool.and_eq_true, decide_eq_true_eq] at hc65
       obtain ⟨⟨h3, h4⟩, h5⟩ := hc65
       exact h5 ((h2 (by omega)).2 h4)
     refine q_sr (q_an ?_)
     refine q_k [2] [0, 1, 2, 3, 4, 5, 104] ?_
     refine W.ret (N.block_ret (N.then_ret (N.then_ret (N.block_ret (N.then_ret ?_)))))
     exact q_r [1, 2, 3, 4, 5] (.cons (.tmp rfl) .nil) rfl rfl rfl ⟨by rw [pB_not hng]; rfl, rfl⟩
    ·
     have hRp : 0 < i → R (t.us[i - 1]?.getD ⟨0, 0, 0, 0, 0⟩) u := fun hi0 => by
       simp only [Bool.and_eq_false_iff, decide_eq_false_iff_not] at hc65
       simp only [Bool.or_eq_false_iff, Bool.and_eq_false_iff, decide_eq_false_iff_not, Classical.not_not] at hc37
       have h1 := hc37.2
       unfold R
       unfold cfU at h1
       split at h1 <;> omega
     refine W.skip (N.block_normal (N.next (W.region ?_)))
     refine q_q q_ad (q_q q_mv (RL.nil ?_))
     exact N.famK (i + 1) ⟨⟨by omega, fun q b2 hq hb3 => (Nat.lt_succ_iff_lt_or_eq.1 hq).elim (fun h => hI q b2 h hb3) (fun e => by subst e; rw [hu] at hb3; cases hb3; exact hru2), fun q b2 hq hb3 => (Nat.lt_succ_iff_lt_or_eq.1 hq).elim (fun h => hJ q b2 h hb3) (fun e => by subst e; rw [hu] at hb3; cases hb3; exact hpu2), fun q a c hq ha hc3 => (Nat.lt_succ_iff_lt_or_eq.1 hq).elim (fun h => hK q a c h ha hc3) (fun e => by subst e; have h := hRp (by omega); rw [hu] at hc3; cases hc3; rw [Nat.add_sub_cancel, ha, Option.getD_some] at h; exact h)⟩, by omega⟩ (q_a .nil) (.to rfl) .nil (.to rfl)
  ·
   have hend : i = t.us.length := by omega
   have hall : ∀ u ∈ t.us, PossP (kdOf m) mach u := fun u hu => by
     obtain ⟨k, hk⟩ := List.getElem?_of_mem hu
     exact hJ k u (by have := (List.getElem?_eq_some_iff.1 hk).1; omega) hk
   have hpw : t.us.Pairwise R := pw_adj fun k a c ha hc3 => hK k a c (by have := (List.getElem?_eq_some_iff.1 hc3).1; omega) ha hc3
   refine W.exit (N.then_exit (N.then_exit (N.block_eq (N.next (q_k [0] [0, 1, 2, 3, 4, 5] ?_)))))
   refine W.seq (q_sr (q_q q_mv (q_q q_np (q_q (q_fa fo82_5) (q_q (q_l 2 u80) ?_)))))
   refine q_e (Eff.range 171 (c := 5) u80 rfl rfl) ?_
   rintro _ _ ⟨r71, rfl, rfl⟩
   refine q_nn (q_k [0, 71] [0, 1, 2, 3, 4, 5, 171] ?_)
   refine W.block ?_
   refine W.loopK (ι := ZC) (fun w => (ItP x.es x.ck x.ck w.last w.seen x.mm w.done ∧ ∀ z ∈ w.done, ∀ v, Fen.look t.dn z = some v → 1 ≤ z ∧ 0 ≤ v ∧ 1 ≤ t.gen)) (fun w => []) (fun w => [(171, single r71 (.mapIter (some x.d) x.ck w.seen w.last))]) (fun w => leftN x.mm w.done) (.of [0, 71] rfl) (.of [0, 1, 2, 3, 4, 5] rfl) ⟨#[], x.ck, []⟩ ?_ ?_ ?_ ?_
   · exact ⟨ItP.start hMp, (fun z hz => nomatch hz)⟩
   · exact .nil
   · exact (.to rfl)
   rintro w ⟨hIx, hDn⟩
   refine q_k [0, 71] [171, 0, 1, 2, 3, 4, 5] ?_
   refine q_sr ?_
   refine q_e (Eff.next (c := 5) (c2 := 171) rfl rfl rfl hMp hIx) ?_
   rintro _ _ ⟨nx72, sn72, ls72, rfl, hN72, rfl⟩
   refine q_q (Yld.extract rfl (nxV_ok _ nx72)) (q_nn (W.seq ?_))
   refine W.cond rfl (fun hc73 => ?_) (fun hc73 => ?_)
   ·
    obtain ⟨⟨kk, uv⟩, rfl⟩ := Option.isSome_iff_exists.1 hc73
    obtain ⟨hku, hkd, hI2, hE0, hls⟩ := hN72
    obtain rfl := hls.symm
    have hlt := leftN_next hku hkd
    obtain ⟨vv, hvv, rfl⟩ : ∃ vv, Fen.look t.dn kk = some vv ∧ Value.int .i64 vv = uv := by
      have h := hdn kk
      rw [hku] at h
      exact Option.map_eq_some_iff.1 h.symm
    have hE : LastE x.es sn72 (.int .i64 kk) (.int .i64 vv) := hE0
    refine W.skip (N.next (W.block (q_sr ?_)))
    refine q_q (Yld.entry (c := 5) (c2 := 171) rfl rfl rfl hMp hE) (q_q q_x (q_q q_x (q_q q_as (q_an ?_))))
    refine q_k [0, 5, 6, 71] [0, 1, 2, 3, 4, 5, 171] ?_
    refine q_sr (q_q q_mv (q_q (q_b BinV.lss) (q_q q_mv ?_)))
    refine' q_or 79 82 3 [0, 5, 6, 71, 77, 78] [0, 1, 2, 3, 4, 5, 171] ?_ ?_ ?_
    rotate_left 1
    ·
     intro hg79
     refine q_g q_mv (q_g (q_b BinV.lss) (q_q Yld.pk ?_))
     exact q_m
    ·
     intro hg79
     refine q_gs (q_gs (q_q Yld.pk ?_))
     exact q_m
    refine q_q q_mv ?_
    refine' q_or 83 89 6 [0, 5, 6, 71, 77, 78, 82] [0, 1, 2, 3, 4, 5, 171] ?_ ?_ ?_
    rotate_left 1
    ·
     intro hg83
     refine q_g q_mv (q_g q_np (q_g (q_fa fo82_4) (q_g (q_l 2 u3) (q_g (q_b BinV.lss) (q_q Yld.pk ?_)))))
     exact q_m
    ·
     intro hg83
     repeat refine q_gs ?_
     refine q_q Yld.pk ?_
     exact q_m
    refine q_nn (q_k [0, 71, 89] [0, 1, 2, 3, 4, 5, 171] ?_)
    refine W.cond rfl (fun hc89 => ?_) (fun hc89 => ?_)
    ·
     have hng : ¬ GoodP (kdOf m) mach t := fun h => by
       obtain ⟨h1, h2, h3⟩ := h.dn kk vv hvv
       simp only [Bool.or_eq_true, decide_eq_true_eq] at hc89
       rcases hc89 with (h4 | h4) | h4
       · omega
       · omega
       · rw [hgn] at h4; omega
     refine q_sr (q_an ?_)
     refine W.ret (N.block_ret (N.then_ret (N.block_ret (N.then_ret ?_))))
     exact q_r [1, 2, 3, 4, 5] (.cons (.tmp rfl) .nil) rfl rfl rfl ⟨by rw [pB_not hng]; rfl, rfl⟩
    ·
     refine W.skip (N.block_normal ?_)
     exact N.famK ⟨sn72, x.ck, kk :: w.done⟩ ⟨⟨hI2, fun z hz v hv2 => (List.mem_cons.1 hz).elim (fun e => by subst e; rw [hvv] at hv2; cases hv2; simp only [Bool.or_eq_false_iff, decide_eq_false_iff_not] at hc89; rw [hgn] at hc89; omega) (fun h => hDn z h v hv2)⟩, by dsimp only; omega⟩ .nil (.to rfl) (.to rfl) (.to rfl)
   ·
    have hn0 : nx72 = none := by cases nx72 with | none => rfl | some p => cases hc73
    subst hn0
    have hfin : decide (0 ≤ x.gen) = pB (GoodP (kdOf m) mach t) := pB_eq ⟨fun h => ⟨hall, hpw, fun z v hv2 => by
      have h2 := hdn z
      rw [hv2] at h2
      exact hDn z (hN72 _ (mget_mem h2)) v hv2, by rw [← hgn]; exact of_decide_eq_true h⟩, fun h => decide_eq_true (by rw [hgn]; exact h.gn)⟩
    refine W.exit (N.then_exit (N.then_exit (N.block_eq (N.next (q_sr (q_q q_mv (q_q q_np (q_q (q_fa fo82_4) (q_q (q_l 2 u3) (q_q (q_b BinV.geq) (q_an ?_)))))))))))
    refine q_k [2] [0, 1, 2, 3, 4, 5, 171] ?_
    refine W.ret ?_
    exact q_r [1, 2, 3, 4, 5] (.cons (.tmp rfl) .nil) rfl rfl rfl ⟨by rw [← hfin]; rfl, rfl⟩
end Go.Proofs.YtboapdcmaeojgaaGreatDoor
namespace Go.Proofs.YtboapdcmaeojgaaGreatDoor
open SL Cat Fen Cfg
set_option linter.unusedVariables false
set_option linter.unusedSimpArgs false
theorem ent53 : Ent Tryz.prog 53 := ⟨_, _, Tryz.func53, by kernel_rfl, rfl⟩
theorem ent55 : Ent Tryz.prog 55 := ⟨_, _, Tryz.func55, by kernel_rfl, rfl⟩
structure Fen.ZS where
  seen : Array Nat
  last : Nat
  done : List Int
  H : PH
  p : Option Addr
  c : Nat
structure Fen.ZB where
  j : Nat
  H : PH
  p : Option Addr
  c : Nat
theorem flat_take {α : Type} {f : α → List Int} {l : List α} {j : Nat} {a : α} (h : l[j]? = some a) : (l.take (j + 1)).flatMap f = (l.take j).flatMap f ++ f a := by
  rw [tsnoc h, List.flatMap_append]; simp
theorem Fen.Tb.Is.keys {x : Tb} {t : T} (h : x.Is t) {s : Int} {v : Value} (hv : mget x.mm s = some v) : s ∈ t.dn.map (·.1) := look_isSome.1 (by
  have := h.od s
  rw [hv] at this
  cases hl : Fen.look t.dn s with
  | none => rw [hl] at this; cases this
  | some w => rfl)
theorem Fen.Tb.Is.val {x : Tb} {t : T} (h : x.Is t) (s : Int) : (mget x.mm s).getD (.int .i64 0) = .int .i64 (valD t.dn s) := by
  rw [h.od s]; unfold valD
  cases Fen.look t.dn s <;> rfl
set_option maxRecDepth 100000 in
set_option maxHeartbeats 6400000 in
theorem save_ct (m : Md) (H1 : PH) (hM : m.In H1) (mach : Int) (b : Nat) (t : T) (x : Tb) (hx : x.Is t) (hs : SOK mach t) : Ct Tryz.prog 30 [.pointer (some ⟨b, 0, none⟩)] [H1, single b (.cells [.slice m.psi m.si.length m.csi, .slice m.pfe m.fe.length m.cfe, .slice m.prk m.rk.length m.crk, .slice m.pmc m.mc.length m.cmc, .slice m.pln m.ln.length m.cln, .slice m.pis m.is.length m.cis, .int .i64 m.da, .int .i64 m.sl, .int .i64 m.re, .int .i64 m.fa, .slice m.prl m.rl.length m.crl, .int .i64 mach, .slice x.pu x.nu x.cu, .slice x.pc x.nc x.cc, .int .i64 x.gen, .map (some x.d)].toArray 82 (0, 0)), x.HU, x.HC, single x.d (.map x.es x.ck)] (fun v Hs => v = .string (strOfNums (saveP mach t)) ∧ Hs = [H1, single b (.cells [.slice m.psi m.si.length m.csi, .slice m.pfe m.fe.length m.cfe, .slice m.prk m.rk.length m.crk, .slice m.pmc m.mc.length m.cmc, .slice m.pln m.ln.length m.cln, .slice m.pis m.is.length m.cis, .int .i64 m.da, .int .i64 m.sl, .int .i64 m.re, .int .i64 m.fa, .slice m.prl m.rl.length m.crl, .int .i64 mach, .slice x.pu x.nu x.cu, .slice x.pc x.nc x.cc, .int .i64 x.gen, .map (some x.d)].toArray 82 (0, 0)), x.HU, x.HC, single x.d (.map x.es x.ck)]) := by
  refine Ct.body Tryz.func30 rfl Tryz.ntmps30 rfl ?_
  intro E F
  obtain ⟨hnu, hnc, hgn, hOu, hOc, hMp, hdn⟩ := id hx
  have hSu := hOu.sl
  have hmu := hSu.len_le
  simp only [List.length_map, maxLen] at hmu
  have hU5 := hs.lu
  have hD5 := hs.ld
  have q1 := encZ_len hs.mc
  have q2 := encZ_len hs.gn
  have q3 := encN_len (nat_u64 (n := t.us.length) (by omega))
  have q4 := encN_len (nat_u64 (n := t.dn.length) (by omega))
  have q5 : (t.us.flatMap encU).length ≤ 180000 := Nat.le_trans (flat_len (k := 36) fun u hu => (hs.us u hu).len) (by omega)
  have hki := keysD_i64 hs.dn
  have hkl := keysD_len t.dn
  refine q_sr (q_an ?_)
  refine W.seq ?_
  refine W.imp (Imp.empty _ 160) ?_
  refine W.imp (Imp.empty _ 161) ?_
  refine W.draw (.q 0 (.q 1 (.q 2 (.q 3 (.q 5 (.q 6 (.q 7 (.q 8 (.one 4 (.one 9 (.q 10 .done))))))))))) (.of [0, 1, 2, 3, 4, 5, 161] rfl) mix (by kernel_rfl) (by kernel_rfl) (q_d rfl q_mv (q_d rfl q_np (q_d rfl (q_fa fo82_1) (q_d rfl (q_l 2 u3) (q_d rfl q_mv (q_d rfl q_np (q_d rfl (q_fa fo82_4) (q_d rfl (q_l 2 u3) ?_))))))))
  refine q_o rfl (Eff.call ent53 [160] [160] (.cons rfl (.cons rfl .nil)) (addI_ct [] emp none 0 (Own.nil _ _) mach hs.mc (by simp)) rfl rfl rfl rfl (by rintro _ _ ⟨_, _, _, _, _, rfl⟩; rfl)) ?_
  rintro _ _ ⟨_, ⟨Ha, pa, ca, rfl, hOa, rfl⟩, rfl⟩
  rw [List.nil_append] at hOa ⊢
  refine q_o rfl (q_c ent53 [160] [160] (addI_ct (encZ mach) Ha pa ca hOa x.gen (by rw [hgn]; exact hs.gn) (by omega))) ?_
  rintro _ _ ⟨_, ⟨H2, p2, c2, rfl, hO2, rfl⟩, rfl⟩
  rw [hgn] at hO2 ⊢
  refine q_d rfl q_as (DL.done (N.next (q_k [0, 3] [0, 1, 2, 3, 4, 5, 160, 161] ?_)))
  refine q_sr (q_q q_mv (q_q q_mv (q_q q_np (q_q (q_fa fo82_2) (q_q (q_l 2 u41) (q_q (q_n u41) ?_))))))
  refine q_q (Yld.eq (v' := .int .u64 (t.us.length : Nat)) (Yld.convIs u3 u111 rfl (by first | exact IntWalk.u64_in _ ⟨by omega, by omega⟩ | rfl)) (by rw [hnu])) ?_
  refine q_e (q_c ent54 [160] [160] (addN_ct (encZ mach ++ encZ t.gen) H2 p2 c2 hO2 (t.us.length : Nat) (nat_u64 (by omega)) (by simp only [List.length_append]; omega))) ?_
  rintro _ _ ⟨_, ⟨H3, p3, c3, rfl, hO3, rfl⟩, rfl⟩
  refine q_an ?_
  refine q_k [0, 3] [0, 1, 2, 3, 4, 5, 160, 161] ?_
  refine W.seq (q_sr (q_q q_mv (q_q q_np (q_q (q_fa fo82_2) (q_q (q_l 2 u41) (q_q (q_n u41) (q_q q_mv (q_nn (W.block ?_)))))))))
  refine W.loopK (ι := ZB) (fun z => (z.j ≤ t.us.length ∧ Own z.H z.p z.c 5 1 (bz (((encZ mach ++ encZ t.gen) ++ encN (t.us.length : Nat)) ++ (t.us.take z.j).flatMap encU)))) (fun z => [(3, .slice z.p (((encZ mach ++ encZ t.gen) ++ encN (t.us.length : Nat)) ++ (t.us.take z.j).flatMap encU).length z.c), (35, .int .i64 (z.j : Nat))]) (fun z => [(160, z.H)]) (fun z => t.us.length - z.j) (.of [0, 33, 34] rfl) (.of [0, 1, 2, 3, 4, 5, 161] rfl) ⟨0, H3, p3, c3⟩ ?_ ?_ ?_ ?_
  · exact ⟨Nat.zero_le _, by simpa using hO3⟩
  · exact (.as rfl (by simp) (q_a .nil))
  · exact (.to rfl)
  rintro z ⟨hj, hO⟩
  refine q_k [3, 35, 0, 33, 34] [160, 0, 1, 2, 3, 4, 5, 161] ?_
  refine q_sr (q_q (q_b BinV.lss) (q_nn (W.seq ?_)))
  first | refine W.condD rfl (fun hc36 => ?_) (fun hc36 => ?_) | (refine W.cond rfl (fun hc36 => ?_) (fun hc36 => ?_) <;> try simp only [Bool.or_eq_true, Bool.and_eq_true, Bool.not_eq_true', Bool.not_eq_false', decide_eq_true_eq, Bool.or_eq_false_iff, Bool.and_eq_false_iff, decide_eq_false_iff_not, beq_iff_eq, beq_eq_false_iff_ne, ne_eq, Decidable.not_not] at hc36)
  ·
   obtain ⟨u, hu⟩ : ∃ u, t.us[z.j]? = some u := ⟨_, List.getElem?_eq_getElem (show z.j < t.us.length by first | omega | (simp only [List.length_map] at *; omega))⟩
   have hlu : (t.us.map U.c)[z.j]? = some u.c := by simp [hu]
   have hur := hs.us u (List.mem_of_getElem? hu)
   have qz : ((t.us.take z.j).flatMap encU).length ≤ 180000 := Nat.le_trans (flat_len (k := 36) fun u hu => (hs.us u (List.mem_of_mem_take hu)).len) (by rw [List.length_take]; omega)
   refine W.skip (N.next (W.seq (W.block (q_sr ?_))))
   refine q_q (q_ix u41 sz48) ?_
   refine q_q (by first | exact q_rA 1 u48 sz48 | exact q_rA 2 u48 sz48 | exact q_rA 3 u48 sz48 | exact q_rA 4 u48 sz48 | exact q_rA 5 u48 sz48 | exact q_rA 161 u48 sz48 | exact q_rA 160 u48 sz48) ?_
   refine q_al 105 zc48 fun b5 => ?_
   refine q_s 105 sz48 ?_
   refine q_nn (q_sr (q_q (q_fa fo48_0) (q_q (q_l 105 u3) (q_q (q_fa fo48_1) (q_q (q_l 105 u3) (q_q (q_fa fo48_2) (q_q (q_l 105 u3) (q_q (q_fa fo48_3) (q_q (q_l 105 u2) ?_)))))))))
   refine q_e (Eff.buildSlice 147 u56 sz2 zc2 rfl rfl (.cons rfl rfl (.cons rfl rfl (.cons rfl rfl (.cons rfl rfl .nil)))) rfl) ?_
   rintro _ _ ⟨b47, rfl, rfl⟩
   refine q_q (q_n u56) (q_q q_mv (q_nn (q_k [0, 3, 33, 34, 35, 47, 48, 49] [0, 1, 2, 3, 4, 5, 105, 147, 160, 161] ?_)))
   refine W.block ?_
   refine W.loopK (ι := ZB) (fun k => (k.j ≤ 4 ∧ Own k.H k.p k.c 5 1 (bz ((((encZ mach ++ encZ t.gen) ++ encN (t.us.length : Nat)) ++ (t.us.take z.j).flatMap encU) ++ ([u.it, u.rp, u.st, u.va].take k.j).flatMap encZ)))) (fun k => [(3, .slice k.p ((((encZ mach ++ encZ t.gen) ++ encN (t.us.length : Nat)) ++ (t.us.take z.j).flatMap encU) ++ ([u.it, u.rp, u.st, u.va].take k.j).flatMap encZ).length k.c), (49, .int .i64 (k.j : Nat))]) (fun k => [(160, k.H)]) (fun k => 4 - k.j) (.of [0, 33, 34, 35, 47, 48] rfl) (.of [0, 1, 2, 3, 4, 5, 105, 147, 161] rfl) ⟨0, z.H, z.p, z.c⟩ ?_ ?_ ?_ ?_
   · exact ⟨Nat.zero_le _, by simpa using hO⟩
   · exact (.as rfl (by simp) (q_a .nil))
   · exact (.to rfl)
   rintro k ⟨hkj, hOk⟩
   refine q_k [3, 49, 0, 33, 34, 35, 47, 48] [160, 0, 1, 2, 3, 4, 5, 105, 147, 161] ?_
   refine q_sr (q_q (q_b BinV.lss) (q_nn (W.seq ?_)))
   first | refine W.condD rfl (fun hc50 => ?_) (fun hc50 => ?_) | (refine W.cond rfl (fun hc50 => ?_) (fun hc50 => ?_) <;> try simp only [Bool.or_eq_true, Bool.and_eq_true, Bool.not_eq_true', Bool.not_eq_false', decide_eq_true_eq, Bool.or_eq_false_iff, Bool.and_eq_false_iff, decide_eq_false_iff_not, beq_iff_eq, beq_eq_false_iff_ne, ne_eq, Decidable.not_not] at hc50)
   ·
    obtain ⟨zz, hz⟩ : ∃ zz, [u.it, u.rp, u.st, u.va][k.j]? = some zz := ⟨_, List.getElem?_eq_getElem (show k.j < 4 by omega)⟩
    have hS4 : Sl (single b47 (.cells [.int .i64 u.it, .int .i64 u.rp, .int .i64 u.st, .int .i64 u.va].toArray 2 (0, 0))) (some ⟨b47, 0, none⟩) 4 1 (iz [u.it, u.rp, u.st, u.va]) := (Own.mk (e := 2) (n := 1) (c := 4) (ls := iz [u.it, u.rp, u.st, u.va]) [] (by simp [iz, Value.oneCell']) (by simp) (by simp [maxLen]) (by rfl) (by rfl)).sl
    have hlz : (iz [u.it, u.rp, u.st, u.va])[k.j]? = some [.int .i64 zz] := iz_get hz
    have hzz := hur.zs zz (List.mem_of_getElem? hz)
    have qk : (([u.it, u.rp, u.st, u.va].take k.j).flatMap encZ).length ≤ 36 := Nat.le_trans (flat_len (k := 9) fun a ha => encZ_len (hur.zs a (List.mem_of_mem_take ha))) (by rw [List.length_take]; simp; omega)
    refine W.skip (N.next (W.seq (W.block (q_sr ?_))))
    refine q_q (q_ix u56 sz2) ?_
    refine q_q (by first | exact (by first | exact q_r1 1 u2 | exact q_r1 2 u2 | exact q_r1 3 u2 | exact q_r1 4 u2 | exact q_r1 5 u2 | exact q_r1 105 u2 | exact q_r1 147 u2 | exact q_r1 161 u2 | exact q_r1 160 u2) | exact (by first | exact q_rF 1 0 u2 | exact q_rF 2 0 u2 | exact q_rF 3 0 u2 | exact q_rF 4 0 u2 | exact q_rF 5 0 u2 | exact q_rF 105 0 u2 | exact q_rF 147 0 u2 | exact q_rF 161 0 u2 | exact q_rF 160 0 u2)) ?_
    refine q_an ?_
    refine W.region (q_q q_mv (q_q q_mv ?_))
    refine q_e (q_c ent53 [160] [160] (addI_ct ((((encZ mach ++ encZ t.gen) ++ encN (t.us.length : Nat)) ++ (t.us.take z.j).flatMap encU) ++ ([u.it, u.rp, u.st, u.va].take k.j).flatMap encZ) k.H k.p k.c hOk zz hzz (by simp only [List.length_append]; omega))) ?_
    rintro _ _ ⟨_, ⟨H4, p4, c4, rfl, hO4, rfl⟩, rfl⟩
    refine q_q q_as (RL.nil (N.block_normal (N.next (q_k [0, 3, 33, 34, 35, 47, 48, 49] [0, 1, 2, 3, 4, 5, 105, 147, 160, 161] ?_))))
    refine W.region ?_
    refine q_q q_ad (q_q q_mv (RL.nil ?_))
    exact N.famK ⟨k.j + 1, H4, p4, c4⟩ ⟨⟨by dsimp only; omega, by dsimp only; rw [flat_take hz, ← List.append_assoc]; exact hO4⟩, by dsimp only; omega⟩ (.as rfl (by rw [flat_take hz, ← List.append_assoc]) (q_a .nil)) (.to rfl) (.to rfl) (.to rfl)
   ·
    have hk4 : k.j = 4 := by omega
    have hBK : (((encZ mach ++ encZ t.gen) ++ encN (t.us.length : Nat)) ++ (t.us.take (z.j + 1)).flatMap encU) = ((((encZ mach ++ encZ t.gen) ++ encN (t.us.length : Nat)) ++ (t.us.take z.j).flatMap encU) ++ ([u.it, u.rp, u.st, u.va].take k.j).flatMap encZ) := by rw [flat_take hu, hk4, ← List.append_assoc]; rfl
    refine W.exit (N.then_exit (N.then_exit (N.block_eq (N.block_normal (N.next (q_k [0, 3, 33, 34, 35] [0, 1, 2, 3, 4, 5, 105, 147, 160, 161] ?_))))))
    refine W.region ?_
    refine q_q q_ad (q_q q_mv (RL.nil ?_))
    exact N.famK ⟨z.j + 1, k.H, k.p, k.c⟩ ⟨⟨by dsimp only; omega, by dsimp only; rw [hBK]; exact hOk⟩, by dsimp only; omega⟩ (.as rfl (by rw [hBK]) (q_a .nil)) (.to rfl) (.to rfl) (.to rfl)
  ·
   have hend : z.j = t.us.length := by omega
   rw [hend, List.take_length] at hO ⊢
   refine W.exit (N.then_exit (N.then_exit (N.block_eq (N.next (q_k [0, 3] [0, 1, 2, 3, 4, 5, 160, 161] ?_)))))
   refine q_sr (q_an ?_)
   refine W.seq (q_sr (q_q q_mv (q_q q_np (q_q (q_fa fo82_5) (q_q (q_l 2 u80) ?_)))))
   refine q_e (Eff.range 162 (c := 5) u80 rfl rfl) ?_
   rintro _ _ ⟨r62, rfl, rfl⟩
   refine q_nn (q_k [0, 3, 8, 62] [0, 1, 2, 3, 4, 5, 160, 161, 162] ?_)
   refine W.block ?_
   refine W.loopK (ι := ZS) (fun w => (ItP x.es x.ck x.ck w.last w.seen x.mm w.done ∧ Own w.H w.p w.c 3 1 (iz w.done.reverse) ∧ w.done.Nodup ∧ ∀ z ∈ w.done, z ∈ t.dn.map (·.1))) (fun w => [(8, .slice w.p w.done.reverse.length w.c)]) (fun w => [(161, w.H), (162, single r62 (.mapIter (some x.d) x.ck w.seen w.last))]) (fun w => leftN x.mm w.done) (.of [0, 3, 62] rfl) (.of [0, 1, 2, 3, 4, 5, 160] rfl) ⟨#[], x.ck, [], emp, none, 0⟩ ?_ ?_ ?_ ?_
   · exact ⟨ItP.start hMp, Own.nil _ _, List.nodup_nil, (fun z hz => nomatch hz)⟩
   · exact (q_a .nil)
   · exact (.to rfl)
   rintro w ⟨hIx, hOw, hnd, hsub⟩
   refine q_k [8, 0, 3, 62] [161, 162, 0, 1, 2, 3, 4, 5, 160] ?_
   refine q_sr ?_
   refine q_e (Eff.next (c := 5) (c2 := 162) rfl rfl rfl hMp hIx) ?_
   rintro _ _ ⟨nx63, sn63, ls63, rfl, hN63, rfl⟩
   refine q_q (Yld.extract rfl (nxV_ok _ nx63)) (q_nn (W.seq ?_))
   refine W.cond rfl (fun hc64 => ?_) (fun hc64 => ?_)
   ·
    obtain ⟨⟨kk, uv⟩, rfl⟩ := Option.isSome_iff_exists.1 hc64
    obtain ⟨hku, hkd, hI2, hE, hls⟩ := hN63
    obtain rfl := hls.symm
    have hlt := leftN_next hku hkd
    have hdl := nodup_le hnd hsub
    rw [List.length_map] at hdl
    refine W.skip (N.next (W.block (q_sr ?_)))
    refine q_q (Yld.entry (c := 5) (c2 := 162) rfl rfl rfl hMp hE) (q_q q_x (q_an ?_))
    refine q_k [0, 3, 8, 9, 62] [0, 1, 2, 3, 4, 5, 160, 161, 162] ?_
    refine W.region (q_q q_mv (q_q q_mv ?_))
    refine q_e (Eff.buildSlice 169 u55 sz3 zc3 rfl rfl (.cons rfl rfl .nil) rfl) ?_
    rintro _ _ ⟨b69, rfl, rfl⟩
    refine q_e (Eff.appendE (tc := 161) (sc := 169) (fun z : Int => [Value.int .i64 z]) u55 el3 rfl rfl rfl rfl hOw rfl (iz_single rfl) rfl (iz_one1 _) (by decide) (by first | (simp; done) | (simp; omega)) (by first | (simp [maxLen]; done) | (simp [maxLen]; omega))) ?_
    rintro _ _ ⟨Ha, pa, ca, rfl, hOa, rfl⟩
    refine q_q q_as (RL.nil (N.block_normal ?_))
    exact N.famK ⟨sn63, x.ck, kk :: w.done, Ha, pa, ca⟩ ⟨⟨hI2, by dsimp only; rw [List.reverse_cons]; exact hOa, List.nodup_cons.2 ⟨hkd, hnd⟩, fun z hz => (List.mem_cons.1 hz).elim (fun e => by rw [e]; exact hx.keys hku) (hsub z)⟩, by dsimp only; omega⟩ (.as rfl (by rw [List.reverse_cons]) .nil) (.to rfl) (.to rfl) (.to rfl)
   ·
    have hn0 : nx63 = none := by cases nx63 with | none => rfl | some p => cases hc64
    subst hn0
    have hall := hN63
    have hdl := nodup_le hnd hsub
    rw [List.length_map] at hdl
    have hkeys : ∀ z, z ∈ w.done.reverse ↔ z ∈ t.dn.map (·.1) := fun z => by
      rw [List.mem_reverse]
      refine ⟨hsub z, fun hz => ?_⟩
      have h1 := look_isSome.2 hz
      obtain ⟨v, hv⟩ := Option.isSome_iff_exists.1 h1
      have h2 := hdn z
      rw [hv] at h2
      exact hall _ (mget_mem h2)
    refine W.exit (N.then_exit (N.then_exit (N.block_eq (N.next (q_sr (q_q q_mv ?_))))))
    refine q_e (Eff.call ent55 [161] [161] (.cons rfl .nil) (sort_ct _ _ _ _ hOw (by rw [List.length_reverse]; omega)) rfl rfl rfl rfl (by rintro _ _ ⟨_, _, _, rfl⟩; rfl)) ?_
    rintro _ _ ⟨_, ⟨rfl, Hs1, hOs, rfl⟩, rfl⟩
    obtain ⟨hk1, hk2⟩ := keys_of hs.nd ((List.reverse_perm _).nodup_iff.2 hnd) hkeys
    rw [hk1] at hOs
    rw [hk2]
    have hms := hOs.sl.len_le
    simp only [iz_len, maxLen] at hms
    refine q_nn (q_k [0, 3, 8] [0, 1, 2, 3, 4, 5, 160, 161, 162] ?_)
    refine q_sr (q_q q_mv (q_q q_mv (q_q (q_n u55) ?_)))
    refine q_q (Yld.eq (v' := .int .u64 (t.dn.length : Nat)) (Yld.convIs u3 u111 rfl (by first | exact IntWalk.u64_in _ ⟨by omega, by omega⟩ | rfl)) (by first | rfl | (rw [hkl]; done) | (congr 1; simp; done) | (congr 1; omega))) ?_
    refine q_e (q_c ent54 [160] [160] (addN_ct (((encZ mach ++ encZ t.gen) ++ encN (t.us.length : Nat)) ++ t.us.flatMap encU) z.H z.p z.c hO (t.dn.length : Nat) (nat_u64 (by omega)) (by simp only [List.length_append]; omega))) ?_
    rintro _ _ ⟨_, ⟨H5, p5, c5, rfl, hO5, rfl⟩, rfl⟩
    refine q_an ?_
    refine q_k [0, 3, 8] [0, 1, 2, 3, 4, 5, 160, 161, 162] ?_
    refine W.seq (q_sr (q_q q_mv (q_q (q_n u55) (q_q q_mv (q_nn (W.block ?_))))))
    refine W.loopK (ι := ZB) (fun y => (y.j ≤ t.dn.length ∧ Own y.H y.p y.c 5 1 (bz (((((encZ mach ++ encZ t.gen) ++ encN (t.us.length : Nat)) ++ t.us.flatMap encU) ++ encN (t.dn.length : Nat)) ++ ((keysD t.dn).take y.j).flatMap (encD t.dn))))) (fun y => [(3, .slice y.p (((((encZ mach ++ encZ t.gen) ++ encN (t.us.length : Nat)) ++ t.us.flatMap encU) ++ encN (t.dn.length : Nat)) ++ ((keysD t.dn).take y.j).flatMap (encD t.dn)).length y.c), (80, .int .i64 (y.j : Nat))]) (fun y => [(160, y.H)]) (fun y => t.dn.length - y.j) (.of [0, 78, 79] rfl) (.of [0, 1, 2, 3, 4, 5, 161, 162] rfl) ⟨0, H5, p5, c5⟩ ?_ ?_ ?_ ?_
    · exact ⟨Nat.zero_le _, by simpa using hO5⟩
    · exact (.as rfl (by simp) (q_a .nil))
    · exact (.to rfl)
    rintro y ⟨hyj, hOy⟩
    refine q_k [3, 80, 0, 78, 79] [160, 0, 1, 2, 3, 4, 5, 161, 162] ?_
    refine q_sr (q_q (q_b BinV.lss) (q_nn (W.seq ?_)))
    first | refine W.condD rfl (fun hc81 => ?_) (fun hc81 => ?_) | (refine W.cond rfl (fun hc81 => ?_) (fun hc81 => ?_) <;> try simp only [Bool.or_eq_true, Bool.and_eq_true, Bool.not_eq_true', Bool.not_eq_false', decide_eq_true_eq, Bool.or_eq_false_iff, Bool.and_eq_false_iff, decide_eq_false_iff_not, beq_iff_eq, beq_eq_false_iff_ne, ne_eq, Decidable.not_not] at hc81)
    ·
     obtain ⟨kk, hkk⟩ : ∃ kk, (keysD t.dn)[y.j]? = some kk := ⟨_, List.getElem?_eq_getElem (by omega)⟩
     have hlk := iz_get hkk
     have qy : (((keysD t.dn).take y.j).flatMap (encD t.dn)).length ≤ 90000 := Nat.le_trans (flat_len (k := 18) fun a ha => encD_len hs.dn (hki a (List.mem_of_mem_take ha))) (by rw [List.length_take]; omega)
     refine W.skip (N.next (W.seq (W.block (q_sr ?_))))
     refine q_q (q_ix u55 sz3) ?_
     refine q_q (by first | exact (by first | exact q_r1 1 u3 | exact q_r1 2 u3 | exact q_r1 3 u3 | exact q_r1 4 u3 | exact q_r1 5 u3 | exact q_r1 161 u3 | exact q_r1 162 u3 | exact q_r1 160 u3) | exact (by first | exact q_rF 1 0 u3 | exact q_rF 2 0 u3 | exact q_rF 3 0 u3 | exact q_rF 4 0 u3 | exact q_rF 5 0 u3 | exact q_rF 161 0 u3 | exact q_rF 162 0 u3 | exact q_rF 160 0 u3)) ?_
     refine q_an ?_
     refine W.draw (.q 0 (.q 1 (.q 3 (.q 4 (.q 5 (.q 6 (.q 7 (.q 8 (.one 2 (.one 9 (.q 10 .done))))))))))) (.of [0, 1, 2, 3, 4, 5, 161, 162] rfl) mix (by kernel_rfl) (by kernel_rfl) (q_d rfl q_mv (q_d rfl q_mv (q_d rfl q_mv (q_d rfl q_np (q_d rfl (q_fa fo82_5) (q_d rfl (q_l 2 u80) (q_d rfl q_mv ?_)))))))
     refine q_d rfl (Yld.eq (v' := .int .i64 (valD t.dn kk)) (by first | exact Yld.lookup (c := 1) u80 (keyInt u3) zv2 rfl rfl rfl (by assumption) | exact Yld.lookup (c := 2) u80 (keyInt u3) zv2 rfl rfl rfl (by assumption) | exact Yld.lookup (c := 3) u80 (keyInt u3) zv2 rfl rfl rfl (by assumption) | exact Yld.lookup (c := 4) u80 (keyInt u3) zv2 rfl rfl rfl (by assumption) | exact Yld.lookup (c := 5) u80 (keyInt u3) zv2 rfl rfl rfl (by assumption) | exact Yld.lookup (c := 161) u80 (keyInt u3) zv2 rfl rfl rfl (by assumption) | exact Yld.lookup (c := 162) u80 (keyInt u3) zv2 rfl rfl rfl (by assumption) | exact Yld.lookup (c := 160) u80 (keyInt u3) zv2 rfl rfl rfl (by assumption)) (hx.val kk)) ?_
     refine q_o rfl (q_c ent53 [160] [160] (addI_ct (((((encZ mach ++ encZ t.gen) ++ encN (t.us.length : Nat)) ++ t.us.flatMap encU) ++ encN (t.dn.length : Nat)) ++ ((keysD t.dn).take y.j).flatMap (encD t.dn)) y.H y.p y.c hOy kk (hki kk (List.mem_of_getElem? hkk)) (by simp only [List.length_append]; omega))) ?_
     rintro _ _ ⟨_, ⟨H6, p6, c6, rfl, hO6, rfl⟩, rfl⟩
     refine q_o rfl (q_c ent53 [160] [160] (addI_ct ((((((encZ mach ++ encZ t.gen) ++ encN (t.us.length : Nat)) ++ t.us.flatMap encU) ++ encN (t.dn.length : Nat)) ++ ((keysD t.dn).take y.j).flatMap (encD t.dn)) ++ encZ kk) H6 p6 c6 hO6 (valD t.dn kk) (valD_i64 hs.dn kk) (by have := encZ_len (hki kk (List.mem_of_getElem? hkk)); simp only [List.length_append]; omega))) ?_
     rintro _ _ ⟨_, ⟨H7, p7, c7, rfl, hO7, rfl⟩, rfl⟩
     refine q_d rfl q_as (DL.done (N.block_normal (N.next (q_k [0, 3, 78, 79, 80] [0, 1, 2, 3, 4, 5, 160, 161, 162] ?_))))
     refine W.region ?_
     refine q_q q_ad (q_q q_mv (RL.nil ?_))
     exact N.famK ⟨y.j + 1, H7, p7, c7⟩ ⟨⟨by dsimp only; omega, by dsimp only; rw [flat_take hkk, ← List.append_assoc]; unfold encD; rw [← List.append_assoc]; exact hO7⟩, by dsimp only; omega⟩ (.as rfl (by rw [flat_take hkk, ← List.append_assoc]; unfold encD; rw [← List.append_assoc]) (q_a .nil)) (.to rfl) (.to rfl) (.to rfl)
    ·
     have hend : y.j = (keysD t.dn).length := by omega
     rw [hend, List.take_length] at hOy ⊢
     refine W.exit (N.then_exit (N.then_exit (N.block_eq (N.next (q_k [3] [0, 1, 2, 3, 4, 5, 160, 161, 162] ?_)))))
     refine q_sr (q_q q_mv ?_)
     refine q_q (Yld.bytesStr (cl := 160) u108 u5 u9 rfl rfl hOy.sl rfl) (q_an ?_)
     refine W.ret ?_
     exact q_r [1, 2, 3, 4, 5] (.cons (.tmp rfl) .nil) rfl rfl rfl ⟨rfl, rfl⟩
end Go.Proofs.YtboapdcmaeojgaaGreatDoor
namespace Go.Proofs.YtboapdcmaeojgaaGreatDoor
open SL Cat Fen Cfg
set_option linter.unusedVariables false
set_option linter.unusedSimpArgs false
theorem ent56 : Ent Tryz.prog 56 := ⟨_, _, Tryz.func56, by kernel_rfl, rfl⟩
theorem ent57 : Ent Tryz.prog 57 := ⟨_, _, Tryz.func57, by kernel_rfl, rfl⟩
theorem ent59 : Ent Tryz.prog 59 := ⟨_, _, Tryz.func59, by kernel_rfl, rfl⟩
theorem ent58 : Ent Tryz.prog 58 := ⟨_, _, Tryz.func58, by kernel_rfl, rfl⟩
theorem ent60 : Ent Tryz.prog 60 := ⟨_, _, Tryz.func60, by kernel_rfl, rfl⟩
theorem ent61 : Ent Tryz.prog 61 := ⟨_, _, Tryz.func61, by kernel_rfl, rfl⟩
theorem ent30 : Ent Tryz.prog 30 := ⟨_, _, Tryz.func30, by kernel_rfl, rfl⟩
structure Fen.ZL where
  j : Nat
  x : Rd
  H : PH
  p : Option Addr
  c : Nat
structure Fen.ZM where
  j : Nat
  x : Rd
  es : Array MapEntry
  ck : Nat
  mm : List (Int × Value)
def Fen.LoadOK (m : Md) (s : ByteArray) : Prop := 1 ≤ loadM (nums s) ∧ loadM (nums s) ≤ m.mc.length ∧ rdE (loadD (nums s)).2 = 0 ∧ GoodP (kdOf m) (loadM (nums s)) (loadT (nums s)) ∧ strOfNums (saveP (loadM (nums s)) (loadT (nums s))) = s
def Fen.tb0 : Tb := ⟨none, 0, 0, emp, none, 0, 0, emp, 0, 0, #[], 0, []⟩
theorem rd_ml {H : PH} {x : Rd} (h : x.In H) : (x.l.length : Int) ≤ 9223372036854775807 := by
  have := h.sl.len_le
  simp only [bz_len, maxLen] at this
  omega
set_option maxRecDepth 100000 in
set_option maxHeartbeats 6400000 in
theorem loadN_ct (m : Md) (H1 : PH) (hM : m.In H1) (hT : TabS H1) (hv : MdV m) (s : ByteArray) (hs : s.size ≤ 5000) (hn : ¬ (1 ≤ loadM (nums s) ∧ loadM (nums s) ≤ m.mc.length)) : Ct Tryz.prog 31 [.agg [.slice m.psi m.si.length m.csi, .slice m.pfe m.fe.length m.cfe, .slice m.prk m.rk.length m.crk, .slice m.pmc m.mc.length m.cmc, .slice m.pln m.ln.length m.cln, .slice m.pis m.is.length m.cis, .int .i64 m.da, .int .i64 m.sl, .int .i64 m.re, .int .i64 m.fa, .slice m.prl m.rl.length m.crl].toArray, .string s] [H1] (fun v Hs => ∃ (p : Option Addr) (e : Int) (b : Nat) (x : Tb) (P1 P2 P3 P4 : PH), v = .tuple [.pointer p, .int .i64 e].toArray ∧ ((e = 0 ∧ p = some ⟨b, 0, none⟩ ∧ 1 ≤ loadM (nums s) ∧ loadM (nums s) ≤ m.mc.length ∧ x.Is (loadT (nums s)) ∧ SOK (loadM (nums s)) (loadT (nums s)) ∧ strOfNums (saveP (loadM (nums s)) (loadT (nums s))) = s ∧ P1 = single b (.cells [.slice m.psi m.si.length m.csi, .slice m.pfe m.fe.length m.cfe, .slice m.prk m.rk.length m.crk, .slice m.pmc m.mc.length m.cmc, .slice m.pln m.ln.length m.cln, .slice m.pis m.is.length m.cis, .int .i64 m.da, .int .i64 m.sl, .int .i64 m.re, .int .i64 m.fa, .slice m.prl m.rl.length m.crl, .int .i64 (loadM (nums s)), .slice x.pu x.nu x.cu, .slice x.pc x.nc x.cc, .int .i64 x.gen, .map (some x.d)].toArray 82 (0, 0)) ∧ P2 = x.HU ∧ P3 = x.HC ∧ P4 = single x.d (.map x.es x.ck)) ∨ (e = 11 ∧ p = none ∧ ¬ LoadOK m s)) ∧ Hs = [H1, P1, P2, P3, P4]) := by
  refine Ct.body Tryz.func31 rfl Tryz.ntmps31 rfl ?_
  intro E F
  have hbt := nums_byt s
  have hln := nums_len s
  obtain ⟨mach, hmach⟩ : ∃ z, loadM (nums s) = z := ⟨_, rfl⟩
  have hbad : ¬ LoadOK m s := fun h => hn ⟨h.1, h.2.1⟩
  rw [hmach] at hn
  refine q_sr ?_
  refine q_bx 102 fun b2 => ?_
  refine q_q q_as (q_an ?_)
  refine W.seq (q_sr (q_q (q_lw 102 u29 sz29) ?_))
  refine q_e (q_c ent34 [1] [1] (valid_ct m H1 hM hT)) ?_
  rintro _ _ ⟨_, ⟨rfl, rfl⟩, rfl⟩
  refine q_q (Yld.eq (v' := .bool false) Yld.nt (by simp [pB_true hv])) (q_nn (q_k [1, 2, 11] [0, 1, 102] ?_))
  first | (refine W.as (t := 11) rfl (boolF (by first | assumption | omega | (simp; done))) ?_; refine W.condF rfl ?_) | refine W.condF rfl ?_
  refine W.skip (N.next (q_sr (q_q q_mv ?_)))
  refine q_e (Eff.strBytes 113 u9 u108 u5 rfl (by first | omega | (simp only [maxLen]; omega))) ?_
  rintro _ _ ⟨H13, p13, c13, rfl, hS13, rfl⟩
  refine q_e (Eff.call ent56 [113] [113, 150, 151] (.cons rfl .nil) (newReader_ct (nums s) _ _ _ hS13 (by omega) hbt) rfl rfl rfl rfl (by rintro _ _ ⟨_, _, _, _, _, _, rfl⟩; rfl)) ?_
  rintro _ _ ⟨_, ⟨r, x0, B, rfl, hx0, hx0s, rfl⟩, rfl⟩
  refine q_an ?_
  refine q_k [1, 2, 6] [0, 1, 102, 113, 150, 151] ?_
  refine W.seq ?_
  refine W.draw (.q 0 (.q 1 (.one 2 (.one 3 (.q 4 .done))))) (.of [0, 102, 113] rfl) mix (by kernel_rfl) (by kernel_rfl) (q_d rfl (q_lw 102 u29 sz29) (q_d rfl q_mv ?_))
  refine q_o rfl (q_c ent57 [150, 151] [150, 151] (Int_ct r x0 B hx0)) ?_
  rintro _ _ ⟨_, ⟨x1, hx1, hx1s, rfl, rfl⟩, rfl⟩
  have hm0 : (rdZ x0.s).1 = mach := by rw [hx0s]; exact hmach
  rw [hm0]
  refine q_o rfl (q_c ent13 [1] [1] (newNo_ct m H1 hM hT mach (fun h => hn h.2))) ?_
  rintro _ _ ⟨_, ⟨rfl, rfl⟩, rfl⟩
  refine q_d rfl q_as (DL.done (N.next (q_k [1, 6, 7] [0, 1, 102, 113, 150, 151] ?_)))
  refine W.seq (q_sr (q_q q_mv ?_))
  refine q_q (Yld.bin rfl rfl (BinV.eqlPN u33)) (q_nn ?_)
  first | (refine W.as (t := 20) rfl (boolT (by first | assumption | omega | (simp; done))) ?_; refine W.condT rfl ?_) | refine W.condT rfl ?_
  refine W.seq ?_
  refine W.imp (Imp.empty _ 160) ?_
  refine W.imp (Imp.empty _ 161) ?_
  refine W.imp (Imp.empty _ 162) ?_
  refine W.imp (Imp.empty _ 163) (W.region (q_q q_as (q_an ?_)))
  refine q_k [4, 5] [0, 1, 102, 113, 150, 151, 160, 161, 162, 163] ?_
  refine W.ret (N.then_ret ?_)
  exact q_r [1, 160, 161, 162, 163] (.cons (.tmp rfl) (.cons (.tmp rfl) .nil)) rfl rfl rfl ⟨none, 11, 0, tb0, _, _, _, _, rfl, .inr ⟨rfl, rfl, hbad⟩, rfl⟩
set_option maxRecDepth 100000 in
set_option maxHeartbeats 6400000 in
theorem loadY_ct (m : Md) (H1 : PH) (hM : m.In H1) (hT : TabS H1) (hv : MdV m) (s : ByteArray) (hs : s.size ≤ 5000) (h1 : 1 ≤ loadM (nums s)) (h2 : loadM (nums s) ≤ m.mc.length) : Ct Tryz.prog 31 [.agg [.slice m.psi m.si.length m.csi, .slice m.pfe m.fe.length m.cfe, .slice m.prk m.rk.length m.crk, .slice m.pmc m.mc.length m.cmc, .slice m.pln m.ln.length m.cln, .slice m.pis m.is.length m.cis, .int .i64 m.da, .int .i64 m.sl, .int .i64 m.re, .int .i64 m.fa, .slice m.prl m.rl.length m.crl].toArray, .string s] [H1] (fun v Hs => ∃ (p : Option Addr) (e : Int) (b : Nat) (x : Tb) (P1 P2 P3 P4 : PH), v = .tuple [.pointer p, .int .i64 e].toArray ∧ ((e = 0 ∧ p = some ⟨b, 0, none⟩ ∧ 1 ≤ loadM (nums s) ∧ loadM (nums s) ≤ m.mc.length ∧ x.Is (loadT (nums s)) ∧ SOK (loadM (nums s)) (loadT (nums s)) ∧ strOfNums (saveP (loadM (nums s)) (loadT (nums s))) = s ∧ P1 = single b (.cells [.slice m.psi m.si.length m.csi, .slice m.pfe m.fe.length m.cfe, .slice m.prk m.rk.length m.crk, .slice m.pmc m.mc.length m.cmc, .slice m.pln m.ln.length m.cln, .slice m.pis m.is.length m.cis, .int .i64 m.da, .int .i64 m.sl, .int .i64 m.re, .int .i64 m.fa, .slice m.prl m.rl.length m.crl, .int .i64 (loadM (nums s)), .slice x.pu x.nu x.cu, .slice x.pc x.nc x.cc, .int .i64 x.gen, .map (some x.d)].toArray 82 (0, 0)) ∧ P2 = x.HU ∧ P3 = x.HC ∧ P4 = single x.d (.map x.es x.ck)) ∨ (e = 11 ∧ p = none ∧ ¬ LoadOK m s)) ∧ Hs = [H1, P1, P2, P3, P4]) := by
  refine Ct.body Tryz.func31 rfl Tryz.ntmps31 rfl ?_
  intro E F
  have hbt := nums_byt s
  have hln := nums_len s
  obtain ⟨mach, hmach⟩ : ∃ z, loadM (nums s) = z := ⟨_, rfl⟩
  have hsok := load_ok hbt (by omega)
  have hn3 := hv.n5
  obtain ⟨g, hg⟩ : ∃ z, (loadT (nums s)).gen = z := ⟨_, rfl⟩
  have hLT : loadT (nums s) = ⟨(loadU (nums s)).1, [], g, (loadD (nums s)).1⟩ := by rw [← hg]; rfl
  unfold LoadOK
  rw [hmach] at h1 h2 hsok ⊢
  refine q_sr ?_
  refine q_bx 102 fun b2 => ?_
  refine q_q q_as (q_an ?_)
  refine W.seq (q_sr (q_q (q_lw 102 u29 sz29) ?_))
  refine q_e (q_c ent34 [1] [1] (valid_ct m H1 hM hT)) ?_
  rintro _ _ ⟨_, ⟨rfl, rfl⟩, rfl⟩
  refine q_q (Yld.eq (v' := .bool false) Yld.nt (by simp [pB_true hv])) (q_nn (q_k [1, 2, 11] [0, 1, 102] ?_))
  first | (refine W.as (t := 11) rfl (boolF (by first | assumption | omega | (simp; done))) ?_; refine W.condF rfl ?_) | refine W.condF rfl ?_
  refine W.skip (N.next (q_sr (q_q q_mv ?_)))
  refine q_e (Eff.strBytes 113 u9 u108 u5 rfl (by first | omega | (simp only [maxLen]; omega))) ?_
  rintro _ _ ⟨H13, p13, c13, rfl, hS13, rfl⟩
  refine q_e (Eff.call ent56 [113] [113, 150, 151] (.cons rfl .nil) (newReader_ct (nums s) _ _ _ hS13 (by omega) hbt) rfl rfl rfl rfl (by rintro _ _ ⟨_, _, _, _, _, _, rfl⟩; rfl)) ?_
  rintro _ _ ⟨_, ⟨r, x0, B, rfl, hx0, hx0s, rfl⟩, rfl⟩
  refine q_an ?_
  refine q_k [1, 2, 6] [0, 1, 102, 113, 150, 151] ?_
  refine W.seq ?_
  refine W.draw (.q 0 (.q 1 (.one 2 (.one 3 (.q 4 .done))))) (.of [0, 102, 113] rfl) mix (by kernel_rfl) (by kernel_rfl) (q_d rfl (q_lw 102 u29 sz29) (q_d rfl q_mv ?_))
  refine q_o rfl (q_c ent57 [150, 151] [150, 151] (Int_ct r x0 B hx0)) ?_
  rintro _ _ ⟨_, ⟨x1, hx1, hx1s, rfl, rfl⟩, rfl⟩
  have hm0 : (rdZ x0.s).1 = mach := by rw [hx0s]; exact hmach
  rw [hm0]
  refine q_o rfl (q_c ent13 [1] [1, 160, 161, 162, 163] (new_ct m H1 hM hT mach hv h1 h2)) ?_
  rintro _ _ ⟨_, ⟨bt, y0, rfl, hy0, rfl⟩, rfl⟩
  refine q_d rfl q_as (DL.done (N.next (q_k [1, 6, 7] [0, 1, 102, 113, 150, 151, 160, 161, 162, 163] ?_)))
  refine W.seq (q_sr (q_q q_mv ?_))
  refine q_q (Yld.bin rfl rfl (BinV.eqlPN u33)) (q_nn ?_)
  first | (refine W.as (t := 20) rfl (boolF (by first | assumption | omega | (simp; done))) ?_; refine W.condF rfl ?_) | refine W.condF rfl ?_
  refine W.skip (N.next (q_sr (q_q q_mv (q_q q_mv (q_q q_mv ?_)))))
  refine q_e (q_c ent57 [150, 151] [150, 151] (Int_ct r x1 B hx1)) ?_
  rintro _ _ ⟨_, ⟨x2, hx2, hx2s, rfl, rfl⟩, rfl⟩
  have hg0 : (rdZ x1.s).1 = g := by rw [hx1s, hx0s]; exact hg
  rw [hg0]
  have hx2S : x2.s = loadS1 (nums s) := by rw [hx2s, hx1s, hx0s]; rfl
  have hb2 : Byt (loadS1 (nums s)).1 := by rw [← hx2S]; exact hx2.byt
  have hl2 : (loadS1 (nums s)).1.length ≤ 5000 := by have a1 := rdN_len (nums s, 0); have a2 := rdN_len (rdZ (nums s, 0)).2; exact Nat.le_trans a2 (Nat.le_trans a1 (show (nums s).length ≤ 5000 by omega))
  obtain ⟨c1, c2, c3⟩ := cnt_le hb2 (by omega)
  refine q_q q_np (q_q (q_fa fo82_4) (q_s 160 sz3 ?_))
  refine q_q q_np (q_q (q_fa fo82_2) (q_s 160 sz41 ?_))
  refine q_nn (q_k [1, 6, 7] [0, 1, 102, 113, 150, 151, 160, 161, 162, 163] ?_)
  refine W.seq (W.seq ?_)
  refine W.imp (Imp.empty _ 164) (W.region (q_q q_mv (q_q q_mv ?_)))
  refine q_e (q_c ent59 [150, 151] [150, 151] (Left_ct r x2 B hx2)) ?_
  rintro _ _ ⟨_, ⟨rfl, rfl⟩, rfl⟩
  refine q_e (q_c ent58 [150, 151] [150, 151] (Count_ct r x2 B hx2 (x2.l.length : Nat) (rd_ml hx2))) ?_
  rintro _ _ ⟨_, ⟨x3, hx3, hx3s, rfl, rfl⟩, rfl⟩
  have hct : rdC x2.s (x2.l.length : Nat) = cnt (loadS1 (nums s)) := by rw [← hx2S]; rfl
  rw [hct] at hx3s ⊢
  refine q_q q_mv (q_nn (W.block ?_))
  refine W.loopK (ι := ZL) (fun z => (z.j ≤ (cnt (loadS1 (nums s))).1.toNat ∧ z.x.In B ∧ z.x.s = (rdUs z.j (cnt (loadS1 (nums s))).2).2 ∧ Own z.H z.p z.c 48 5 ((rdUs z.j (cnt (loadS1 (nums s))).2).1.map U.c))) (fun z => [(33, .int .i64 (z.j : Nat))]) (fun z => [(150, single r (.cells [.slice z.x.p z.x.l.length z.x.c, .int .i64 z.x.e].toArray 146 (0, 0))), (160, single bt (.cells [.slice m.psi m.si.length m.csi, .slice m.pfe m.fe.length m.cfe, .slice m.prk m.rk.length m.crk, .slice m.pmc m.mc.length m.cmc, .slice m.pln m.ln.length m.cln, .slice m.pis m.is.length m.cis, .int .i64 m.da, .int .i64 m.sl, .int .i64 m.re, .int .i64 m.fa, .slice m.prl m.rl.length m.crl, .int .i64 mach, .slice z.p (rdUs z.j (cnt (loadS1 (nums s))).2).1.length z.c, .slice y0.pc y0.nc y0.cc, .int .i64 g, .map (some y0.d)].toArray 82 (0, 0))), (164, z.H)]) (fun z => (cnt (loadS1 (nums s))).1.toNat - z.j) (.of [1, 6, 7, 32] rfl) (.of [0, 1, 102, 113, 151, 161, 162, 163] rfl) ⟨0, x3, emp, none, 0⟩ ?_ ?_ ?_ ?_
  · exact ⟨Nat.zero_le _, hx3, hx3s, Own.nil _ _⟩
  · exact (q_a .nil)
  · exact (.to rfl)
  rintro z ⟨hzj, hzx, hzs, hO⟩
  refine q_k [33, 1, 6, 7, 32] [150, 160, 164, 0, 1, 102, 113, 151, 161, 162, 163] ?_
  refine q_sr (q_q (q_b BinV.lss) (q_nn (W.seq ?_)))
  first | refine W.condD rfl (fun hc34 => ?_) (fun hc34 => ?_) | (refine W.cond rfl (fun hc34 => ?_) (fun hc34 => ?_) <;> try simp only [Bool.or_eq_true, Bool.and_eq_true, Bool.not_eq_true', Bool.not_eq_false', decide_eq_true_eq, Bool.or_eq_false_iff, Bool.and_eq_false_iff, decide_eq_false_iff_not, beq_iff_eq, beq_eq_false_iff_ne, ne_eq, Decidable.not_not] at hc34)
  ·
   have hul := rdUs_len z.j (cnt (loadS1 (nums s))).2
   refine W.skip (N.next (W.seq (W.block ?_)))
   refine W.draw (.q 0 (.q 1 (.q 2 (.q 3 (.q 5 (.q 7 (.q 9 (.q 11 (.two 4 (.one 6 (.one 8 (.one 10 (.one 12 (.q 13 (.one 14 (.one 15 (.q 16 (.q 17 (.one 18 .done)))))))))) 6 (.two 4 (.one 8 (.one 10 (.one 12 (.q 13 (.one 14 (.one 15 (.q 16 (.q 17 (.one 18 .done))))))))) 8 (.two 4 (.one 10 (.one 12 (.q 13 (.one 14 (.one 15 (.q 16 (.q 17 (.one 18 .done)))))))) 10 (.two 4 (.one 12 (.q 13 (.one 14 (.one 15 (.q 16 (.q 17 (.one 18 .done))))))) 12 (.q 13 (.two 4 (.one 14 (.one 15 (.q 16 (.q 17 (.one 18 .done))))) 14 (.one 4 (.one 15 (.q 16 (.q 17 (.one 18 .done))))))))))))))))))) (.of [0, 1, 102, 113, 161, 162, 163] rfl) mix (by kernel_rfl) (by kernel_rfl) ?_
   refine q_d rfl q_mv (q_d rfl q_mv (q_d rfl q_np (q_d rfl (q_fa fo82_2) (q_d rfl q_mv (q_d rfl q_mv (q_d rfl q_mv (q_d rfl q_mv ?_)))))))
   refine DL.two ?_ ?_
   ·
    refine q_o rfl (Yld.eff (q_l 160 u41)) ?_
    rintro _ _ ⟨rfl, rfl⟩
    refine q_o rfl (q_c ent57 [150, 151] [150, 151] (Int_ct r z.x B hzx)) ?_
    rintro _ _ ⟨_, ⟨a1, ha1, ha1s, rfl, rfl⟩, rfl⟩
    refine q_o rfl (q_c ent57 [150, 151] [150, 151] (Int_ct r a1 B ha1)) ?_
    rintro _ _ ⟨_, ⟨a2, ha2, ha2s, rfl, rfl⟩, rfl⟩
    refine q_o rfl (q_c ent57 [150, 151] [150, 151] (Int_ct r a2 B ha2)) ?_
    rintro _ _ ⟨_, ⟨a3, ha3, ha3s, rfl, rfl⟩, rfl⟩
    refine q_o rfl (q_c ent57 [150, 151] [150, 151] (Int_ct r a3 B ha3)) ?_
    rintro _ _ ⟨_, ⟨a4, ha4, ha4s, rfl, rfl⟩, rfl⟩
    have hnu : (⟨(rdZ z.x.s).1, (rdZ a1.s).1, (rdZ a2.s).1, (rdZ a3.s).1, 0⟩ : U) = (rdU (rdUs z.j (cnt (loadS1 (nums s))).2).2).1 := by rw [ha3s, ha2s, ha1s, hzs]; rfl
    have hns : a4.s = (rdUs (z.j + 1) (cnt (loadS1 (nums s))).2).2 := by rw [ha4s, ha3s, ha2s, ha1s, hzs]; rfl
    refine q_d rfl (Yld.buildP lay48 (.cons rfl rfl (.cons rfl rfl (.cons rfl rfl (.cons rfl rfl .nil)))) rfl) ?_
    refine q_o rfl (Eff.buildSlice 149 u41 sz48 zc48 rfl rfl (.cons rfl rfl .nil) rfl) ?_
    rintro _ _ ⟨b49, rfl, rfl⟩
    refine q_o rfl (Eff.appendE (tc := 164) (sc := 149) (ms := [(rdU (rdUs z.j (cnt (loadS1 (nums s))).2).2).1]) U.c u41 el48 rfl rfl rfl rfl hO (by simp) (Own.one (l := (rdU (rdUs z.j (cnt (loadS1 (nums s))).2).2).1.c) (by rw [← hnu]; rfl) (U.one _) (by rw [← hnu]; rfl)).sl rfl (fun a _ => U.one a) (by decide) (by simp; omega) (by simp [maxLen]; omega)) ?_
    rintro _ _ ⟨Ha, pa, ca, rfl, hOa, rfl⟩
    refine q_d rfl q_np (q_d rfl (q_fa fo82_2) ?_)
    refine q_o0 rfl (q_st 160 sz41) ?_
    rintro _ _ rfl
    refine DL.done (N.block_normal (N.next (q_k [1, 6, 7, 32, 33] [0, 1, 102, 113, 149, 150, 151, 160, 161, 162, 163, 164] ?_)))
    refine W.region ?_
    refine q_q q_ad (q_q q_mv (RL.nil ?_))
    exact N.famK ⟨z.j + 1, a4, Ha, pa, ca⟩ ⟨⟨by dsimp only; omega, ha4, hns, by dsimp only; exact hOa⟩, by dsimp only; omega⟩ (q_a .nil) (.to rfl) (.to rfl) (.to rfl)
   ·
    refine q_o rfl (q_c ent57 [150, 151] [150, 151] (Int_ct r z.x B hzx)) ?_
    rintro _ _ ⟨_, ⟨a1, ha1, ha1s, rfl, rfl⟩, rfl⟩
    refine DL.two ?_ ?_
    ·
     refine q_o rfl (Yld.eff (q_l 160 u41)) ?_
     rintro _ _ ⟨rfl, rfl⟩
     refine q_o rfl (q_c ent57 [150, 151] [150, 151] (Int_ct r a1 B ha1)) ?_
     rintro _ _ ⟨_, ⟨a2, ha2, ha2s, rfl, rfl⟩, rfl⟩
     refine q_o rfl (q_c ent57 [150, 151] [150, 151] (Int_ct r a2 B ha2)) ?_
     rintro _ _ ⟨_, ⟨a3, ha3, ha3s, rfl, rfl⟩, rfl⟩
     refine q_o rfl (q_c ent57 [150, 151] [150, 151] (Int_ct r a3 B ha3)) ?_
     rintro _ _ ⟨_, ⟨a4, ha4, ha4s, rfl, rfl⟩, rfl⟩
     have hnu : (⟨(rdZ z.x.s).1, (rdZ a1.s).1, (rdZ a2.s).1, (rdZ a3.s).1, 0⟩ : U) = (rdU (rdUs z.j (cnt (loadS1 (nums s))).2).2).1 := by rw [ha3s, ha2s, ha1s, hzs]; rfl
     have hns : a4.s = (rdUs (z.j + 1) (cnt (loadS1 (nums s))).2).2 := by rw [ha4s, ha3s, ha2s, ha1s, hzs]; rfl
     refine q_d rfl (Yld.buildP lay48 (.cons rfl rfl (.cons rfl rfl (.cons rfl rfl (.cons rfl rfl .nil)))) rfl) ?_
     refine q_o rfl (Eff.buildSlice 149 u41 sz48 zc48 rfl rfl (.cons rfl rfl .nil) rfl) ?_
     rintro _ _ ⟨b49, rfl, rfl⟩
     refine q_o rfl (Eff.appendE (tc := 164) (sc := 149) (ms := [(rdU (rdUs z.j (cnt (loadS1 (nums s))).2).2).1]) U.c u41 el48 rfl rfl rfl rfl hO (by simp) (Own.one (l := (rdU (rdUs z.j (cnt (loadS1 (nums s))).2).2).1.c) (by rw [← hnu]; rfl) (U.one _) (by rw [← hnu]; rfl)).sl rfl (fun a _ => U.one a) (by decide) (by simp; omega) (by simp [maxLen]; omega)) ?_
     rintro _ _ ⟨Ha, pa, ca, rfl, hOa, rfl⟩
     refine q_d rfl q_np (q_d rfl (q_fa fo82_2) ?_)
     refine q_o0 rfl (q_st 160 sz41) ?_
     rintro _ _ rfl
     refine DL.done (N.block_normal (N.next (q_k [1, 6, 7, 32, 33] [0, 1, 102, 113, 149, 150, 151, 160, 161, 162, 163, 164] ?_)))
     refine W.region ?_
     refine q_q q_ad (q_q q_mv (RL.nil ?_))
     exact N.famK ⟨z.j + 1, a4, Ha, pa, ca⟩ ⟨⟨by dsimp only; omega, ha4, hns, by dsimp only; exact hOa⟩, by dsimp only; omega⟩ (q_a .nil) (.to rfl) (.to rfl) (.to rfl)
    ·
     refine q_o rfl (q_c ent57 [150, 151] [150, 151] (Int_ct r a1 B ha1)) ?_
     rintro _ _ ⟨_, ⟨a2, ha2, ha2s, rfl, rfl⟩, rfl⟩
     refine DL.two ?_ ?_
     ·
      refine q_o rfl (Yld.eff (q_l 160 u41)) ?_
      rintro _ _ ⟨rfl, rfl⟩
      refine q_o rfl (q_c ent57 [150, 151] [150, 151] (Int_ct r a2 B ha2)) ?_
      rintro _ _ ⟨_, ⟨a3, ha3, ha3s, rfl, rfl⟩, rfl⟩
      refine q_o rfl (q_c ent57 [150, 151] [150, 151] (Int_ct r a3 B ha3)) ?_
      rintro _ _ ⟨_, ⟨a4, ha4, ha4s, rfl, rfl⟩, rfl⟩
      have hnu : (⟨(rdZ z.x.s).1, (rdZ a1.s).1, (rdZ a2.s).1, (rdZ a3.s).1, 0⟩ : U) = (rdU (rdUs z.j (cnt (loadS1 (nums s))).2).2).1 := by rw [ha3s, ha2s, ha1s, hzs]; rfl
      have hns : a4.s = (rdUs (z.j + 1) (cnt (loadS1 (nums s))).2).2 := by rw [ha4s, ha3s, ha2s, ha1s, hzs]; rfl
      refine q_d rfl (Yld.buildP lay48 (.cons rfl rfl (.cons rfl rfl (.cons rfl rfl (.cons rfl rfl .nil)))) rfl) ?_
      refine q_o rfl (Eff.buildSlice 149 u41 sz48 zc48 rfl rfl (.cons rfl rfl .nil) rfl) ?_
      rintro _ _ ⟨b49, rfl, rfl⟩
      refine q_o rfl (Eff.appendE (tc := 164) (sc := 149) (ms := [(rdU (rdUs z.j (cnt (loadS1 (nums s))).2).2).1]) U.c u41 el48 rfl rfl rfl rfl hO (by simp) (Own.one (l := (rdU (rdUs z.j (cnt (loadS1 (nums s))).2).2).1.c) (by rw [← hnu]; rfl) (U.one _) (by rw [← hnu]; rfl)).sl rfl (fun a _ => U.one a) (by decide) (by simp; omega) (by simp [maxLen]; omega)) ?_
      rintro _ _ ⟨Ha, pa, ca, rfl, hOa, rfl⟩
      refine q_d rfl q_np (q_d rfl (q_fa fo82_2) ?_)
      refine q_o0 rfl (q_st 160 sz41) ?_
      rintro _ _ rfl
      refine DL.done (N.block_normal (N.next (q_k [1, 6, 7, 32, 33] [0, 1, 102, 113, 149, 150, 151, 160, 161, 162, 163, 164] ?_)))
      refine W.region ?_
      refine q_q q_ad (q_q q_mv (RL.nil ?_))
      exact N.famK ⟨z.j + 1, a4, Ha, pa, ca⟩ ⟨⟨by dsimp only; omega, ha4, hns, by dsimp only; exact hOa⟩, by dsimp only; omega⟩ (q_a .nil) (.to rfl) (.to rfl) (.to rfl)
     ·
      refine q_o rfl (q_c ent57 [150, 151] [150, 151] (Int_ct r a2 B ha2)) ?_
      rintro _ _ ⟨_, ⟨a3, ha3, ha3s, rfl, rfl⟩, rfl⟩
      refine DL.two ?_ ?_
      ·
       refine q_o rfl (Yld.eff (q_l 160 u41)) ?_
       rintro _ _ ⟨rfl, rfl⟩
       refine q_o rfl (q_c ent57 [150, 151] [150, 151] (Int_ct r a3 B ha3)) ?_
       rintro _ _ ⟨_, ⟨a4, ha4, ha4s, rfl, rfl⟩, rfl⟩
       have hnu : (⟨(rdZ z.x.s).1, (rdZ a1.s).1, (rdZ a2.s).1, (rdZ a3.s).1, 0⟩ : U) = (rdU (rdUs z.j (cnt (loadS1 (nums s))).2).2).1 := by rw [ha3s, ha2s, ha1s, hzs]; rfl
       have hns : a4.s = (rdUs (z.j + 1) (cnt (loadS1 (nums s))).2).2 := by rw [ha4s, ha3s, ha2s, ha1s, hzs]; rfl
       refine q_d rfl (Yld.buildP lay48 (.cons rfl rfl (.cons rfl rfl (.cons rfl rfl (.cons rfl rfl .nil)))) rfl) ?_
       refine q_o rfl (Eff.buildSlice 149 u41 sz48 zc48 rfl rfl (.cons rfl rfl .nil) rfl) ?_
       rintro _ _ ⟨b49, rfl, rfl⟩
       refine q_o rfl (Eff.appendE (tc := 164) (sc := 149) (ms := [(rdU (rdUs z.j (cnt (loadS1 (nums s))).2).2).1]) U.c u41 el48 rfl rfl rfl rfl hO (by simp) (Own.one (l := (rdU (rdUs z.j (cnt (loadS1 (nums s))).2).2).1.c) (by rw [← hnu]; rfl) (U.one _) (by rw [← hnu]; rfl)).sl rfl (fun a _ => U.one a) (by decide) (by simp; omega) (by simp [maxLen]; omega)) ?_
       rintro _ _ ⟨Ha, pa, ca, rfl, hOa, rfl⟩
       refine q_d rfl q_np (q_d rfl (q_fa fo82_2) ?_)
       refine q_o0 rfl (q_st 160 sz41) ?_
       rintro _ _ rfl
       refine DL.done (N.block_normal (N.next (q_k [1, 6, 7, 32, 33] [0, 1, 102, 113, 149, 150, 151, 160, 161, 162, 163, 164] ?_)))
       refine W.region ?_
       refine q_q q_ad (q_q q_mv (RL.nil ?_))
       exact N.famK ⟨z.j + 1, a4, Ha, pa, ca⟩ ⟨⟨by dsimp only; omega, ha4, hns, by dsimp only; exact hOa⟩, by dsimp only; omega⟩ (q_a .nil) (.to rfl) (.to rfl) (.to rfl)
      ·
       refine q_o rfl (q_c ent57 [150, 151] [150, 151] (Int_ct r a3 B ha3)) ?_
       rintro _ _ ⟨_, ⟨a4, ha4, ha4s, rfl, rfl⟩, rfl⟩
       have hnu : (⟨(rdZ z.x.s).1, (rdZ a1.s).1, (rdZ a2.s).1, (rdZ a3.s).1, 0⟩ : U) = (rdU (rdUs z.j (cnt (loadS1 (nums s))).2).2).1 := by rw [ha3s, ha2s, ha1s, hzs]; rfl
       have hns : a4.s = (rdUs (z.j + 1) (cnt (loadS1 (nums s))).2).2 := by rw [ha4s, ha3s, ha2s, ha1s, hzs]; rfl
       refine q_d rfl (Yld.buildP lay48 (.cons rfl rfl (.cons rfl rfl (.cons rfl rfl (.cons rfl rfl .nil)))) rfl) ?_
       refine DL.two ?_ ?_
       ·
        refine q_o rfl (Yld.eff (q_l 160 u41)) ?_
        rintro _ _ ⟨rfl, rfl⟩
        refine q_o rfl (Eff.buildSlice 149 u41 sz48 zc48 rfl rfl (.cons rfl rfl .nil) rfl) ?_
        rintro _ _ ⟨b49, rfl, rfl⟩
        refine q_o rfl (Eff.appendE (tc := 164) (sc := 149) (ms := [(rdU (rdUs z.j (cnt (loadS1 (nums s))).2).2).1]) U.c u41 el48 rfl rfl rfl rfl hO (by simp) (Own.one (l := (rdU (rdUs z.j (cnt (loadS1 (nums s))).2).2).1.c) (by rw [← hnu]; rfl) (U.one _) (by rw [← hnu]; rfl)).sl rfl (fun a _ => U.one a) (by decide) (by simp; omega) (by simp [maxLen]; omega)) ?_
        rintro _ _ ⟨Ha, pa, ca, rfl, hOa, rfl⟩
        refine q_d rfl q_np (q_d rfl (q_fa fo82_2) ?_)
        refine q_o0 rfl (q_st 160 sz41) ?_
        rintro _ _ rfl
        refine DL.done (N.block_normal (N.next (q_k [1, 6, 7, 32, 33] [0, 1, 102, 113, 149, 150, 151, 160, 161, 162, 163, 164] ?_)))
        refine W.region ?_
        refine q_q q_ad (q_q q_mv (RL.nil ?_))
        exact N.famK ⟨z.j + 1, a4, Ha, pa, ca⟩ ⟨⟨by dsimp only; omega, ha4, hns, by dsimp only; exact hOa⟩, by dsimp only; omega⟩ (q_a .nil) (.to rfl) (.to rfl) (.to rfl)
       ·
        refine q_o rfl (Eff.buildSlice 149 u41 sz48 zc48 rfl rfl (.cons rfl rfl .nil) rfl) ?_
        rintro _ _ ⟨b49, rfl, rfl⟩
        refine q_o rfl (Yld.eff (q_l 160 u41)) ?_
        rintro _ _ ⟨rfl, rfl⟩
        refine q_o rfl (Eff.appendE (tc := 164) (sc := 149) (ms := [(rdU (rdUs z.j (cnt (loadS1 (nums s))).2).2).1]) U.c u41 el48 rfl rfl rfl rfl hO (by simp) (Own.one (l := (rdU (rdUs z.j (cnt (loadS1 (nums s))).2).2).1.c) (by rw [← hnu]; rfl) (U.one _) (by rw [← hnu]; rfl)).sl rfl (fun a _ => U.one a) (by decide) (by simp; omega) (by simp [maxLen]; omega)) ?_
        rintro _ _ ⟨Ha, pa, ca, rfl, hOa, rfl⟩
        refine q_d rfl q_np (q_d rfl (q_fa fo82_2) ?_)
        refine q_o0 rfl (q_st 160 sz41) ?_
        rintro _ _ rfl
        refine DL.done (N.block_normal (N.next (q_k [1, 6, 7, 32, 33] [0, 1, 102, 113, 149, 150, 151, 160, 161, 162, 163, 164] ?_)))
        refine W.region ?_
        refine q_q q_ad (q_q q_mv (RL.nil ?_))
        exact N.famK ⟨z.j + 1, a4, Ha, pa, ca⟩ ⟨⟨by dsimp only; omega, ha4, hns, by dsimp only; exact hOa⟩, by dsimp only; omega⟩ (q_a .nil) (.to rfl) (.to rfl) (.to rfl)
  ·
   have hend : z.j = (cnt (loadS1 (nums s))).1.toNat := by omega
   rw [hend] at hzs hO ⊢
   have hzU : z.x.s = (loadU (nums s)).2 := hzs
   have hb4 : Byt (loadU (nums s)).2.1 := by rw [← hzU]; exact hzx.byt
   have hl4 : (loadU (nums s)).2.1.length ≤ 5000 := Nat.le_trans (rdUs_rest _ _) (Nat.le_trans (rdC_len _ _) hl2)
   obtain ⟨d1, d2, d3⟩ := cnt_le hb4 (by omega)
   refine W.exit (N.then_exit (N.then_exit (N.block_eq (N.next (W.seq (q_sr (q_q q_mv (q_q q_mv ?_))))))))
   refine q_e (q_c ent59 [150, 151] [150, 151] (Left_ct r z.x B hzx)) ?_
   rintro _ _ ⟨_, ⟨rfl, rfl⟩, rfl⟩
   refine q_e (q_c ent58 [150, 151] [150, 151] (Count_ct r z.x B hzx (z.x.l.length : Nat) (rd_ml hzx))) ?_
   rintro _ _ ⟨_, ⟨x4, hx4, hx4s, rfl, rfl⟩, rfl⟩
   have hct2 : rdC z.x.s (z.x.l.length : Nat) = cnt (loadU (nums s)).2 := by rw [← hzU]; rfl
   rw [hct2] at hx4s ⊢
   refine q_q q_mv (q_nn (q_k [1, 6, 7, 57, 58] [0, 1, 102, 113, 150, 151, 160, 161, 162, 163, 164] ?_))
   refine W.block ?_
   refine W.loopK (ι := ZM) (fun w => (w.j ≤ (cnt (loadU (nums s)).2).1.toNat ∧ w.x.In B ∧ w.x.s = (rdDs w.j (cnt (loadU (nums s)).2).2).2 ∧ MapP (fun a : Int => Value.int .i64 a) w.es w.ck w.mm ∧ ∀ q, mget w.mm q = (Fen.look (rdDs w.j (cnt (loadU (nums s)).2).2).1 q).map (fun v => Value.int .i64 v))) (fun w => [(58, .int .i64 (w.j : Nat))]) (fun w => [(150, single r (.cells [.slice w.x.p w.x.l.length w.x.c, .int .i64 w.x.e].toArray 146 (0, 0))), (163, single y0.d (.map w.es w.ck))]) (fun w => (cnt (loadU (nums s)).2).1.toNat - w.j) (.of [1, 6, 7, 57] rfl) (.of [0, 1, 102, 113, 151, 160, 161, 162, 164] rfl) ⟨0, x4, y0.es, y0.ck, y0.mm⟩ ?_ ?_ ?_ ?_
   · exact ⟨Nat.zero_le _, hx4, hx4s, hy0.om, hy0.od⟩
   · exact (q_a .nil)
   · exact (.to rfl)
   rintro w ⟨hwj, hwx, hws, hMp, hod⟩
   refine q_k [58, 1, 6, 7, 57] [150, 163, 0, 1, 102, 113, 151, 160, 161, 162, 164] ?_
   refine q_sr (q_q (q_b BinV.lss) (q_nn (W.seq ?_)))
   first | refine W.condD rfl (fun hc59 => ?_) (fun hc59 => ?_) | (refine W.cond rfl (fun hc59 => ?_) (fun hc59 => ?_) <;> try simp only [Bool.or_eq_true, Bool.and_eq_true, Bool.not_eq_true', Bool.not_eq_false', decide_eq_true_eq, Bool.or_eq_false_iff, Bool.and_eq_false_iff, decide_eq_false_iff_not, beq_iff_eq, beq_eq_false_iff_ne, ne_eq, Decidable.not_not] at hc59)
   ·
    refine W.skip (N.next (W.seq (W.block (q_sr (q_q q_mv ?_)))))
    refine q_e (q_c ent57 [150, 151] [150, 151] (Int_ct r w.x B hwx)) ?_
    rintro _ _ ⟨_, ⟨e1, he1, he1s, rfl, rfl⟩, rfl⟩
    refine q_an ?_
    refine W.draw (.q 0 (.q 1 (.q 2 (.q 3 (.q 4 (.q 5 (.one 6 (.one 7 .done)))))))) (.of [0, 1, 102, 113, 160, 161, 162, 164] rfl) mix (by kernel_rfl) (by kernel_rfl) (q_d rfl q_mv (q_d rfl q_np (q_d rfl (q_fa fo82_5) (q_d rfl (q_l 160 u80) (q_d rfl q_mv (q_d rfl q_mv ?_))))))
    refine q_o rfl (q_c ent57 [150, 151] [150, 151] (Int_ct r e1 B he1)) ?_
    rintro _ _ ⟨_, ⟨e2, he2, he2s, rfl, rfl⟩, rfl⟩
    refine q_o0 rfl (Eff.mapUpdate (c := 163) u80 (keyInt u3) rfl rfl rfl rfl (by assumption)) ?_
    rintro _ _ ⟨es1, ck1, hM1, rfl⟩
    refine DL.done (N.block_normal (N.next (q_k [1, 6, 7, 57, 58] [0, 1, 102, 113, 150, 151, 160, 161, 162, 163, 164] ?_)))
    refine W.region ?_
    refine q_q q_ad (q_q q_mv (RL.nil ?_))
    exact N.famK ⟨w.j + 1, e2, es1, ck1, mset w.mm (rdZ w.x.s).1 (.int .i64 (rdZ e1.s).1)⟩ ⟨⟨by dsimp only; omega, he2, by dsimp only; rw [he2s, he1s, hws]; rfl, hM1, fun q => by dsimp only; rw [mget_mset, hod q, he1s, hws]; show _ = (Fen.look (dput _ _ _) q).map _; rw [look_dput]; split <;> rfl⟩, by dsimp only; omega⟩ (q_a .nil) (.to rfl) (.to rfl) (.to rfl)
   ·
    have hend2 : w.j = (cnt (loadU (nums s)).2).1.toNat := by omega
    rw [hend2] at hws hod ⊢
    have hwD : w.x.s = (loadD (nums s)).2 := hws
    have hX : Fen.Tb.Is (⟨z.p, (loadU (nums s)).1.length, z.c, z.H, y0.pc, y0.nc, y0.cc, y0.HC, g, y0.d, w.es, w.ck, w.mm⟩ : Tb) (loadT (nums s)) := by rw [hLT]; exact ⟨rfl, hy0.nc, rfl, hO, hy0.oc, hMp, hod⟩
    refine W.exit (N.then_exit (N.then_exit (N.block_eq (N.next (W.seq (q_sr (q_q q_mv ?_)))))))
    refine q_e (q_c ent60 [150, 151] [150, 151] (End_ct r w.x B hwx)) ?_
    rintro _ _ ⟨_, ⟨rfl, rfl⟩, rfl⟩
    rw [hwD]
    refine q_q (q_b BinV.neq) (q_q q_mv ?_)
    refine' q_or 73 77 4 [1, 6, 7, 57, 58, 59, 70, 71, 72] [0, 1, 102, 113, 150, 151, 160, 161, 162, 163, 164] ?_ ?_ ?_
    rotate_left 1
    ·
     intro hg73
     refine q_g q_mv ?_
     refine RL.ge rfl rfl (Eff.call ent61 [1, 160, 164, 162, 163] [1, 160, 164, 162, 163] (.cons rfl .nil) (cons_ct m H1 hM mach bt _ (⟨z.p, (loadU (nums s)).1.length, z.c, z.H, y0.pc, y0.nc, y0.cc, y0.HC, g, y0.d, w.es, w.ck, w.mm⟩ : Tb) hX hsok.us (by omega) (by have := hsok.lu; omega)) rfl rfl rfl rfl (by rintro _ _ ⟨_, rfl⟩; rfl)) rfl ?_
     rintro _ _ ⟨_, ⟨rfl, rfl⟩, rfl⟩
     refine q_g Yld.nt (q_q Yld.pk ?_)
     exact q_m
    ·
     intro hg73
     repeat refine q_gs ?_
     refine q_q Yld.pk ?_
     exact q_m
    refine q_q q_mv ?_
    refine' q_or 78 83 5 [1, 6, 7, 57, 58, 59, 70, 71, 72, 77] [0, 1, 102, 113, 150, 151, 160, 161, 162, 163, 164] ?_ ?_ ?_
    rotate_left 1
    ·
     intro hg78
     refine q_g q_mv ?_
     refine RL.ge rfl rfl (q_c ent30 [1, 160, 164, 162, 163] [1, 160, 164, 162, 163] (save_ct m H1 hM mach bt _ (⟨z.p, (loadU (nums s)).1.length, z.c, z.H, y0.pc, y0.nc, y0.cc, y0.HC, g, y0.d, w.es, w.ck, w.mm⟩ : Tb) hX hsok)) rfl ?_
     rintro _ _ ⟨_, ⟨rfl, rfl⟩, rfl⟩
     refine q_g q_mv (q_g (q_b BinV.neqS) (q_q Yld.pk ?_))
     exact q_m
    ·
     intro hg78
     repeat refine q_gs ?_
     refine q_q Yld.pk ?_
     exact q_m
    refine q_nn (q_k [7, 83] [0, 1, 102, 113, 150, 151, 160, 161, 162, 163, 164] ?_)
    refine W.cond rfl (fun hc83 => ?_) (fun hc83 => ?_)
    ·
     have hbad : ¬ (1 ≤ mach ∧ mach ≤ m.mc.length ∧ rdE (loadD (nums s)).2 = 0 ∧ GoodP (kdOf m) mach (loadT (nums s)) ∧ strOfNums (saveP mach (loadT (nums s))) = s) := fun ⟨_, _, b3, b4, b5⟩ => by
       simp [b3, pB_true b4, b5] at hc83
     refine q_sr (q_q q_as (q_an ?_))
     refine W.ret (N.then_ret ?_)
     exact q_r [1, 160, 164, 162, 163] (.cons (.tmp rfl) (.cons (.tmp rfl) .nil)) rfl rfl rfl ⟨none, 11, 0, tb0, _, _, _, _, rfl, .inr ⟨rfl, rfl, hbad⟩, rfl⟩
    ·
     have hok : strOfNums (saveP mach (loadT (nums s))) = s := by
       simp only [Bool.or_eq_false_iff, decide_eq_false_iff_not, Classical.not_not] at hc83
       exact hc83.2
     refine W.skip (N.next (q_sr (q_q q_mv (q_q q_as (q_an ?_)))))
     refine W.ret ?_
     exact q_r [1, 160, 164, 162, 163] (.cons (.tmp rfl) (.cons (.tmp rfl) .nil)) rfl rfl rfl ⟨_, 0, bt, (⟨z.p, (loadU (nums s)).1.length, z.c, z.H, y0.pc, y0.nc, y0.cc, y0.HC, g, y0.d, w.es, w.ck, w.mm⟩ : Tb), _, _, _, _, rfl, .inl ⟨rfl, rfl, h1, h2, hX, hsok, hok, rfl, rfl, rfl, rfl⟩, rfl⟩
theorem load_ct (m : Md) (H1 : PH) (hM : m.In H1) (hT : TabS H1) (hv : MdV m) (s : ByteArray) (hs : s.size ≤ 5000) : Ct Tryz.prog 31 [.agg [.slice m.psi m.si.length m.csi, .slice m.pfe m.fe.length m.cfe, .slice m.prk m.rk.length m.crk, .slice m.pmc m.mc.length m.cmc, .slice m.pln m.ln.length m.cln, .slice m.pis m.is.length m.cis, .int .i64 m.da, .int .i64 m.sl, .int .i64 m.re, .int .i64 m.fa, .slice m.prl m.rl.length m.crl].toArray, .string s] [H1] (fun v Hs => ∃ (p : Option Addr) (e : Int) (b : Nat) (x : Tb) (P1 P2 P3 P4 : PH), v = .tuple [.pointer p, .int .i64 e].toArray ∧ ((e = 0 ∧ p = some ⟨b, 0, none⟩ ∧ 1 ≤ loadM (nums s) ∧ loadM (nums s) ≤ m.mc.length ∧ x.Is (loadT (nums s)) ∧ SOK (loadM (nums s)) (loadT (nums s)) ∧ strOfNums (saveP (loadM (nums s)) (loadT (nums s))) = s ∧ P1 = single b (.cells [.slice m.psi m.si.length m.csi, .slice m.pfe m.fe.length m.cfe, .slice m.prk m.rk.length m.crk, .slice m.pmc m.mc.length m.cmc, .slice m.pln m.ln.length m.cln, .slice m.pis m.is.length m.cis, .int .i64 m.da, .int .i64 m.sl, .int .i64 m.re, .int .i64 m.fa, .slice m.prl m.rl.length m.crl, .int .i64 (loadM (nums s)), .slice x.pu x.nu x.cu, .slice x.pc x.nc x.cc, .int .i64 x.gen, .map (some x.d)].toArray 82 (0, 0)) ∧ P2 = x.HU ∧ P3 = x.HC ∧ P4 = single x.d (.map x.es x.ck)) ∨ (e = 11 ∧ p = none ∧ ¬ LoadOK m s)) ∧ Hs = [H1, P1, P2, P3, P4]) := by
  by_cases h : 1 ≤ loadM (nums s) ∧ loadM (nums s) ≤ m.mc.length
  · exact loadY_ct m H1 hM hT hv s hs h.1 h.2
  · exact loadN_ct m H1 hM hT hv s hs h
end Go.Proofs.YtboapdcmaeojgaaGreatDoor
namespace Go.Proofs.YtboapdcmaeojgaaGreatDoor
open SL Cat Fen Cfg
set_option linter.unusedVariables false
set_option linter.unusedSimpArgs false
theorem ent11 : Ent Tryz.prog 11 := ⟨_, _, Tryz.func11, by kernel_rfl, rfl⟩
theorem ent12 : Ent Tryz.prog 12 := ⟨_, _, Tryz.func12, by kernel_rfl, rfl⟩
theorem ent25 : Ent Tryz.prog 25 := ⟨_, _, Tryz.func25, by kernel_rfl, rfl⟩
theorem ent31 : Ent Tryz.prog 31 := ⟨_, _, Tryz.func31, by kernel_rfl, rfl⟩
theorem ent29 : Ent Tryz.prog 29 := ⟨_, _, Tryz.func29, by kernel_rfl, rfl⟩
theorem zc40 : zc Tryz.prog 40 [.int .i64 0, .int .i64 0, .int .i64 0, .int .i64 0, .int .i64 0, .int .i64 0, .int .i64 0, .int .i64 0, .int .i64 0, .int .i64 0, .int .i64 0] := (by kernel_rfl : ((Tryz.prog.info? 40).bind (·.zero)).map (fun v => v.cells.toList) = some [.int .i64 0, .int .i64 0, .int .i64 0, .int .i64 0, .int .i64 0, .int .i64 0, .int .i64 0, .int .i64 0, .int .i64 0, .int .i64 0, .int .i64 0])
theorem Fen.SI.fold {m : Md} {mach : Int} : ∀ {l : List Opn} {k : Nat} {t : T}, SI m mach k t → (∀ o ∈ l, o.c.rp ≤ 9223372036854775807) → SI m mach (k + l.length) (l.foldl (stepP m mach) t)
  | [], k, t, h, _ => h
  | o :: l, k, t, h, hR => by
    have := Fen.SI.fold (l := l) (h.step (o := o) (hR o (by simp))) fun o ho => hR o (by simp [ho])
    rw [List.length_cons, show k + (l.length + 1) = k + 1 + l.length by omega]
    exact this
theorem Fen.SI.run {m : Md} (hv : MdV m) {mach : Int} (h1 : 1 ≤ mach) (h2 : mach ≤ m.mc.length) {l : List Opn} (hR : ∀ o ∈ l, o.c.rp ≤ 9223372036854775807) : SI m mach l.length (runP m mach l) := by
  have := (SI.new hv h1 h2).fold hR
  rwa [Nat.zero_add] at this
structure Fen.RK where
  j : Nat
  x : Tb
  y : Rt
theorem Fen.save_len {mach : Int} {t : T} (h : SOK mach t) : (saveP mach t).length ≤ 36 + 36 * t.us.length + 18 * t.dn.length := by
  have q1 := encZ_len h.mc
  have q2 := encZ_len h.gn
  have q3 := encN_len (nat_u64 (n := t.us.length) (by have := h.lu; omega))
  have q4 := encN_len (nat_u64 (n := t.dn.length) (by have := h.ld; omega))
  have q5 := flat_len (f := encU) (k := 36) (l := t.us) fun u hu => (h.us u hu).len
  have q6 := flat_len (f := encD t.dn) (k := 18) (l := keysD t.dn) fun a ha => encD_len h.dn (keysD_i64 h.dn a ha)
  rw [keysD_len] at q6
  unfold saveP
  simp only [List.length_append]
  omega
theorem Fen.GoodP.of {kind : Int → Int} {mach : Int} {t t' : T} (h : GoodP kind mach t) (hu : t'.us = t.us) (hg : t'.gen = t.gen) (hd : ∀ q, Fen.look t'.dn q = Fen.look t.dn q) : GoodP kind mach t' :=
  ⟨by rw [hu]; exact h.us, by rw [hu]; exact h.pw, fun s v hl => by rw [hg]; exact h.dn s v (by rw [← hd]; exact hl), by rw [hg]; exact h.gn⟩
theorem Fen.load_of_save {m : Md} {mach : Int} {t : T} (h : SOK mach t) (hc : ∀ u ∈ t.us, u.ca = 0) (hg : GoodP (kdOf m) mach t) (h1 : 1 ≤ mach) (h2 : mach ≤ m.mc.length) : LoadOK m (strOfNums (saveP mach t)) ∧ loadM (nums (strOfNums (saveP mach t))) = mach ∧ ∀ x : Tb, x.Is (loadT (nums (strOfNums (saveP mach t)))) → x.Is { t with cs := [] } := by
  have hb := nums_str (save_byt h)
  obtain ⟨e1, e2, e3, e4, e5⟩ := load_save h hc
  have hT : loadT (saveP mach t) = ⟨(loadT (saveP mach t)).us, [], (loadT (saveP mach t)).gen, (loadT (saveP mach t)).dn⟩ := rfl
  have hsv : saveP mach (loadT (saveP mach t)) = saveP mach t := by
    rw [hT, e2, e3]
    exact save_look (rdDs_nd _ _) h.nd e4
  rw [hb]
  refine ⟨?_, e1, fun x hx => ⟨by rw [← e2]; exact hx.nu, hx.nc, by rw [hx.gn, e3], by rw [← e2]; exact hx.ou, hx.oc, hx.om, fun s => by rw [hx.od, e4]⟩⟩
  unfold LoadOK
  rw [hb, e1, hsv]
  exact ⟨h1, h2, e5, hg.of e2 e3 e4, rfl⟩
theorem Fen.SOK.cs {mach : Int} {t : T} (h : SOK mach t) (cs : List Cl) : SOK mach { t with cs := cs } := ⟨h.mc, h.gn, h.us, h.dn, h.lu, h.ld, h.nd⟩
theorem Fen.SI.off {m : Md} {mach : Int} {k : Nat} {t : T} (h : SI m mach k t) : SI m mach k { t with cs := [] } := ⟨⟨h.ti.inv, h.ti.rng⟩, h.us, Nat.zero_le _, h.dn⟩
theorem Fen.fold_take {m : Md} {mach : Int} {t : T} {l : List Opn} {j : Nat} {o : Opn} (h : l[j]? = some o) : (l.take (j + 1)).foldl (stepP m mach) t = stepP m mach ((l.take j).foldl (stepP m mach) t) o := by
  rw [tsnoc h, List.foldl_append]; rfl
set_option maxRecDepth 100000 in
set_option maxHeartbeats 6400000 in
theorem fenceSaves_ct (m : Md) (H1 : PH) (hM : m.In H1) (hT : TabS H1) (mach : Int) (l : List Opn) (q : Option Addr) (d : Nat) (hS : Sl H1 q d 11 (l.map Opn.cs)) (hR : ∀ o ∈ l, o.c.rp ≤ 9223372036854775807) (l2 : List Opn) (q2 : Option Addr) (d2 : Nat) (hS2 : Sl H1 q2 d2 11 (l2.map Opn.cs)) (hR2 : ∀ o ∈ l2, o.c.rp ≤ 9223372036854775807) (hRg : ∀ o ∈ l, o.g ≤ 9223372036854775807 ∧ o.s ≤ 9223372036854775807) (st : ByteArray)  : Ct Tryz.prog 10 [.agg [.slice m.psi m.si.length m.csi, .slice m.pfe m.fe.length m.cfe, .slice m.prk m.rk.length m.crk, .slice m.pmc m.mc.length m.cmc, .slice m.pln m.ln.length m.cln, .slice m.pis m.is.length m.cis, .int .i64 m.da, .int .i64 m.sl, .int .i64 m.re, .int .i64 m.fa, .slice m.prl m.rl.length m.crl].toArray, .int .i64 mach, .slice q l.length d, .slice q2 l2.length d2, .string st] [H1] (fun v Hs => v = .bool true ∧ Hs = [H1]) := by
  refine Ct.body Tryz.func10 rfl Tryz.ntmps10 rfl ?_
  intro E F
  have hmxl := hS.len_le
  simp only [List.length_map, maxLen] at hmxl
  have hmx2 := hS2.len_le
  simp only [List.length_map, maxLen] at hmx2
  refine q_sr ?_
  refine q_bx 105 fun b5 => ?_
  refine q_an ?_
  refine W.seq (q_sr (q_q (q_lw 105 u29 sz29) (q_q q_mv (q_q q_mv ?_))))
  refine q_e (q_c ent11 [1] [1] (few_ct m H1 hM mach 25 q l.length d)) ?_
  rintro _ _ ⟨_, ⟨rfl, rfl⟩, rfl⟩
  refine q_q Yld.nt (q_q q_mv ?_)
  refine' q_or 25 29 4 [0, 1, 2, 3, 4, 5, 10, 20, 21, 22, 23, 24] [0, 1, 105] ?_ ?_ ?_
  rotate_left 1
  ·
   intro hg25
   refine q_g q_mv (q_g (q_n u30) (q_g (q_b BinV.gtr) (q_q Yld.pk ?_)))
   exact q_m
  ·
   intro hg25
   repeat refine q_gs ?_
   refine q_q Yld.pk ?_
   exact q_m
  refine q_q q_mv ?_
  refine' q_or 30 34 4 [0, 1, 2, 3, 4, 5, 10, 20, 21, 22, 23, 24, 29] [0, 1, 105] ?_ ?_ ?_
  rotate_left 1
  ·
   intro hg30
   refine q_g q_mv (q_g (q_ns u9) (q_g (q_b BinV.gtr) (q_q Yld.pk ?_)))
   exact q_m
  ·
   intro hg30
   repeat refine q_gs ?_
   refine q_q Yld.pk ?_
   exact q_m
  refine q_nn (q_k [1, 2, 3, 4, 5, 34] [0, 1, 105] ?_)
  refine W.cond rfl (fun hc34 => ?_) (fun hc34 => ?_)
  ·
   refine q_sr ?_
   refine q_e (q_c ent12 [1] [1] (awake_ct H1 hT)) ?_
   rintro _ _ ⟨_, ⟨rfl, rfl⟩, rfl⟩
   refine q_an ?_
   refine q_k [10] [0, 1, 105] ?_
   refine W.ret (N.then_ret ?_)
   exact q_r [1] (.cons (.tmp rfl) .nil) rfl rfl rfl ⟨rfl, rfl⟩
  ·
   simp only [Bool.or_eq_false_iff, Bool.not_eq_false', Bool.and_eq_true, pB_iff, decide_eq_true_eq, decide_eq_false_iff_not] at hc34
   obtain ⟨⟨⟨⟨⟨hv, hm1⟩, hm2⟩, hl25⟩, hl2⟩, hst⟩ := hc34
   refine W.skip (N.next (q_sr (q_q (q_lw 105 u29 sz29) (q_q q_mv (q_q q_mv ?_)))))
   refine q_e (q_c ent25 [1] [1, 150, 151, 152, 153, 161, 162, 163, 164] (run_ct m H1 hM hT mach hv hm1 hm2 l q d hS hR (by omega))) ?_
   rintro _ _ ⟨_, ⟨bt, x, y, rfl, hx, hy, hys, rfl⟩, rfl⟩
   have hsi := SI.run hv hm1 hm2 hR
   have hvi := VI.run (m := m) (mach := mach) (l := l) (by omega) hRg
   have hsok := hvi.sok (by omega) hv hsi hm1 hm2
   have hgood := hvi.good hsi.ti
   obtain ⟨hLOK, hlm, hlx⟩ := load_of_save hsok (ti_ca hsi.ti) hgood hm1 hm2
   have hsz : (strOfNums (saveP mach (runP m mach l))).size ≤ 5000 := by
     rw [strOfNums_size]
     have a1 := save_len hsok
     have a2 := hsi.us
     have a3 := hsi.dn
     omega
   refine q_q q_mv (q_q q_x (q_q q_x (q_q q_x ?_)))
   refine q_al 112 zc59 fun b12 => ?_
   refine q_q q_as (q_s 112 sz59 ?_)
   refine q_an ?_
   refine q_k [3, 4, 5, 11, 12, 13] [0, 1, 105, 112, 150, 151, 152, 153, 161, 162, 163, 164] ?_
   refine W.seq (q_sr (q_q q_mv (q_q Yld.nt (q_nn ?_))))
   first | (refine W.as (t := 45) rfl (boolF (by first | assumption | omega | (simp; done))) ?_; refine W.condF rfl ?_) | refine W.condF rfl ?_
   refine W.skip (N.next (q_sr (q_q q_mv ?_)))
   refine q_e (q_c ent30 [1, 150, 151, 152, 153] [1, 150, 151, 152, 153] (save_ct m H1 hM mach bt _ x hx hsok)) ?_
   rintro _ _ ⟨_, ⟨rfl, rfl⟩, rfl⟩
   refine q_an ?_
   refine q_k [3, 4, 5, 11, 12, 14] [0, 1, 105, 112, 150, 151, 152, 153, 161, 162, 163, 164] ?_
   refine q_sr (q_q (q_lw 105 u29 sz29) (q_q q_mv ?_))
   refine q_e (q_c ent31 [1] [1, 170, 171, 172, 173] (load_ct m H1 hM hT hv (strOfNums (saveP mach (runP m mach l))) hsz)) ?_
   rintro _ _ ⟨_, ⟨p2, e2, b2, x2, P1, P2, P3, P4, rfl, hres, rfl⟩, rfl⟩
   rw [hlm] at hres
   obtain ⟨rfl, rfl, _, _, hx2, hs2, hsv2, rfl, rfl, rfl, rfl⟩ := hres.resolve_right (fun h => h.2.2 hLOK)
   have hx2c := hlx x2 hx2
   refine q_q q_mv (q_q q_x (q_q q_x (q_q q_as (q_an ?_))))
   refine q_k [3, 4, 5, 11, 12, 14, 15, 16] [0, 1, 105, 112, 150, 151, 152, 153, 161, 162, 163, 164, 170, 171, 172, 173] ?_
   refine W.seq (q_sr (q_q q_mv (q_q (q_b BinV.neq) (q_q q_mv ?_))))
   refine' q_or 56 59 3 [3, 4, 5, 11, 12, 14, 15, 16, 54, 55] [0, 1, 105, 112, 150, 151, 152, 153, 161, 162, 163, 164, 170, 171, 172, 173] ?_ ?_ ?_
   rotate_left 1
   ·
    intro hg56
    refine q_g q_mv ?_
    refine q_g (Yld.bin rfl rfl (BinV.eqlPN u33)) (q_q Yld.pk ?_)
    exact q_m
   ·
    intro hg56
    refine q_gs (q_gs (q_q Yld.pk ?_))
    exact q_m
   refine q_q q_mv ?_
   refine' q_or 60 65 5 [3, 4, 5, 11, 12, 14, 15, 16, 54, 55, 59] [0, 1, 105, 112, 150, 151, 152, 153, 161, 162, 163, 164, 170, 171, 172, 173] ?_ ?_ ?_
   rotate_left 1
   ·
    intro hg60
    refine q_g q_mv ?_
    refine RL.ge rfl rfl (q_c ent30 [1, 170, 171, 172, 173] [1, 170, 171, 172, 173] (save_ct m H1 hM mach b2 _ x2 hx2c (hsok.cs []))) rfl ?_
    rintro _ _ ⟨_, ⟨rfl, rfl⟩, rfl⟩
    refine q_g q_mv (q_g (q_b BinV.neqS) (q_q Yld.pk ?_))
    exact q_m
   ·
    intro hg60
    repeat refine q_gs ?_
    refine q_q Yld.pk ?_
    exact q_m
   refine q_nn (q_k [3, 4, 5, 11, 12, 14, 15, 65] [0, 1, 105, 112, 150, 151, 152, 153, 161, 162, 163, 164, 170, 171, 172, 173] ?_)
   refine W.cond rfl (fun hc65 => ?_) (fun hc65 => ?_)
   ·
    exfalso
    have hsv0 : saveP mach { (runP m mach l) with cs := [] } = saveP mach (runP m mach l) := rfl
    rw [hsv0] at hc65
    simp at hc65 --stop
   ·
    have hy2 : Rt.In { y.setC none 0 [] emp with HC := y.HC } := ⟨hy.u, hy.s, hy.v, (Own.nil 38 4).sl.mono (fun _ _ h => nomatch h)⟩
    have hys2 : Rt.Is { y.setC none 0 [] emp with HC := y.HC } { (runP m mach l) with cs := [] } := ⟨hys.us, hys.gn, hys.st, hys.va, rfl⟩
    refine W.skip (N.next (q_sr (q_q (q_fa fo59_5) (q_s 112 sz57 ?_))))
    refine q_nn (W.seq (q_sr (q_q (q_lw 105 u29 sz29) (q_q q_mv (q_q (q_lw 112 u59 sz59) ?_)))))
    refine q_e (q_c ent29 [1, 170, 171, 172, 173, 161, 162, 163, 164] [1, 170, 171, 172, 173, 161, 162, 163, 164] (same_ct m H1 hM mach b2 { (runP m mach l) with cs := [] } x2 hx2c { y.setC none 0 [] emp with HC := y.HC } hy2 hys2 hv l.length (by omega) hsi.off)) ?_
    rintro _ _ ⟨_, ⟨rfl, rfl⟩, rfl⟩
    refine q_q Yld.nt (q_nn (q_k [3, 4, 5, 11, 12, 14, 15, 71] [0, 1, 105, 112, 150, 151, 152, 153, 161, 162, 163, 164, 170, 171, 172, 173] ?_))
    first | (refine W.as (t := 71) rfl (boolF (by first | assumption | omega | (simp; done))) ?_; refine W.condF rfl ?_) | refine W.condF rfl ?_
    refine W.skip (N.next (W.seq (q_sr (q_q q_mv (q_q (q_n u30) (q_q q_mv (q_nn (W.block ?_))))))))
    refine W.loopK (ι := RK) (fun z => (z.j ≤ l2.length ∧ z.x.Is ((l2.take z.j).foldl (stepP m mach) { (runP m mach l) with cs := [] }) ∧ z.y.In ∧ z.y.Is ((l2.take z.j).foldl (stepP m mach) { (runP m mach l) with cs := [] }) ∧ SI m mach (l.length + z.j) ((l2.take z.j).foldl (stepP m mach) { (runP m mach l) with cs := [] }))) (fun z => [(74, .int .i64 (z.j : Nat))]) (fun z => [(112, single b12 (.cells [.int .i64 mach, .slice z.y.pu z.y.us.length z.y.cu, .int .i64 z.y.gen, .slice z.y.ps z.y.st.length z.y.cs, .slice z.y.pv z.y.va.length z.y.cv, .slice z.y.pc z.y.cl.length z.y.cc].toArray 59 (0, 0))), (161, z.y.HU), (162, z.y.HS), (163, z.y.HV), (164, z.y.HC), (170, single b2 (.cells [.slice m.psi m.si.length m.csi, .slice m.pfe m.fe.length m.cfe, .slice m.prk m.rk.length m.crk, .slice m.pmc m.mc.length m.cmc, .slice m.pln m.ln.length m.cln, .slice m.pis m.is.length m.cis, .int .i64 m.da, .int .i64 m.sl, .int .i64 m.re, .int .i64 m.fa, .slice m.prl m.rl.length m.crl, .int .i64 mach, .slice z.x.pu z.x.nu z.x.cu, .slice z.x.pc z.x.nc z.x.cc, .int .i64 z.x.gen, .map (some z.x.d)].toArray 82 (0, 0))), (171, z.x.HU), (172, z.x.HC), (173, single z.x.d (.map z.x.es z.x.ck))]) (fun z => l2.length - z.j) (.of [4, 5, 11, 12, 14, 15, 72, 73] rfl) (.of [0, 1, 105, 150, 151, 152, 153] rfl) ⟨0, x2, { y.setC none 0 [] emp with HC := y.HC }⟩ ?_ ?_ ?_ ?_
    · exact ⟨Nat.zero_le _, hx2c, hy2, hys2, hsi.off⟩
    · exact (q_a .nil)
    · exact (.to rfl)
    rintro z ⟨hj, hzx, hzy, hzys, hzi⟩
    refine q_k [74, 4, 5, 11, 12, 14, 15, 72, 73] [112, 161, 162, 163, 164, 170, 171, 172, 173, 0, 1, 105, 150, 151, 152, 153] ?_
    refine q_sr (q_q (q_b BinV.lss) (q_nn (W.seq ?_)))
    first | refine W.condD rfl (fun hc75 => ?_) (fun hc75 => ?_) | (refine W.cond rfl (fun hc75 => ?_) (fun hc75 => ?_) <;> try simp only [Bool.or_eq_true, Bool.and_eq_true, Bool.not_eq_true', Bool.not_eq_false', decide_eq_true_eq, Bool.or_eq_false_iff, Bool.and_eq_false_iff, decide_eq_false_iff_not, beq_iff_eq, beq_eq_false_iff_ne, ne_eq, Decidable.not_not] at hc75)
    ·
     obtain ⟨o, ho⟩ : ∃ o, l2[z.j]? = some o := ⟨_, List.getElem?_eq_getElem (show z.j < l2.length by omega)⟩
     have hlo : (l2.map Opn.cs)[z.j]? = some o.cs := by simp [ho]
     refine W.skip (N.next (W.seq (W.block (q_sr ?_))))
     refine q_q (q_ix u30 sz40) ?_
     refine q_q (by first | exact q_rA 1 u40 sz40 | exact q_rA 105 u40 sz40 | exact q_rA 150 u40 sz40 | exact q_rA 151 u40 sz40 | exact q_rA 152 u40 sz40 | exact q_rA 153 u40 sz40 | exact q_rA 112 u40 sz40 | exact q_rA 161 u40 sz40 | exact q_rA 162 u40 sz40 | exact q_rA 163 u40 sz40 | exact q_rA 164 u40 sz40 | exact q_rA 170 u40 sz40 | exact q_rA 171 u40 sz40 | exact q_rA 172 u40 sz40 | exact q_rA 173 u40 sz40) ?_
     refine q_al 118 zc40 fun b18 => ?_
     refine q_s 118 sz40 ?_
     refine q_nn (q_sr (q_q (q_lw 105 u29 sz29) (q_q q_mv (q_q (q_lw 112 u59 sz59) (q_q (q_lw 118 u40 sz40) ?_)))))
     refine q_e (Eff.call ent32 [1, 170, 171, 172, 173, 161, 162, 163, 164] [1, 170, 171, 172, 173, 161, 162, 163, 164] (.cons rfl (.cons rfl (.cons rfl (.cons rfl .nil)))) (step_ct m H1 hM mach b2 _ z.x hzx z.y hzy hzys o hv (l.length + z.j) (by omega) hzi (hR2 o (List.mem_of_getElem? ho))) rfl rfl rfl rfl (by rintro _ _ ⟨_, _, _, _, _, _, _, _, rfl⟩; rfl)) ?_
     rintro _ _ ⟨_, ⟨x4, y4, _, rfl, rfl, hx4, hy4, hys4, rfl⟩, rfl⟩
     have hsi4 := hzi.step (o := o) (hR2 o (List.mem_of_getElem? ho))
     rw [← fold_take ho] at hx4 hys4 hsi4
     refine q_q q_mv (q_q q_x (q_q q_x (q_s 112 sz59 ?_)))
     refine q_an ?_
     refine q_k [4, 5, 11, 12, 13, 14, 15, 72, 73, 74] [0, 1, 105, 112, 118, 150, 151, 152, 153, 161, 162, 163, 164, 170, 171, 172, 173] ?_
     refine q_sr (q_q q_mv (q_q Yld.nt (q_nn ?_)))
     first | (refine W.as (t := 87) rfl (boolF (by first | assumption | omega | (simp; done))) ?_; refine W.condF rfl ?_) | refine W.condF rfl ?_
     refine W.skip (N.block_normal (N.next (W.region ?_)))
     refine q_q q_ad (q_q q_mv (RL.nil ?_))
     exact N.famK ⟨z.j + 1, x4, y4⟩ ⟨⟨by dsimp only; omega, hx4, hy4, hys4, hsi4⟩, by dsimp only; omega⟩ (q_a .nil) (.to rfl) (.to rfl) (.to rfl)
    ·
     refine W.exit (N.then_exit (N.then_exit (N.block_eq (N.next (q_k [4, 5, 11, 12, 14, 15] [0, 1, 105, 112, 150, 151, 152, 153, 161, 162, 163, 164, 170, 171, 172, 173] ?_)))))
     refine W.seq (q_sr (q_q (q_lw 105 u29 sz29) (q_q q_mv (q_q (q_lw 112 u59 sz59) ?_))))
     refine q_e (Eff.call ent29 [1, 170, 171, 172, 173, 161, 162, 163, 164] [1, 170, 171, 172, 173, 161, 162, 163, 164] (.cons rfl (.cons rfl (.cons rfl .nil))) (same_ct m H1 hM mach b2 _ z.x hzx z.y hzy hzys hv (l.length + z.j) (by omega) hzi) rfl rfl rfl rfl (by rintro _ _ ⟨_, rfl⟩; rfl)) ?_
     rintro _ _ ⟨_, ⟨rfl, rfl⟩, rfl⟩
     refine q_q Yld.nt (q_q q_mv ?_)
     refine' q_or 94 99 5 [4, 5, 11, 12, 14, 15, 89, 90, 91, 92, 93] [0, 1, 105, 112, 150, 151, 152, 153, 161, 162, 163, 164, 170, 171, 172, 173] ?_ ?_ ?_
     rotate_left 1
     ·
      intro hg94
      refine q_g q_mv ?_
      refine RL.ge rfl rfl (q_c ent30 [1, 150, 151, 152, 153] [1, 150, 151, 152, 153] (save_ct m H1 hM mach bt _ x hx hsok)) rfl ?_
      rintro _ _ ⟨_, ⟨rfl, rfl⟩, rfl⟩
      refine q_g q_mv (q_g (q_b BinV.neqS) (q_q Yld.pk ?_))
      exact q_m
     ·
      intro hg94
      repeat refine q_gs ?_
      refine q_q Yld.pk ?_
      exact q_m
     refine q_nn (q_k [4, 5, 99] [0, 1, 105, 112, 150, 151, 152, 153, 161, 162, 163, 164, 170, 171, 172, 173] ?_)
     refine W.cond rfl (fun hc99 => ?_) (fun hc99 => ?_)
     ·
      exfalso
      simp at hc99 --stop
     ·
      refine W.skip (N.next (q_sr (q_q (q_lw 105 u29 sz29) (q_q q_mv ?_))))
      refine q_e (q_c ent31 [1] [1, 180, 181, 182, 183] (load_ct m H1 hM hT hv st (by omega))) ?_
      rintro _ _ ⟨_, ⟨p3, e3, b3, x3, P1, P2, P3, P4, rfl, hres3, rfl⟩, rfl⟩
      refine q_q q_mv (q_q q_x (q_q q_x (q_q q_as (q_an ?_))))
      refine q_k [4, 16, 19] [0, 1, 105, 112, 150, 151, 152, 153, 161, 162, 163, 164, 170, 171, 172, 173, 180, 181, 182, 183] ?_
      refine W.seq (q_sr (q_q q_mv (q_q (q_b BinV.neq) (q_nn ?_))))
      first | refine W.condD rfl (fun hc107 => ?_) (fun hc107 => ?_) | (refine W.cond rfl (fun hc107 => ?_) (fun hc107 => ?_) <;> try simp only [Bool.or_eq_true, Bool.and_eq_true, Bool.not_eq_true', Bool.not_eq_false', decide_eq_true_eq, Bool.or_eq_false_iff, Bool.and_eq_false_iff, decide_eq_false_iff_not, beq_iff_eq, beq_eq_false_iff_ne, ne_eq, Decidable.not_not] at hc107)
      ·
       obtain ⟨rfl, rfl, _⟩ := hres3.resolve_left (fun h => hc107 h.1)
       refine q_sr (q_q q_mv (q_q (q_b BinV.eql) (q_q q_mv ?_)))
       first | refine RL.as (t := 110) rfl (boolT (by first | assumption | omega | (simp; done))) ?_ | refine RL.as (t := 110) (v := .bool true) rfl rfl ?_
       refine q_g q_mv ?_
       refine q_g (Yld.bin rfl rfl (BinV.eqlPN u33)) (q_q Yld.pk (q_q q_mv ?_))
       first | refine RL.as (t := 114) rfl (boolT (by first | assumption | omega | (simp; done))) ?_ | refine RL.as (t := 114) (v := .bool true) rfl rfl ?_
       refine RL.ge rfl rfl (q_c ent12 [1] [1] (awake_ct H1 hT)) rfl ?_
       rintro _ _ ⟨_, ⟨rfl, rfl⟩, rfl⟩
       refine q_q Yld.pk (q_an ?_)
       refine q_k [10] [0, 1, 105, 112, 150, 151, 152, 153, 161, 162, 163, 164, 170, 171, 172, 173, 180, 181, 182, 183] ?_
       refine W.ret (N.then_ret ?_)
       exact q_r [1] (.cons (.tmp rfl) .nil) rfl rfl rfl ⟨rfl, rfl⟩
      ·
       obtain ⟨rfl, rfl, _, _, hx3, hs3, hsv3, rfl, rfl, rfl, rfl⟩ := hres3.resolve_right (fun h => hc107 (by rw [h.1]; decide))
       refine W.skip (N.next (q_sr (q_q q_mv ?_)))
       refine q_q (Yld.bin rfl rfl (BinV.neqPN u33)) (q_q q_mv ?_)
       first | refine RL.as (t := 119) rfl (boolT (by first | assumption | omega | (simp; done))) ?_ | refine RL.as (t := 119) (v := .bool true) rfl rfl ?_
       refine q_g q_mv ?_
       refine RL.ge rfl rfl (q_c ent30 [1, 180, 181, 182, 183] [1, 180, 181, 182, 183] (save_ct m H1 hM (loadM (nums st)) b3 _ x3 hx3 hs3)) rfl ?_
       rintro _ _ ⟨_, ⟨rfl, rfl⟩, rfl⟩
       refine q_g q_mv (q_g (q_b BinV.eqlS) (q_q Yld.pk (q_q q_mv ?_)))
       first | refine RL.as (t := 125) rfl (boolT (by first | assumption | omega | (simp; done))) ?_ | refine RL.as (t := 125) (v := .bool true) rfl rfl ?_
       refine RL.ge rfl rfl (q_c ent12 [1] [1] (awake_ct H1 hT)) rfl ?_
       rintro _ _ ⟨_, ⟨rfl, rfl⟩, rfl⟩
       refine q_q Yld.pk (q_an ?_)
       refine q_k [10] [0, 1, 105, 112, 150, 151, 152, 153, 161, 162, 163, 164, 170, 171, 172, 173, 180, 181, 182, 183] ?_
       refine W.ret ?_
       exact q_r [1] (.cons (.tmp rfl) .nil) rfl rfl rfl ⟨rfl, rfl⟩
end Go.Proofs.YtboapdcmaeojgaaGreatDoor
