/- Several texts in one, in their build order: what the proofs of this seat share. -/
import Derived.Test.YtboapdcmaeojgaaGreatDoorPO5
set_option linter.unusedVariables false
set_option linter.unusedSimpArgs false
set_option linter.unusedSectionVars false
namespace Go.Proofs.YtboapdcmaeojgaaGreatDoor
open SL Cat Fen
set_option linter.unusedVariables false
set_option linter.unusedSimpArgs false
theorem fo40_0 : fieldOff Tryz.prog 40 0 = some 0 := by kernel_rfl
theorem fo40_1 : fieldOff Tryz.prog 40 1 = some 1 := by kernel_rfl
theorem fo40_2 : fieldOff Tryz.prog 40 2 = some 2 := by kernel_rfl
theorem fo40_3 : fieldOff Tryz.prog 40 3 = some 3 := by kernel_rfl
theorem ent62 : Ent Tryz.prog 62 := ⟨_, _, Tryz.func62, by kernel_rfl, rfl⟩
theorem fo40_4 : fieldOff Tryz.prog 40 4 = some 7 := by kernel_rfl
theorem ent63 : Ent Tryz.prog 63 := ⟨_, _, Tryz.func63, by kernel_rfl, rfl⟩
theorem ent26 : Ent Tryz.prog 26 := ⟨_, _, Tryz.func26, by kernel_rfl, rfl⟩
theorem ent64 : Ent Tryz.prog 64 := ⟨_, _, Tryz.func64, by kernel_rfl, rfl⟩
theorem ent27 : Ent Tryz.prog 27 := ⟨_, _, Tryz.func27, by kernel_rfl, rfl⟩
theorem ent28 : Ent Tryz.prog 28 := ⟨_, _, Tryz.func28, by kernel_rfl, rfl⟩
set_option maxRecDepth 100000 in
set_option maxHeartbeats 1600000 in
theorem step_ct (m : Md) (H1 : PH) (hM : m.In H1) (mach : Int) (b : Nat) (t : T) (x : Tb) (hx : x.Is t) (y : Rt) (hy : y.In) (hyt : y.Is t) (o : Opn) (hv : MdV m) (k : Nat) (hk : k ≤ 1000) (hs : SI m mach k t) (hrp : o.c.rp ≤ 9223372036854775807) : Ct Tryz.prog 32 [.agg [.slice m.psi m.si.length m.csi, .slice m.pfe m.fe.length m.cfe, .slice m.prk m.rk.length m.crk, .slice m.pmc m.mc.length m.cmc, .slice m.pln m.ln.length m.cln, .slice m.pis m.is.length m.cis, .int .i64 m.da, .int .i64 m.sl, .int .i64 m.re, .int .i64 m.fa, .slice m.prl m.rl.length m.crl].toArray, .pointer (some ⟨b, 0, none⟩), .agg [.int .i64 mach, .slice y.pu y.us.length y.cu, .int .i64 y.gen, .slice y.ps y.st.length y.cs, .slice y.pv y.va.length y.cv, .slice y.pc y.cl.length y.cc].toArray, .agg o.cs.toArray] [H1, single b (.cells [.slice m.psi m.si.length m.csi, .slice m.pfe m.fe.length m.cfe, .slice m.prk m.rk.length m.crk, .slice m.pmc m.mc.length m.cmc, .slice m.pln m.ln.length m.cln, .slice m.pis m.is.length m.cis, .int .i64 m.da, .int .i64 m.sl, .int .i64 m.re, .int .i64 m.fa, .slice m.prl m.rl.length m.crl, .int .i64 mach, .slice x.pu x.nu x.cu, .slice x.pc x.nc x.cc, .int .i64 x.gen, .map (some x.d)].toArray 82 (0, 0)), x.HU, x.HC, single x.d (.map x.es x.ck), y.HU, y.HS, y.HV, y.HC] (fun v Hs => ∃ (x2 : Tb) (y2 : Rt) (bb : Bool), v = .tuple [.agg [.int .i64 mach, .slice y2.pu y2.us.length y2.cu, .int .i64 y2.gen, .slice y2.ps y2.st.length y2.cs, .slice y2.pv y2.va.length y2.cv, .slice y2.pc y2.cl.length y2.cc].toArray, .bool bb].toArray ∧ bb = true ∧ x2.Is (stepP m mach t o) ∧ y2.In ∧ y2.Is (stepP m mach t o) ∧ Hs = [H1, single b (.cells [.slice m.psi m.si.length m.csi, .slice m.pfe m.fe.length m.cfe, .slice m.prk m.rk.length m.crk, .slice m.pmc m.mc.length m.cmc, .slice m.pln m.ln.length m.cln, .slice m.pis m.is.length m.cis, .int .i64 m.da, .int .i64 m.sl, .int .i64 m.re, .int .i64 m.fa, .slice m.prl m.rl.length m.crl, .int .i64 mach, .slice x2.pu x2.nu x2.cu, .slice x2.pc x2.nc x2.cc, .int .i64 x2.gen, .map (some x2.d)].toArray 82 (0, 0)), x2.HU, x2.HC, single x2.d (.map x2.es x2.ck), y2.HU, y2.HS, y2.HV, y2.HC]) := by
  refine Ct.body Tryz.func32 rfl Tryz.ntmps32 rfl ?_
  intro E F
  have hk1 := hs.us
  have hk2 := hs.cs
  have hk3 := hs.dn
  refine W.seq (W.region ?_)
  refine RL.e (Eff.box 104 _ rfl rfl) rfl ?_
  rintro _ _ ⟨b4, rfl, rfl⟩
  refine RL.e (Eff.box 106 _ rfl rfl) rfl ?_
  rintro _ _ ⟨b6, rfl, rfl⟩
  refine RL.e (Eff.box 107 _ rfl rfl) rfl ?_
  rintro _ _ ⟨b7, rfl, rfl⟩
  refine RL.e (Eff.alloc 108 zc59) rfl ?_
  rintro _ _ ⟨b8, rfl, rfl⟩
  refine RL.q (Yld.assign rfl) rfl (RL.nil (N.next ?_))
  refine W.keep (.of [1, 4, 6, 7, 8] rfl) (.of [0, 1, 2, 3, 4, 5, 6, 7, 8, 9, 104, 106, 107, 108] rfl) ?_
  refine W.seq ?_
  refine W.seq (W.region ?_)
  refine RL.q (Yld.fieldAddr fo40_0 rfl) rfl ?_
  refine RL.q (Yld.ld 107 Tryz.underlying3 rfl rfl rfl rfl) rfl ?_
  refine RL.nil (N.next ?_)
  refine W.block ?_
  refine W.seq (W.region ?_)
  refine RL.q (Yld.bin rfl rfl BinV.eql) rfl ?_
  refine RL.q (Yld.assign rfl) rfl (RL.nil (N.next ?_))
  first | refine W.condD rfl (fun hc21 => ?_) (fun hc21 => ?_) | (refine W.cond rfl (fun hc21 => ?_) (fun hc21 => ?_) <;> try simp only [Bool.or_eq_true, Bool.and_eq_true, Bool.not_eq_true', Bool.not_eq_false', decide_eq_true_eq, Bool.or_eq_false_iff, Bool.and_eq_false_iff, decide_eq_false_iff_not, beq_iff_eq, beq_eq_false_iff_ne, ne_eq, Decidable.not_not] at hc21)
  ·
   have hst : (stepP m mach t o) = (doP (kdOf m o.c.it) mach t o.g o.s o.c).1 := by unfold stepP; rw [if_pos hc21]
   refine W.seq (W.region ?_)
   refine RL.q (Yld.ldW 104 Tryz.underlying29 sz29 rfl rfl rfl rfl) rfl ?_
   refine RL.q (Yld.ldW 106 Tryz.underlying59 sz59 rfl rfl rfl rfl) rfl ?_
   refine RL.q (Yld.fieldAddr fo40_1 rfl) rfl ?_
   refine RL.q (Yld.ld 107 Tryz.underlying3 rfl rfl rfl rfl) rfl ?_
   refine RL.q (Yld.fieldAddr fo40_2 rfl) rfl ?_
   refine RL.q (Yld.ld 107 Tryz.underlying3 rfl rfl rfl rfl) rfl ?_
   refine RL.q (Yld.fieldAddr fo40_3 rfl) rfl ?_
   refine RL.q (Yld.ldA 107 Tryz.underlying36 sz36 rfl rfl rfl rfl rfl) rfl ?_
   refine RL.e (Eff.call ent62 [1, 6, 7, 8, 9] [1, 6, 7, 8, 9] (.cons rfl (.cons rfl (.cons rfl (.cons rfl (.cons rfl .nil))))) (rdo_ct m H1 hM y mach hy t hyt o.g o.s o.c hs.ti (by omega) (by omega)) rfl rfl rfl rfl (by rintro _ _ ⟨_, _, _, _, _, rfl⟩; rfl)) rfl ?_
   rintro _ _ ⟨_, ⟨y2, rfl, hy2, hys2, rfl⟩, rfl⟩
   refine RL.q (Yld.move rfl) rfl ?_
   refine RL.q (Yld.extract rfl rfl) rfl ?_
   refine RL.q (Yld.extract rfl rfl) rfl ?_
   refine RL.q (Yld.extract rfl rfl) rfl ?_
   refine RL.e (Eff.alloc 110 zc59) rfl ?_
   rintro _ _ ⟨b10, rfl, rfl⟩
   refine RL.e0 (Eff.storeS (c := 110) _ sz59 rfl rfl rfl rfl rfl rfl rfl (by (try simp only [putAt, List.take, List.drop, List.nil_append, List.cons_append, List.append_nil, List.length_cons, List.length_nil, Nat.add_zero, Nat.zero_add, Nat.reduceAdd]); rfl)) ?_
   rintro _ _ rfl
   refine RL.q (Yld.assign rfl) rfl (RL.q (Yld.assign rfl) rfl (RL.nil (N.next ?_)))
   refine W.keep (.of [1, 7, 8, 10, 11, 12] rfl) (.of [0, 1, 2, 3, 4, 5, 6, 7, 8, 9, 104, 106, 107, 108, 110] rfl) ?_
   refine W.seq (W.region ?_)
   refine RL.q (Yld.move rfl) rfl ?_
   refine RL.q (Yld.fieldAddr fo40_1 rfl) rfl ?_
   refine RL.q (Yld.ld 107 Tryz.underlying3 rfl rfl rfl rfl) rfl ?_
   refine RL.q (Yld.fieldAddr fo40_2 rfl) rfl ?_
   refine RL.q (Yld.ld 107 Tryz.underlying3 rfl rfl rfl rfl) rfl ?_
   refine RL.q (Yld.fieldAddr fo40_3 rfl) rfl ?_
   refine RL.q (Yld.ldA 107 Tryz.underlying36 sz36 rfl rfl rfl rfl rfl) rfl ?_
   refine RL.e (Eff.call ent15 [1, 2, 3, 4, 5] [1, 2, 3, 4, 5] (.cons rfl (.cons rfl (.cons rfl (.cons rfl .nil)))) (do_ct m H1 hM mach b t x hx o.g o.s o.c hv hs.ti hrp (by omega)) rfl rfl rfl rfl (by rintro _ _ ⟨_, _, _, rfl⟩; rfl)) rfl ?_
   rintro _ _ ⟨_, ⟨x2, rfl, hx2, rfl⟩, rfl⟩
   refine RL.q (Yld.move rfl) rfl ?_
   refine RL.q (Yld.extract rfl rfl) rfl ?_
   refine RL.q (Yld.extract rfl rfl) rfl ?_
   refine RL.q (Yld.assign rfl) rfl (RL.q (Yld.assign rfl) rfl (RL.nil (N.next ?_)))
   refine W.keep (.of [8, 10, 11, 12, 13, 14] rfl) (.of [0, 1, 2, 3, 4, 5, 6, 7, 8, 9, 104, 106, 107, 108, 110] rfl) ?_
   refine W.seq (W.region ?_)
   refine RL.q (Yld.ldW 110 Tryz.underlying59 sz59 rfl rfl rfl rfl) rfl ?_
   refine RL.q (Yld.move rfl) rfl (RL.q (Yld.move rfl) rfl ?_)
   refine RL.q (Yld.bin rfl rfl BinV.eql) rfl ?_
   refine RL.q (Yld.move rfl) rfl ?_
   refine' RL.and (t := 51) (d := 55) 4 rfl (.of [8, 10, 11, 12, 13, 14, 47, 48, 49, 50] rfl) (.of [0, 1, 2, 3, 4, 5, 6, 7, 8, 9, 104, 106, 107, 108, 110] rfl) ?_ ?_ ?_
   rotate_left 1
   ·
    intro hg51
    refine RL.gq rfl rfl (Yld.move rfl) rfl ?_
    refine RL.gq rfl rfl (Yld.move rfl) rfl ?_
    refine RL.gq rfl rfl (Yld.bin rfl rfl BinV.eql) rfl ?_
    refine RL.q Yld.pk rfl ?_
    exact RL.nil (N.meet (.to rfl) (.to rfl))
   ·
    intro hg51
    refine RL.gskip rfl rfl rfl rfl ?_
    refine RL.gskip rfl rfl rfl rfl ?_
    refine RL.gskip rfl rfl rfl rfl ?_
    refine RL.q Yld.pk rfl ?_
    exact RL.nil (N.meet (.to rfl) (.to rfl))
   refine RL.e0 (Eff.storeS (c := 108) _ sz59 rfl rfl rfl rfl rfl rfl rfl (by (try simp only [putAt, List.take, List.drop, List.nil_append, List.cons_append, List.append_nil, List.length_cons, List.length_nil, Nat.add_zero, Nat.zero_add, Nat.reduceAdd]); rfl)) ?_
   rintro _ _ rfl
   refine RL.q (Yld.assign rfl) rfl (RL.nil (N.next ?_))
   refine W.keep (.of [8, 9] rfl) (.of [0, 1, 2, 3, 4, 5, 6, 7, 8, 9, 104, 106, 107, 108, 110] rfl) ?_
   refine W.ret ?_
   refine N.block_ret ?_
   refine N.then_ret ?_
   exact N.retBy [1, 2, 3, 4, 5, 6, 7, 8, 9] (.cons (by first | exact .cell (c := 108) rfl rfl (fun w hs => run_loadVarA Tryz.underlying59 rfl sz59 rfl (fun j u hj => by rw [Nat.zero_add, PH.sub.cell hs (by first | exact single_self _ _ | exact pset_self _ _ _ | assumption)]; exact hj))) (.cons (.tmp rfl) .nil)) rfl rfl rfl rfl ⟨x2, y2, _, rfl, by simp, by rw [hst]; exact hx2, hy2, by rw [hst]; exact hys2, rfl⟩
  ·
   refine W.seq (W.region ?_)
   refine RL.q (Yld.bin rfl rfl BinV.eql) rfl ?_
   refine RL.q (Yld.assign rfl) rfl (RL.nil (N.next ?_))
   refine W.keep (.of [1, 4, 6, 7, 8, 20, 56] rfl) (.of [0, 1, 2, 3, 4, 5, 6, 7, 8, 9, 104, 106, 107, 108] rfl) ?_
   first | refine W.condD rfl (fun hc56 => ?_) (fun hc56 => ?_) | (refine W.cond rfl (fun hc56 => ?_) (fun hc56 => ?_) <;> try simp only [Bool.or_eq_true, Bool.and_eq_true, Bool.not_eq_true', Bool.not_eq_false', decide_eq_true_eq, Bool.or_eq_false_iff, Bool.and_eq_false_iff, decide_eq_false_iff_not, beq_iff_eq, beq_eq_false_iff_ne, ne_eq, Decidable.not_not] at hc56)
   ·
    have hst : (stepP m mach t o) = (beginP (kdOf m o.cl.it) t o.cl).1 := by unfold stepP; rw [if_neg hc21, if_pos hc56]
    refine W.seq (W.region ?_)
    refine RL.q (Yld.ldW 104 Tryz.underlying29 sz29 rfl rfl rfl rfl) rfl ?_
    refine RL.q (Yld.ldW 106 Tryz.underlying59 sz59 rfl rfl rfl rfl) rfl ?_
    refine RL.q (Yld.fieldAddr fo40_4 rfl) rfl ?_
    refine RL.q (Yld.ldA 107 Tryz.underlying38 sz38 rfl rfl rfl rfl rfl) rfl ?_
    refine RL.e (Eff.call ent63 [1, 6, 7, 8, 9] [1, 6, 7, 8, 9] (.cons rfl (.cons rfl (.cons rfl .nil))) (rbegin_ct m H1 hM y mach hy t hyt o.cl (by omega)) rfl rfl rfl rfl (by rintro _ _ ⟨_, _, _, _, _, rfl⟩; rfl)) rfl ?_
    rintro _ _ ⟨_, ⟨y2, rfl, hy2, hys2, rfl⟩, rfl⟩
    refine RL.q (Yld.move rfl) rfl ?_
    refine RL.q (Yld.extract rfl rfl) rfl ?_
    refine RL.q (Yld.extract rfl rfl) rfl ?_
    refine RL.e (Eff.alloc 115 zc59) rfl ?_
    rintro _ _ ⟨b15, rfl, rfl⟩
    refine RL.e0 (Eff.storeS (c := 115) _ sz59 rfl rfl rfl rfl rfl rfl rfl (by (try simp only [putAt, List.take, List.drop, List.nil_append, List.cons_append, List.append_nil, List.length_cons, List.length_nil, Nat.add_zero, Nat.zero_add, Nat.reduceAdd]); rfl)) ?_
    rintro _ _ rfl
    refine RL.q (Yld.assign rfl) rfl (RL.nil (N.next ?_))
    refine W.keep (.of [1, 7, 8, 15, 16] rfl) (.of [0, 1, 2, 3, 4, 5, 6, 7, 8, 9, 104, 106, 107, 108, 115] rfl) ?_
    refine W.seq ?_
    refine W.draw (.q 0 (.q 1 (.q 2 (.q 3 (.q 5 (.one 4 (.q 6 (.one 7 (.q 8 .done))))))))) (.of [0, 6, 7, 8, 9, 104, 106, 107, 115] rfl) mix (by kernel_rfl) (by kernel_rfl) ?_
    refine DL.q rfl (Yld.ldW 115 Tryz.underlying59 sz59 rfl rfl rfl rfl) rfl ?_
    refine DL.q rfl (Yld.move rfl) rfl ?_
    refine DL.q rfl (Yld.fieldAddr fo40_4 rfl) rfl ?_
    refine DL.q rfl (Yld.ldA 107 Tryz.underlying38 sz38 rfl rfl rfl rfl rfl) rfl ?_
    refine DL.q rfl (Yld.move rfl) rfl ?_
    refine DL.one rfl (Eff.call ent26 [1, 2, 3, 4, 5] [1, 2, 3, 4, 5] (.cons rfl (.cons rfl .nil)) (begin_ct m H1 hM mach b t x hx o.cl (by omega)) rfl rfl rfl rfl (by rintro _ _ ⟨_, _, _, rfl⟩; rfl)) rfl (by rintro _ _ ⟨_, ⟨x2, rfl, hx2, rfl⟩, rfl⟩; repeat (first | exact .nil | refine .cons rfl ?_)) ?_
    rintro _ _ ⟨_, ⟨x2, rfl, hx2, rfl⟩, rfl⟩
    refine DL.q rfl (Yld.bin rfl rfl BinV.eql) rfl ?_
    refine DL.one0 rfl (Eff.storeS (c := 108) _ sz59 rfl rfl rfl rfl rfl rfl rfl (by (try simp only [putAt, List.take, List.drop, List.nil_append, List.cons_append, List.append_nil, List.length_cons, List.length_nil, Nat.add_zero, Nat.zero_add, Nat.reduceAdd]); rfl)) (by rintro _ _ rfl; repeat (first | exact .nil | refine .cons rfl ?_)) ?_
    rintro _ _ rfl
    refine DL.q rfl (Yld.assign rfl) rfl ?_
    refine DL.done ?_
    refine N.next ?_
    refine W.keep (.of [8, 9] rfl) (.of [0, 1, 2, 3, 4, 5, 6, 7, 8, 9, 104, 106, 107, 108, 115] rfl) ?_
    refine W.ret ?_
    refine N.block_ret ?_
    refine N.then_ret ?_
    exact N.retBy [1, 2, 3, 4, 5, 6, 7, 8, 9] (.cons (by first | exact .cell (c := 108) rfl rfl (fun w hs => run_loadVarA Tryz.underlying59 rfl sz59 rfl (fun j u hj => by rw [Nat.zero_add, PH.sub.cell hs (by first | exact single_self _ _ | exact pset_self _ _ _ | assumption)]; exact hj))) (.cons (.tmp rfl) .nil)) rfl rfl rfl rfl ⟨x2, y2, _, rfl, by simp, by rw [hst]; exact hx2, hy2, by rw [hst]; exact hys2, rfl⟩
   ·
    refine W.seq (W.region ?_)
    refine RL.q (Yld.bin rfl rfl BinV.eql) rfl ?_
    refine RL.q (Yld.assign rfl) rfl (RL.nil (N.next ?_))
    first | refine W.condD rfl (fun hc73 => ?_) (fun hc73 => ?_) | (refine W.cond rfl (fun hc73 => ?_) (fun hc73 => ?_) <;> try simp only [Bool.or_eq_true, Bool.and_eq_true, Bool.not_eq_true', Bool.not_eq_false', decide_eq_true_eq, Bool.or_eq_false_iff, Bool.and_eq_false_iff, decide_eq_false_iff_not, beq_iff_eq, beq_eq_false_iff_ne, ne_eq, Decidable.not_not] at hc73)
    ·
     have hst : (stepP m mach t o) = tickP (kdOf m) t := by unfold stepP; rw [if_neg hc21, if_neg hc56, if_pos hc73]
     refine W.seq (W.region ?_)
     refine RL.q (Yld.ldW 104 Tryz.underlying29 sz29 rfl rfl rfl rfl) rfl ?_
     refine RL.q (Yld.ldW 106 Tryz.underlying59 sz59 rfl rfl rfl rfl) rfl ?_
     refine RL.e (Eff.call ent64 [1, 6, 7, 8, 9] [1, 6, 7, 8, 9, 170] (.cons rfl (.cons rfl .nil)) (rtick_ct m H1 hM y mach hy t hyt (by omega)) rfl rfl rfl rfl (by rintro _ _ ⟨_, _, _, _, _, rfl⟩; rfl)) rfl ?_
     rintro _ _ ⟨_, ⟨y2, rfl, hy2, hys2, rfl⟩, rfl⟩
     refine RL.q (Yld.move rfl) rfl ?_
     refine RL.q (Yld.extract rfl rfl) rfl ?_
     refine RL.q (Yld.extract rfl rfl) rfl ?_
     refine RL.e (Eff.alloc 117 zc59) rfl ?_
     rintro _ _ ⟨b17, rfl, rfl⟩
     refine RL.e0 (Eff.storeS (c := 117) _ sz59 rfl rfl rfl rfl rfl rfl rfl (by (try simp only [putAt, List.take, List.drop, List.nil_append, List.cons_append, List.append_nil, List.length_cons, List.length_nil, Nat.add_zero, Nat.zero_add, Nat.reduceAdd]); rfl)) ?_
     rintro _ _ rfl
     refine RL.q (Yld.assign rfl) rfl (RL.nil (N.next ?_))
     refine W.keep (.of [1, 8, 17, 18] rfl) (.of [0, 1, 2, 3, 4, 5, 6, 7, 8, 9, 104, 106, 107, 108, 117, 170] rfl) ?_
     refine W.seq ?_
     refine W.draw (.q 0 (.q 1 (.q 3 (.one 2 (.one 4 (.one 5 (.q 6 .done))))))) (.of [0, 6, 7, 8, 9, 104, 106, 107, 117] rfl) mix (by kernel_rfl) (by kernel_rfl) ?_
     refine DL.q rfl (Yld.ldW 117 Tryz.underlying59 sz59 rfl rfl rfl rfl) rfl ?_
     refine DL.q rfl (Yld.move rfl) rfl ?_
     refine DL.q rfl (Yld.move rfl) rfl ?_
     refine DL.one rfl (Eff.call ent23 [1, 2, 3, 4, 5] [1, 2, 3, 4, 5, 171] (.cons rfl .nil) (tick_ct m H1 hM mach b t x hx) rfl rfl rfl rfl (by rintro _ _ ⟨_, _, _, rfl⟩; rfl)) rfl (by rintro _ _ ⟨_, ⟨x2, rfl, hx2, rfl⟩, rfl⟩; repeat (first | exact .nil | refine .cons rfl ?_)) ?_
     rintro _ _ ⟨_, ⟨x2, rfl, hx2, rfl⟩, rfl⟩
     refine DL.one rfl (Eff.call ent27 [171, 170] [171, 170] (.cons rfl (.cons rfl .nil)) (sameC_ct t.cs y.cl _ _ _ _ _ _ _ _ rfl rfl hx.oc.sl hy.c) rfl rfl rfl rfl (by rintro _ _ ⟨_, rfl⟩; rfl)) rfl (by rintro _ _ ⟨_, ⟨rfl, rfl⟩, rfl⟩; repeat (first | exact .nil | refine .cons rfl ?_)) ?_
     rintro _ _ ⟨_, ⟨rfl, rfl⟩, rfl⟩
     refine DL.one0 rfl (Eff.storeS (c := 108) _ sz59 rfl rfl rfl rfl rfl rfl rfl (by (try simp only [putAt, List.take, List.drop, List.nil_append, List.cons_append, List.append_nil, List.length_cons, List.length_nil, Nat.add_zero, Nat.zero_add, Nat.reduceAdd]); rfl)) (by rintro _ _ rfl; repeat (first | exact .nil | refine .cons rfl ?_)) ?_
     rintro _ _ rfl
     refine DL.q rfl (Yld.assign rfl) rfl ?_
     refine DL.done ?_
     refine N.next ?_
     refine W.keep (.of [8, 9] rfl) (.of [0, 1, 2, 3, 4, 5, 6, 7, 8, 9, 104, 106, 107, 108, 117, 170, 171] rfl) ?_
     refine W.ret ?_
     refine N.block_ret ?_
     refine N.then_ret ?_
     exact N.retBy [1, 2, 3, 4, 5, 6, 7, 8, 9] (.cons (by first | exact .cell (c := 108) rfl rfl (fun w hs => run_loadVarA Tryz.underlying59 rfl sz59 rfl (fun j u hj => by rw [Nat.zero_add, PH.sub.cell hs (by first | exact single_self _ _ | exact pset_self _ _ _ | assumption)]; exact hj))) (.cons (.tmp rfl) .nil)) rfl rfl rfl rfl ⟨x2, y2, _, rfl, by simp [hyt.cl], by rw [hst]; exact hx2, hy2, by rw [hst]; exact hys2, rfl⟩
    ·
     refine W.seq (W.region ?_)
     refine RL.q (Yld.bin rfl rfl BinV.eql) rfl ?_
     refine RL.q (Yld.assign rfl) rfl (RL.nil (N.next ?_))
     refine W.keep (.of [1, 6, 8, 86] rfl) (.of [0, 1, 2, 3, 4, 5, 6, 7, 8, 9, 104, 106, 107, 108] rfl) ?_
     first | refine W.condD rfl (fun hc86 => ?_) (fun hc86 => ?_) | (refine W.cond rfl (fun hc86 => ?_) (fun hc86 => ?_) <;> try simp only [Bool.or_eq_true, Bool.and_eq_true, Bool.not_eq_true', Bool.not_eq_false', decide_eq_true_eq, Bool.or_eq_false_iff, Bool.and_eq_false_iff, decide_eq_false_iff_not, beq_iff_eq, beq_eq_false_iff_ne, ne_eq, Decidable.not_not] at hc86)
     ·
      have hst : (stepP m mach t o) = { t with cs := [] } := by unfold stepP; rw [if_neg hc21, if_neg hc56, if_neg hc73, if_pos hc86]
      refine W.seq (W.region ?_)
      refine RL.q (Yld.move rfl) rfl ?_
      refine RL.e (Eff.call ent28 [1, 2, 3, 4, 5] [1, 2, 3, 4, 5] (.cons rfl .nil) (forget_ct m H1 hM mach b t x hx) rfl rfl rfl rfl (by rintro _ _ ⟨_, _, _, rfl⟩; rfl)) rfl ?_
      rintro _ _ ⟨_, ⟨x2, rfl, hx2, rfl⟩, rfl⟩
      refine RL.nil (N.next ?_)
      refine W.keep (.of [6, 8] rfl) (.of [0, 1, 2, 3, 4, 5, 6, 7, 8, 9, 104, 106, 107, 108] rfl) ?_
      refine W.region ?_
      refine RL.q (Yld.fieldAddr fo59_5 rfl) rfl ?_
      refine RL.e0 (Eff.storeS (c := 106) _ sz57 rfl rfl rfl rfl rfl rfl rfl (by (try simp only [putAt, List.take, List.drop, List.nil_append, List.cons_append, List.append_nil, List.length_cons, List.length_nil, Nat.add_zero, Nat.zero_add, Nat.reduceAdd]); rfl)) ?_
      rintro _ _ rfl
      refine RL.nil ?_
      refine N.block_normal ?_
      refine N.next ?_
      refine W.seq (W.region ?_)
      refine RL.q (Yld.ldW 106 Tryz.underlying59 sz59 rfl rfl rfl rfl) rfl ?_
      refine RL.e0 (Eff.storeS (c := 108) _ sz59 rfl rfl rfl rfl rfl rfl rfl (by (try simp only [putAt, List.take, List.drop, List.nil_append, List.cons_append, List.append_nil, List.length_cons, List.length_nil, Nat.add_zero, Nat.zero_add, Nat.reduceAdd]); rfl)) ?_
      rintro _ _ rfl
      refine RL.q (Yld.assign rfl) rfl (RL.nil (N.next ?_))
      refine W.ret ?_
      exact N.retBy [1, 2, 3, 4, 5, 6, 7, 8, 9] (.cons (by first | exact .cell (c := 108) rfl rfl (fun w hs => run_loadVarA Tryz.underlying59 rfl sz59 rfl (fun j u hj => by rw [Nat.zero_add, PH.sub.cell hs (by first | exact single_self _ _ | exact pset_self _ _ _ | assumption)]; exact hj))) (.cons (.tmp rfl) .nil)) rfl rfl rfl rfl ⟨x2, { y.setC none 0 [] emp with HC := y.HC }, _, rfl, rfl, by rw [hst]; exact hx2, ⟨hy.u, hy.s, hy.v, (Own.nil 38 4).sl.mono (fun _ _ h => nomatch h)⟩, by rw [hst]; exact ⟨hyt.us, hyt.gn, hyt.st, hyt.va, rfl⟩, rfl⟩
     ·
      have hst : (stepP m mach t o) = t := by unfold stepP; rw [if_neg hc21, if_neg hc56, if_neg hc73, if_neg hc86]
      refine W.skip ?_
      refine N.block_normal ?_
      refine N.next ?_
      refine W.seq (W.region ?_)
      refine RL.q (Yld.ldW 106 Tryz.underlying59 sz59 rfl rfl rfl rfl) rfl ?_
      refine RL.e0 (Eff.storeS (c := 108) _ sz59 rfl rfl rfl rfl rfl rfl rfl (by (try simp only [putAt, List.take, List.drop, List.nil_append, List.cons_append, List.append_nil, List.length_cons, List.length_nil, Nat.add_zero, Nat.zero_add, Nat.reduceAdd]); rfl)) ?_
      rintro _ _ rfl
      refine RL.q (Yld.assign rfl) rfl (RL.nil (N.next ?_))
      refine W.keep (.of [8, 9] rfl) (.of [0, 1, 2, 3, 4, 5, 6, 7, 8, 9, 104, 106, 107, 108] rfl) ?_
      refine W.ret ?_
      exact N.retBy [1, 2, 3, 4, 5, 6, 7, 8, 9] (.cons (by first | exact .cell (c := 108) rfl rfl (fun w hs => run_loadVarA Tryz.underlying59 rfl sz59 rfl (fun j u hj => by rw [Nat.zero_add, PH.sub.cell hs (by first | exact single_self _ _ | exact pset_self _ _ _ | assumption)]; exact hj))) (.cons (.tmp rfl) .nil)) rfl rfl rfl rfl ⟨x, y, _, rfl, rfl, by rw [hst]; exact hx, hy, by rw [hst]; exact hyt, rfl⟩
end Go.Proofs.YtboapdcmaeojgaaGreatDoor
namespace Go.Proofs.YtboapdcmaeojgaaGreatDoor
open SL Cat Fen
set_option linter.unusedVariables false
set_option linter.unusedSimpArgs false
theorem ent24 : Ent Tryz.prog 24 := ⟨_, _, Tryz.func24, by kernel_rfl, rfl⟩
theorem ent21 : Ent Tryz.prog 21 := ⟨_, _, Tryz.func21, by kernel_rfl, rfl⟩
theorem ent17 : Ent Tryz.prog 17 := ⟨_, _, Tryz.func17, by kernel_rfl, rfl⟩
theorem ent16 : Ent Tryz.prog 16 := ⟨_, _, Tryz.func16, by kernel_rfl, rfl⟩
theorem ent22 : Ent Tryz.prog 22 := ⟨_, _, Tryz.func22, by kernel_rfl, rfl⟩
theorem sz40 : sz Tryz.prog 40 11 := (by kernel_rfl : (Tryz.prog.info? 40).map (·.size) = some 11)
theorem ent32 : Ent Tryz.prog 32 := ⟨_, _, Tryz.func32, by kernel_rfl, rfl⟩
set_option maxRecDepth 100000 in
set_option maxHeartbeats 1600000 in
theorem same_ct (m : Md) (H1 : PH) (hM : m.In H1) (mach : Int) (b : Nat) (t : T) (x : Tb) (hx : x.Is t) (y : Rt) (hy : y.In) (hyt : y.Is t) (hv : MdV m) (k : Nat) (hk : k ≤ 1000) (hs : SI m mach k t) : Ct Tryz.prog 29 [.agg [.slice m.psi m.si.length m.csi, .slice m.pfe m.fe.length m.cfe, .slice m.prk m.rk.length m.crk, .slice m.pmc m.mc.length m.cmc, .slice m.pln m.ln.length m.cln, .slice m.pis m.is.length m.cis, .int .i64 m.da, .int .i64 m.sl, .int .i64 m.re, .int .i64 m.fa, .slice m.prl m.rl.length m.crl].toArray, .pointer (some ⟨b, 0, none⟩), .agg [.int .i64 mach, .slice y.pu y.us.length y.cu, .int .i64 y.gen, .slice y.ps y.st.length y.cs, .slice y.pv y.va.length y.cv, .slice y.pc y.cl.length y.cc].toArray] [H1, single b (.cells [.slice m.psi m.si.length m.csi, .slice m.pfe m.fe.length m.cfe, .slice m.prk m.rk.length m.crk, .slice m.pmc m.mc.length m.cmc, .slice m.pln m.ln.length m.cln, .slice m.pis m.is.length m.cis, .int .i64 m.da, .int .i64 m.sl, .int .i64 m.re, .int .i64 m.fa, .slice m.prl m.rl.length m.crl, .int .i64 mach, .slice x.pu x.nu x.cu, .slice x.pc x.nc x.cc, .int .i64 x.gen, .map (some x.d)].toArray 82 (0, 0)), x.HU, x.HC, single x.d (.map x.es x.ck), y.HU, y.HS, y.HV, y.HC] (fun v Hs => v = .bool true ∧ Hs = [H1, single b (.cells [.slice m.psi m.si.length m.csi, .slice m.pfe m.fe.length m.cfe, .slice m.prk m.rk.length m.crk, .slice m.pmc m.mc.length m.cmc, .slice m.pln m.ln.length m.cln, .slice m.pis m.is.length m.cis, .int .i64 m.da, .int .i64 m.sl, .int .i64 m.re, .int .i64 m.fa, .slice m.prl m.rl.length m.crl, .int .i64 mach, .slice x.pu x.nu x.cu, .slice x.pc x.nc x.cc, .int .i64 x.gen, .map (some x.d)].toArray 82 (0, 0)), x.HU, x.HC, single x.d (.map x.es x.ck), y.HU, y.HS, y.HV, y.HC]) := by
  refine Ct.body Tryz.func29 rfl Tryz.ntmps29 rfl ?_
  intro E F
  have hk1 := hs.us
  have hk2 := hs.cs
  have hmi := hM.is.len_le
  simp only [List.length_map, maxLen] at hmi
  have hn5 := hv.n5
  have hyl : y.us.length ≤ 900000 := by rw [hyt.us]; omega
  refine W.seq (W.region ?_)
  refine RL.e (Eff.box 103 _ rfl rfl) rfl ?_
  rintro _ _ ⟨b3, rfl, rfl⟩
  refine RL.e (Eff.box 105 _ rfl rfl) rfl ?_
  rintro _ _ ⟨b5, rfl, rfl⟩
  refine RL.q (Yld.assign rfl) rfl (RL.nil (N.next ?_))
  refine W.seq ?_
  refine W.seq (W.region ?_)
  refine RL.q (Yld.assign rfl) rfl (RL.nil (N.next ?_))
  refine W.block ?_
  refine W.loopK (ι := Nat) (fun i => (i ≤ m.is.length + 2)) (fun i => [(7, .int .i64 (i : Nat))]) (fun i => []) (fun i => m.is.length + 2 - i) (.of [1, 3, 5] rfl) (.of [0, 1, 2, 3, 4, 5, 6, 7, 8, 9, 103, 105] rfl) 0 ?_ ?_ ?_ ?_
  · exact Nat.zero_le _
  · exact (.as rfl (by first | rfl | (simp; done) | (congr 1; simp; done) | (congr 1; omega)) .nil)
  · exact .nil
  rintro i hi
  refine W.keep (.of [7, 1, 3, 5] rfl) (.of [0, 1, 2, 3, 4, 5, 6, 7, 8, 9, 103, 105] rfl) ?_
  refine W.seq ?_
  refine W.seq (W.region ?_)
  refine RL.q (Yld.move rfl) rfl ?_
  refine RL.q (Yld.fieldAddr fo29_5 rfl) rfl ?_
  refine RL.q (Yld.ld 103 Tryz.underlying26 rfl rfl rfl rfl) rfl ?_
  refine RL.q (Yld.lenSl Tryz.underlying26 rfl) rfl ?_
  refine RL.q (Yld.bin rfl rfl (by first | exact BinV.add (by omega) (by omega) | exact BinV.addW)) rfl ?_
  refine RL.q (Yld.bin rfl rfl BinV.leq) rfl ?_
  refine RL.nil (N.next ?_)
  refine W.keep (.of [1, 3, 5, 7, 19] rfl) (.of [0, 1, 2, 3, 4, 5, 6, 7, 8, 9, 103, 105] rfl) ?_
  first | refine W.condD rfl (fun hc19 => ?_) (fun hc19 => ?_) | (refine W.cond rfl (fun hc19 => ?_) (fun hc19 => ?_) <;> try simp only [Bool.or_eq_true, Bool.and_eq_true, Bool.not_eq_true', Bool.not_eq_false', decide_eq_true_eq, Bool.or_eq_false_iff, Bool.and_eq_false_iff, decide_eq_false_iff_not, beq_iff_eq, beq_eq_false_iff_ne, ne_eq, Decidable.not_not] at hc19)
  ·
   refine W.skip ?_
   refine N.next ?_
   refine W.seq ?_
   refine W.block ?_
   refine W.seq (W.region ?_)
   refine RL.q (Yld.move rfl) rfl (RL.q (Yld.move rfl) rfl ?_)
   refine RL.e (Eff.call ent24 [1, 2, 3, 4, 5] [1, 2, 3, 4, 5] (.cons rfl (.cons rfl .nil)) (findV_ct m H1 hM mach b t x hx (by omega) i) rfl rfl rfl rfl (by rintro _ _ ⟨_, rfl⟩; rfl)) rfl ?_
   rintro _ _ ⟨_, ⟨rfl, rfl⟩, rfl⟩
   refine RL.q (Yld.move rfl) rfl ?_
   refine RL.q (Yld.extract rfl rfl) rfl ?_
   refine RL.q (Yld.extract rfl rfl) rfl ?_
   refine RL.e (Eff.alloc 108 zc48) rfl ?_
   rintro _ _ ⟨b8, rfl, rfl⟩
   refine RL.e0 (Eff.storeS (c := 108) _ sz48 rfl rfl rfl rfl rfl rfl rfl (by (try simp only [putAt, List.take, List.drop, List.nil_append, List.cons_append, List.append_nil, List.length_cons, List.length_nil, Nat.add_zero, Nat.zero_add, Nat.reduceAdd]); rfl)) ?_
   rintro _ _ rfl
   refine RL.q (Yld.assign rfl) rfl (RL.nil (N.next ?_))
   refine W.keep (.of [1, 3, 5, 7, 8, 9] rfl) (.of [0, 1, 2, 3, 4, 5, 6, 7, 8, 9, 103, 105, 108] rfl) ?_
   refine W.seq (W.region ?_)
   refine RL.q (Yld.ldW 105 Tryz.underlying59 sz59 rfl rfl rfl rfl) rfl ?_
   refine RL.q (Yld.move rfl) rfl ?_
   refine RL.e (Eff.call ent52 [6] [6] (.cons rfl (.cons rfl .nil)) (rfind_ct y mach hy i) rfl rfl rfl rfl (by rintro _ _ ⟨_, rfl⟩; rfl)) rfl ?_
   rintro _ _ ⟨_, ⟨rfl, rfl⟩, rfl⟩
   rw [show fvU y.us (i : Int) = fvU t.us (i : Int) by rw [hyt.us]]
   refine RL.q (Yld.move rfl) rfl ?_
   refine RL.q (Yld.extract rfl rfl) rfl ?_
   refine RL.q (Yld.extract rfl rfl) rfl ?_
   refine RL.e (Eff.alloc 110 zc48) rfl ?_
   rintro _ _ ⟨b10, rfl, rfl⟩
   refine RL.e0 (Eff.storeS (c := 110) _ sz48 rfl rfl rfl rfl rfl rfl rfl (by (try simp only [putAt, List.take, List.drop, List.nil_append, List.cons_append, List.append_nil, List.length_cons, List.length_nil, Nat.add_zero, Nat.zero_add, Nat.reduceAdd]); rfl)) ?_
   rintro _ _ rfl
   refine RL.q (Yld.assign rfl) rfl (RL.nil (N.next ?_))
   refine W.keep (.of [1, 3, 5, 7, 8, 9, 10, 11] rfl) (.of [0, 1, 2, 3, 4, 5, 6, 7, 8, 9, 103, 105, 108, 110] rfl) ?_
   refine W.seq ?_
   refine W.seq (W.region ?_)
   refine RL.q (Yld.ldW 105 Tryz.underlying59 sz59 rfl rfl rfl rfl) rfl ?_
   refine RL.e (Eff.call ent21 [6, 9] [6, 9, 170] (.cons rfl .nil) (rlist_ct y mach hy hyl) rfl rfl rfl rfl (by rintro _ _ ⟨_, _, _, _, _, _, rfl⟩; rfl)) rfl ?_
   rintro _ _ ⟨_, ⟨Hl, pl, cl, rfl, hOl, rfl⟩, rfl⟩
   rw [hyt.us, hyt.cl] at hOl
   have hyu : y.us.length = t.us.length := by rw [hyt.us]
   have hml := hOl.sl.len_le
   simp only [List.length_map, maxLen, listP_len] at hml
   refine RL.q (Yld.lenSl Tryz.underlying41 rfl) rfl ?_
   refine RL.q (Yld.move rfl) rfl (RL.nil (N.next ?_))
   refine W.block ?_
   refine W.loopK (ι := Nat) (fun k => (k ≤ t.us.length)) (fun k => [(37, .int .i64 (k : Nat))]) (fun k => [(110, single b10 (.cells (pickW (fvU t.us i).1 ((listP t.us t.cs).take k)).c.toArray 48 (0, 0)))]) (fun k => t.us.length - k) (.of [1, 3, 5, 7, 8, 9, 10, 11, 35, 36] rfl) (.of [0, 1, 2, 3, 4, 5, 6, 7, 8, 9, 103, 105, 108, 170] rfl) 0 ?_ ?_ ?_ ?_
   · exact Nat.zero_le _
   · exact (.as rfl (by first | rfl | (simp; done) | (congr 1; simp; done) | (congr 1; omega)) .nil)
   · exact (.to rfl)
   rintro k hkl
   refine W.keep (.of [37, 1, 3, 5, 7, 8, 9, 10, 11, 35, 36] rfl) (.of [110, 0, 1, 2, 3, 4, 5, 6, 7, 8, 9, 103, 105, 108, 170] rfl) ?_
   refine W.seq (W.region ?_)
   refine RL.q (Yld.bin rfl rfl BinV.lss) rfl ?_
   refine RL.nil (N.next ?_)
   refine W.seq ?_
   first | refine W.condD rfl (fun hc38 => ?_) (fun hc38 => ?_) | (refine W.cond rfl (fun hc38 => ?_) (fun hc38 => ?_) <;> try simp only [Bool.or_eq_true, Bool.and_eq_true, Bool.not_eq_true', Bool.not_eq_false', decide_eq_true_eq, Bool.or_eq_false_iff, Bool.and_eq_false_iff, decide_eq_false_iff_not, beq_iff_eq, beq_eq_false_iff_ne, ne_eq, Decidable.not_not] at hc38)
   ·
    obtain ⟨w, hw⟩ : ∃ w, (listP t.us t.cs)[k]? = some w := ⟨_, List.getElem?_eq_getElem (by rw [listP_len]; omega)⟩
    have hlw := uz_get hw
    refine W.skip ?_
    refine N.next ?_
    refine W.seq ?_
    refine W.block ?_
    refine W.seq (W.region ?_)
    refine RL.q (Yld.ixr Tryz.underlying41 sz48 rfl rfl) rfl ?_
    refine RL.q (by first | exact Yld.lrA 1 Tryz.underlying48 sz48 rfl rfl rfl | exact Yld.lrA 2 Tryz.underlying48 sz48 rfl rfl rfl | exact Yld.lrA 3 Tryz.underlying48 sz48 rfl rfl rfl | exact Yld.lrA 4 Tryz.underlying48 sz48 rfl rfl rfl | exact Yld.lrA 5 Tryz.underlying48 sz48 rfl rfl rfl | exact Yld.lrA 6 Tryz.underlying48 sz48 rfl rfl rfl | exact Yld.lrA 7 Tryz.underlying48 sz48 rfl rfl rfl | exact Yld.lrA 8 Tryz.underlying48 sz48 rfl rfl rfl | exact Yld.lrA 9 Tryz.underlying48 sz48 rfl rfl rfl | exact Yld.lrA 103 Tryz.underlying48 sz48 rfl rfl rfl | exact Yld.lrA 105 Tryz.underlying48 sz48 rfl rfl rfl | exact Yld.lrA 108 Tryz.underlying48 sz48 rfl rfl rfl | exact Yld.lrA 170 Tryz.underlying48 sz48 rfl rfl rfl | exact Yld.lrA 110 Tryz.underlying48 sz48 rfl rfl rfl) rfl ?_
    refine RL.e (Eff.alloc 113 zc48) rfl ?_
    rintro _ _ ⟨b13, rfl, rfl⟩
    refine RL.e0 (Eff.storeS (c := 113) _ sz48 rfl rfl rfl rfl rfl rfl rfl (by (try simp only [putAt, List.take, List.drop, List.nil_append, List.cons_append, List.append_nil, List.length_cons, List.length_nil, Nat.add_zero, Nat.zero_add, Nat.reduceAdd]); rfl)) ?_
    rintro _ _ rfl
    refine RL.nil (N.next ?_)
    refine W.seq (W.region ?_)
    refine RL.q (Yld.fieldAddr fo48_0 rfl) rfl ?_
    refine RL.q (Yld.ld 113 Tryz.underlying3 rfl rfl rfl rfl) rfl ?_
    refine RL.q (Yld.fieldAddr fo48_0 rfl) rfl ?_
    refine RL.q (Yld.ld 110 Tryz.underlying3 rfl rfl rfl rfl) rfl ?_
    refine RL.q (Yld.bin rfl rfl BinV.eql) rfl ?_
    refine RL.q (Yld.move rfl) rfl ?_
    refine' RL.and (t := 46) (d := 52) 6 rfl (.of [1, 3, 5, 7, 8, 9, 10, 11, 13, 35, 36, 37, 38, 39, 40, 41, 42, 43, 44, 45] rfl) (.of [0, 1, 2, 3, 4, 5, 6, 7, 8, 9, 103, 105, 108, 110, 113, 170] rfl) ?_ ?_ ?_
    rotate_left 1
    ·
     intro hg46
     refine RL.gq rfl rfl (Yld.fieldAddr fo48_1 rfl) rfl ?_
     refine RL.gq rfl rfl (Yld.ld 113 Tryz.underlying3 rfl rfl rfl rfl) rfl ?_
     refine RL.gq rfl rfl (Yld.fieldAddr fo48_1 rfl) rfl ?_
     refine RL.gq rfl rfl (Yld.ld 110 Tryz.underlying3 rfl rfl rfl rfl) rfl ?_
     refine RL.gq rfl rfl (Yld.bin rfl rfl BinV.eql) rfl ?_
     refine RL.q Yld.pk rfl ?_
     exact RL.nil (N.meet (.to rfl) (.to rfl))
    ·
     intro hg46
     refine RL.gskip rfl rfl rfl rfl ?_
     refine RL.gskip rfl rfl rfl rfl ?_
     refine RL.gskip rfl rfl rfl rfl ?_
     refine RL.gskip rfl rfl rfl rfl ?_
     refine RL.gskip rfl rfl rfl rfl ?_
     refine RL.q Yld.pk rfl ?_
     exact RL.nil (N.meet (.to rfl) (.to rfl))
    refine RL.nil (N.next ?_)
    refine W.keep (.of [1, 3, 5, 7, 8, 9, 10, 11, 13, 35, 36, 37, 52] rfl) (.of [0, 1, 2, 3, 4, 5, 6, 7, 8, 9, 103, 105, 108, 110, 113, 170] rfl) ?_
    refine W.cond rfl (fun hc52 => ?_) (fun hc52 => ?_)
    ·
     refine W.region ?_
     refine RL.q (Yld.ldW 113 Tryz.underlying48 sz48 rfl rfl rfl rfl) rfl ?_
     refine RL.e0 (Eff.storeS (c := 110) _ sz48 rfl rfl rfl rfl rfl rfl rfl (by (try simp only [putAt, List.take, List.drop, List.nil_append, List.cons_append, List.append_nil, List.length_cons, List.length_nil, Nat.add_zero, Nat.zero_add, Nat.reduceAdd]); rfl)) ?_
     rintro _ _ rfl
     refine RL.nil ?_
     refine N.block_normal ?_
     refine N.next ?_
     refine W.region ?_
     refine RL.q (Yld.bin rfl rfl (by first | exact BinV.add (by omega) (by omega) | exact BinV.addW)) rfl ?_
     refine RL.q (Yld.move rfl) rfl (RL.nil ?_)
     exact N.famK (k + 1) ⟨by omega, by omega⟩ (.as rfl (by first | rfl | (simp; done) | (congr 1; simp; done) | (congr 1; omega)) .nil) (.to rfl) (.as rfl (by rw [pickW_take hw, if_pos (by simp only [Bool.and_eq_true, decide_eq_true_eq] at hc52; exact hc52)]; first | done | rfl) .nil) (.to rfl)
    ·
     refine W.skip ?_
     refine N.block_normal ?_
     refine N.next ?_
     refine W.region ?_
     refine RL.q (Yld.bin rfl rfl (by first | exact BinV.add (by omega) (by omega) | exact BinV.addW)) rfl ?_
     refine RL.q (Yld.move rfl) rfl (RL.nil ?_)
     exact N.famK (k + 1) ⟨by omega, by omega⟩ (.as rfl (by first | rfl | (simp; done) | (congr 1; simp; done) | (congr 1; omega)) .nil) (.to rfl) (.as rfl (by rw [pickW_take hw, if_neg (fun h => by rw [decide_eq_true h.1, decide_eq_true h.2] at hc52; cases hc52)]) .nil) (.to rfl)
   ·
    have hend : k = (listP t.us t.cs).length := by rw [listP_len]; omega
    rw [hend, List.take_length]
    refine W.exit ?_
    refine N.then_exit ?_
    refine N.then_exit ?_
    refine N.block_eq ?_
    refine N.next ?_
    refine W.keep (.of [1, 3, 5, 7, 8, 9, 10, 11] rfl) (.of [0, 1, 2, 3, 4, 5, 6, 7, 8, 9, 103, 105, 108, 110, 170] rfl) ?_
    refine W.seq (W.region ?_)
    refine RL.q (Yld.move rfl) rfl (RL.q (Yld.move rfl) rfl ?_)
    refine RL.q (Yld.bin rfl rfl (BinV.neqB Tryz.underlying4)) rfl ?_
    refine RL.q (Yld.move rfl) rfl ?_
    refine' RL.or (t := 58) (d := 62) 4 rfl (.of [1, 3, 5, 7, 8, 9, 10, 11, 55, 56, 57] rfl) (.of [0, 1, 2, 3, 4, 5, 6, 7, 8, 9, 103, 105, 108, 110, 170] rfl) ?_ ?_ ?_
    rotate_left 1
    ·
     intro hg58
     refine RL.gq rfl rfl (Yld.ldW 108 Tryz.underlying48 sz48 rfl rfl rfl rfl) rfl ?_
     refine RL.gq rfl rfl (Yld.ldW 110 Tryz.underlying48 sz48 rfl rfl rfl rfl) rfl ?_
     refine RL.gq rfl rfl (Yld.bin rfl rfl (BinV.neqT eqg48 (EqV.struct Tryz.underlying48 sih48 (EqF.cons rfl (PartV.one Tryz.underlying3 rfl rfl) (PartV.one Tryz.underlying3 rfl rfl) (EqV.int Tryz.underlying3) (EqF.cons rfl (PartV.one Tryz.underlying3 rfl rfl) (PartV.one Tryz.underlying3 rfl rfl) (EqV.int Tryz.underlying3) (EqF.cons rfl (PartV.one Tryz.underlying3 rfl rfl) (PartV.one Tryz.underlying3 rfl rfl) (EqV.int Tryz.underlying3) (EqF.cons rfl (PartV.one Tryz.underlying2 rfl rfl) (PartV.one Tryz.underlying2 rfl rfl) (EqV.int Tryz.underlying2) (EqF.cons rfl (PartV.one Tryz.underlying3 rfl rfl) (PartV.one Tryz.underlying3 rfl rfl) (EqV.int Tryz.underlying3) EqF.nil)))))))) rfl ?_
     refine RL.q Yld.pk rfl ?_
     exact RL.nil (N.meet (.to rfl) (.to rfl))
    ·
     intro hg58
     refine RL.gskip rfl rfl rfl rfl ?_
     refine RL.gskip rfl rfl rfl rfl ?_
     refine RL.gskip rfl rfl rfl rfl ?_
     refine RL.q Yld.pk rfl ?_
     exact RL.nil (N.meet (.to rfl) (.to rfl))
    refine RL.nil (N.next ?_)
    refine W.keep (.of [1, 3, 5, 7, 62] rfl) (.of [0, 1, 2, 3, 4, 5, 6, 7, 8, 9, 103, 105, 108, 110, 170] rfl) ?_
    refine W.cond rfl (fun hc62 => ?_) (fun hc62 => ?_)
    ·
     exfalso
     obtain ⟨e1, e2⟩ := pick_same hs.ti (i : Int)
     rw [e1, e2] at hc62
     simp at hc62 --stop
    ·
     refine W.skip ?_
     refine N.block_normal ?_
     refine N.next ?_
     refine W.region ?_
     refine RL.q (Yld.move rfl) rfl ?_
     refine RL.q (Yld.bin rfl rfl (by first | exact BinV.add (by omega) (by omega) | exact BinV.addW)) rfl ?_
     refine RL.q (Yld.assign rfl) rfl (RL.nil ?_)
     exact N.famK (i + 1) ⟨by omega, by omega⟩ (.as rfl (by first | rfl | (simp; done) | (congr 1; simp; done) | (congr 1; omega)) .nil) (.to rfl) .nil (.to rfl)
  ·
   refine W.exit ?_
   refine N.then_exit ?_
   refine N.then_exit ?_
   refine N.block_eq ?_
   refine N.next ?_
   refine W.seq ?_
   refine W.draw (.q 0 (.q 2 (.one 1 (.one 3 (.one 4 (.q 5 (.q 6 (.q 8 (.q 9 (.one 7 (.q 10 (.q 11 (.q 12 .done))))))))))))) (.of [0, 7, 8, 103, 105] rfl) mix (by kernel_rfl) (by kernel_rfl) ?_
   refine DL.q rfl (Yld.move rfl) rfl ?_
   refine DL.q rfl (Yld.ldW 105 Tryz.underlying59 sz59 rfl rfl rfl rfl) rfl ?_
   refine DL.one rfl (Eff.call ent14 [1, 2, 3, 4, 5] [1, 2, 3, 4, 5, 160] (.cons rfl .nil) (units_ct m H1 hM mach b t x hx (by omega)) rfl rfl rfl rfl (by rintro _ _ ⟨_, _, _, _, _, rfl⟩; rfl)) rfl (by rintro _ _ ⟨_, ⟨Hu, pu, cu, rfl, hOu, rfl⟩, rfl⟩; repeat (first | exact .nil | refine .cons rfl ?_)) ?_
   rintro _ _ ⟨_, ⟨Hu, pu, cu, rfl, hOu, rfl⟩, rfl⟩
   refine DL.one rfl (Eff.call ent21 [6, 9] [6, 9, 170] (.cons rfl .nil) (rlist_ct y mach hy hyl) rfl rfl rfl rfl (by rintro _ _ ⟨_, _, _, _, _, _, rfl⟩; rfl)) rfl (by rintro _ _ ⟨_, ⟨Hl, pl, cl, rfl, hOl, rfl⟩, rfl⟩; repeat (first | exact .nil | refine .cons rfl ?_)) ?_
   rintro _ _ ⟨_, ⟨Hl, pl, cl, rfl, hOl, rfl⟩, rfl⟩
   rw [hyt.us, hyt.cl] at hOl
   have hyu : y.us.length = t.us.length := by rw [hyt.us]
   have hml := hOl.sl.len_le
   simp only [List.length_map, maxLen, listP_len] at hml
   refine DL.one rfl (Eff.call ent17 [160, 170] [160, 170] (.cons rfl (.cons rfl .nil)) (sameU_ct _ _ _ _ _ _ _ _ _ _ (listP_len _ _).symm (by rw [listP_len, hyt.us]) hOu.sl hOl.sl) rfl rfl rfl rfl (by rintro _ _ ⟨_, rfl⟩; rfl)) rfl (by rintro _ _ ⟨_, ⟨rfl, rfl⟩, rfl⟩; repeat (first | exact .nil | refine .cons rfl ?_)) ?_
   rintro _ _ ⟨_, ⟨rfl, rfl⟩, rfl⟩
   refine DL.q rfl (Yld.move rfl) rfl ?_
   refine' DL.and (t := 68) (d := 74) 6 rfl (.of [1, 3, 5, 7, 19, 63, 64, 65, 66, 67] rfl) (.of [0, 1, 2, 3, 4, 5, 6, 7, 8, 9, 103, 105, 160, 170] rfl) ?_ ?_ ?_
   rotate_left 1
   ·
    intro hg68
    refine DL.gq rfl rfl rfl (Yld.move rfl) rfl ?_
    refine DL.gq rfl rfl rfl (Yld.fieldAddr fo59_2 rfl) rfl ?_
    refine DL.gq rfl rfl rfl (Yld.ld 105 Tryz.underlying3 rfl rfl rfl rfl) rfl ?_
    refine DL.gone rfl rfl rfl (Eff.call ent16 [2] [2] (.cons rfl .nil) (gen_ct m mach b x) rfl rfl rfl rfl (by rintro _ _ ⟨_, rfl⟩; rfl)) rfl (by rintro _ _ ⟨_, ⟨rfl, rfl⟩, rfl⟩; repeat (first | exact .nil | refine .cons rfl ?_)) ?_
    rintro _ _ ⟨_, ⟨rfl, rfl⟩, rfl⟩
    refine DL.gq rfl rfl rfl (Yld.bin rfl rfl BinV.eql) rfl ?_
    refine DL.q rfl Yld.pk rfl ?_
    exact DL.meet (.to rfl) (.to rfl)
   ·
    intro hg68
    refine DL.gskip rfl rfl rfl rfl rfl ?_
    refine DL.gskip rfl rfl rfl rfl rfl ?_
    refine DL.gskip rfl rfl rfl rfl rfl ?_
    refine DL.gskip1 rfl rfl rfl rfl rfl ?_
    refine DL.gskip rfl rfl rfl rfl rfl ?_
    refine DL.q rfl Yld.pk rfl ?_
    exact DL.meet (.to rfl) (.to rfl)
   refine DL.q rfl (Yld.assign rfl) rfl ?_
   refine DL.done ?_
   refine N.next ?_
   refine W.keep (.of [6] rfl) (.of [0, 1, 2, 3, 4, 5, 6, 7, 8, 9, 103, 105, 160, 170] rfl) ?_
   refine W.ret ?_
   exact N.retBy [1, 2, 3, 4, 5, 6, 7, 8, 9] (.cons (.tmp rfl) .nil) rfl rfl rfl rfl ⟨by show Value.bool _ = _; congr 1; simp [hx.gn, hyt.gn], rfl⟩
structure Fen.RJ where
  j : Nat
  x : Tb
  y : Rt
set_option maxRecDepth 100000 in
set_option maxHeartbeats 1600000 in
theorem run_ct (m : Md) (H1 : PH) (hM : m.In H1) (hT : TabS H1) (mach : Int) (hv : MdV m) (hm1 : 1 ≤ mach) (hm2 : mach ≤ m.mc.length) (l : List Opn) (q : Option Addr) (d : Nat) (hS : Sl H1 q d 11 (l.map Opn.cs)) (hR : ∀ o ∈ l, o.c.rp ≤ 9223372036854775807) (hl : l.length ≤ 1000) : Ct Tryz.prog 25 [.agg [.slice m.psi m.si.length m.csi, .slice m.pfe m.fe.length m.cfe, .slice m.prk m.rk.length m.crk, .slice m.pmc m.mc.length m.cmc, .slice m.pln m.ln.length m.cln, .slice m.pis m.is.length m.cis, .int .i64 m.da, .int .i64 m.sl, .int .i64 m.re, .int .i64 m.fa, .slice m.prl m.rl.length m.crl].toArray, .int .i64 mach, .slice q l.length d] [H1] (fun v Hs => ∃ (b : Nat) (x : Tb) (y : Rt), v = .tuple [.pointer (some ⟨b, 0, none⟩), .agg [.int .i64 mach, .slice y.pu y.us.length y.cu, .int .i64 y.gen, .slice y.ps y.st.length y.cs, .slice y.pv y.va.length y.cv, .slice y.pc y.cl.length y.cc].toArray, .bool true].toArray ∧ x.Is (runP m mach l) ∧ y.In ∧ y.Is (runP m mach l) ∧ Hs = [H1, single b (.cells [.slice m.psi m.si.length m.csi, .slice m.pfe m.fe.length m.cfe, .slice m.prk m.rk.length m.crk, .slice m.pmc m.mc.length m.cmc, .slice m.pln m.ln.length m.cln, .slice m.pis m.is.length m.cis, .int .i64 m.da, .int .i64 m.sl, .int .i64 m.re, .int .i64 m.fa, .slice m.prl m.rl.length m.crl, .int .i64 mach, .slice x.pu x.nu x.cu, .slice x.pc x.nc x.cc, .int .i64 x.gen, .map (some x.d)].toArray 82 (0, 0)), x.HU, x.HC, single x.d (.map x.es x.ck), y.HU, y.HS, y.HV, y.HC]) := by
  refine Ct.body Tryz.func25 rfl Tryz.ntmps25 rfl ?_
  intro E F
  have hmxl := hS.len_le
  simp only [List.length_map, maxLen] at hmxl
  refine W.seq (W.region ?_)
  refine RL.e (Eff.box 103 _ rfl rfl) rfl ?_
  rintro _ _ ⟨b3, rfl, rfl⟩
  refine RL.q (Yld.assign rfl) rfl ?_
  refine RL.e (Eff.alloc 107 zc59) rfl ?_
  rintro _ _ ⟨b7, rfl, rfl⟩
  refine RL.q (Yld.assign rfl) rfl (RL.nil (N.next ?_))
  refine W.seq ?_
  refine W.draw (.q 0 (.q 1 (.q 3 (.q 4 (.two 2 (.two 5 (.one 6 (.q 7 (.one 8 (.q 9 .done)))) 6 (.one 5 (.q 7 (.one 8 (.q 9 .done))))) 6 (.one 2 (.one 5 (.q 7 (.one 8 (.q 9 .done)))))))))) (.of [0, 103, 107] rfl) mix (by kernel_rfl) (by kernel_rfl) ?_
  refine DL.q rfl (Yld.ldW 103 Tryz.underlying29 sz29 rfl rfl rfl rfl) rfl ?_
  refine DL.q rfl (Yld.move rfl) rfl ?_
  refine DL.q rfl (Yld.ldW 103 Tryz.underlying29 sz29 rfl rfl rfl rfl) rfl ?_
  refine DL.q rfl (Yld.move rfl) rfl ?_
  refine DL.two ?_ ?_
  ·
   refine DL.one rfl (Eff.call ent13 [1] [1, 150, 151, 152, 153] (.cons rfl (.cons rfl .nil)) (new_ct m H1 hM hT mach hv hm1 hm2) rfl rfl rfl rfl (by rintro _ _ ⟨_, _, _, _, rfl⟩; rfl)) rfl (by rintro _ _ ⟨_, ⟨bt, x0, rfl, hx0, rfl⟩, rfl⟩; repeat (first | exact .nil | refine .cons rfl ?_)) ?_
   rintro _ _ ⟨_, ⟨bt, x0, rfl, hx0, rfl⟩, rfl⟩
   refine DL.two ?_ ?_
   ·
    refine DL.one rfl (Eff.call ent22 [1] [1, 161, 162, 163, 164] (.cons rfl (.cons rfl .nil)) (rnew_ct m H1 hM mach hv) rfl rfl rfl rfl (by rintro _ _ ⟨_, _, _, _, rfl⟩; rfl)) rfl (by rintro _ _ ⟨_, ⟨y0, rfl, hy0, hys0, rfl⟩, rfl⟩; repeat (first | exact .nil | refine .cons rfl ?_)) ?_
    rintro _ _ ⟨_, ⟨y0, rfl, hy0, hys0, rfl⟩, rfl⟩
    refine DL.one rfl (Eff.alloc 110 zc59) rfl (by rintro _ _ ⟨b10, rfl, rfl⟩; repeat (first | exact .nil | refine .cons rfl ?_)) ?_
    rintro _ _ ⟨b10, rfl, rfl⟩
    refine DL.q rfl (Yld.assign rfl) rfl ?_
    refine DL.one0 rfl (Eff.storeS (c := 110) _ sz59 rfl rfl rfl rfl rfl rfl rfl (by (try simp only [putAt, List.take, List.drop, List.nil_append, List.cons_append, List.append_nil, List.length_cons, List.length_nil, Nat.add_zero, Nat.zero_add, Nat.reduceAdd]); rfl)) (by rintro _ _ rfl; repeat (first | exact .nil | refine .cons rfl ?_)) ?_
    rintro _ _ rfl
    refine DL.q rfl (Yld.assign rfl) rfl ?_
    refine DL.done ?_
    refine N.next ?_
    refine W.keep (.of [2, 3, 7, 9, 10, 11] rfl) (.of [0, 1, 103, 107, 110, 150, 151, 152, 153, 161, 162, 163, 164] rfl) ?_
    refine W.seq ?_
    refine W.seq (W.region ?_)
    refine RL.q (Yld.assign rfl) rfl (RL.nil (N.next ?_))
    refine W.block ?_
    refine W.loopK (ι := RJ) (fun z => (z.j ≤ l.length ∧ z.x.Is (runP m mach (l.take z.j)) ∧ z.y.In ∧ z.y.Is (runP m mach (l.take z.j)) ∧ SI m mach z.j (runP m mach (l.take z.j)))) (fun z => [(11, .bool true), (12, .int .i64 (z.j : Nat))]) (fun z => [(110, single b10 (.cells [.int .i64 mach, .slice z.y.pu z.y.us.length z.y.cu, .int .i64 z.y.gen, .slice z.y.ps z.y.st.length z.y.cs, .slice z.y.pv z.y.va.length z.y.cv, .slice z.y.pc z.y.cl.length z.y.cc].toArray 59 (0, 0))), (150, single bt (.cells [.slice m.psi m.si.length m.csi, .slice m.pfe m.fe.length m.cfe, .slice m.prk m.rk.length m.crk, .slice m.pmc m.mc.length m.cmc, .slice m.pln m.ln.length m.cln, .slice m.pis m.is.length m.cis, .int .i64 m.da, .int .i64 m.sl, .int .i64 m.re, .int .i64 m.fa, .slice m.prl m.rl.length m.crl, .int .i64 mach, .slice z.x.pu z.x.nu z.x.cu, .slice z.x.pc z.x.nc z.x.cc, .int .i64 z.x.gen, .map (some z.x.d)].toArray 82 (0, 0))), (151, z.x.HU), (152, z.x.HC), (153, single z.x.d (.map z.x.es z.x.ck)), (161, z.y.HU), (162, z.y.HS), (163, z.y.HV), (164, z.y.HC)]) (fun z => l.length - z.j) (.of [2, 3, 7, 9, 10] rfl) (.of [0, 1, 103, 107] rfl) ⟨0, x0, y0⟩ ?_ ?_ ?_ ?_
    · exact ⟨Nat.zero_le _, hx0, hy0, hys0, .new hv hm1 hm2⟩
    · exact (.as rfl (by first | rfl | (simp; done) | (congr 1; simp; done) | (congr 1; omega)) (.as rfl (by first | rfl | (simp; done) | (congr 1; simp; done) | (congr 1; omega)) .nil))
    · exact (.to rfl)
    rintro z ⟨hj, hzx, hzy, hzys, hsi⟩
    refine W.keep (.of [11, 12, 2, 3, 7, 9, 10] rfl) (.of [110, 150, 151, 152, 153, 161, 162, 163, 164, 0, 1, 103, 107] rfl) ?_
    refine W.seq ?_
    refine W.seq (W.region ?_)
    refine RL.q (Yld.move rfl) rfl ?_
    refine RL.q (Yld.bin rfl rfl (BinV.neqPN Tryz.underlying33)) rfl ?_
    refine RL.q (Yld.move rfl) rfl ?_
    first | refine RL.as (t := 21) rfl (boolT (by first | assumption | omega | (simp; done))) ?_ | refine RL.as (t := 21) (v := .bool true) rfl rfl ?_
    refine RL.gq rfl rfl (Yld.move rfl) rfl ?_
    refine RL.q Yld.pk rfl (RL.q (Yld.move rfl) rfl ?_)
    first | refine RL.as (t := 24) rfl (boolT (by first | assumption | omega | (simp; done))) ?_ | refine RL.as (t := 24) (v := .bool true) rfl rfl ?_
    refine RL.gq rfl rfl (Yld.move rfl) rfl ?_
    refine RL.gq rfl rfl (Yld.move rfl) rfl ?_
    refine RL.gq rfl rfl (Yld.lenSl Tryz.underlying30 rfl) rfl ?_
    refine RL.gq rfl rfl (Yld.bin rfl rfl BinV.lss) rfl ?_
    refine RL.q Yld.pk rfl (RL.nil (N.next ?_))
    refine W.keep (.of [2, 3, 7, 9, 10, 11, 12, 29] rfl) (.of [0, 1, 103, 107, 110, 150, 151, 152, 153, 161, 162, 163, 164] rfl) ?_
    first | refine W.condD rfl (fun hc29 => ?_) (fun hc29 => ?_) | (refine W.cond rfl (fun hc29 => ?_) (fun hc29 => ?_) <;> try simp only [Bool.or_eq_true, Bool.and_eq_true, Bool.not_eq_true', Bool.not_eq_false', decide_eq_true_eq, Bool.or_eq_false_iff, Bool.and_eq_false_iff, decide_eq_false_iff_not, beq_iff_eq, beq_eq_false_iff_ne, ne_eq, Decidable.not_not] at hc29)
    ·
     obtain ⟨o, ho⟩ : ∃ o, l[z.j]? = some o := ⟨_, List.getElem?_eq_getElem (show z.j < l.length by omega)⟩
     have hlo : (l.map Opn.cs)[z.j]? = some o.cs := by simp [ho]
     refine W.skip ?_
     refine N.next ?_
     refine W.seq ?_
     refine W.block ?_
     refine W.draw (.q 0 (.q 1 (.q 3 (.q 4 (.q 5 (.two 2 (.one 6 (.one 7 (.q 8 (.q 9 (.q 10 (.one 11 (.q 12 .done))))))) 6 (.one 2 (.one 7 (.q 8 (.q 9 (.q 10 (.one 11 (.q 12 .done))))))))))))) (.of [0, 103, 107] rfl) mix (by kernel_rfl) (by kernel_rfl) ?_
     refine DL.q rfl (Yld.ldW 103 Tryz.underlying29 sz29 rfl rfl rfl rfl) rfl ?_
     refine DL.q rfl (Yld.move rfl) rfl ?_
     refine DL.q rfl (Yld.move rfl) rfl ?_
     refine DL.q rfl (Yld.move rfl) rfl ?_
     refine DL.q rfl (Yld.ixr Tryz.underlying30 sz40 rfl rfl) rfl ?_
     refine DL.two ?_ ?_
     ·
      refine DL.one rfl (Yld.eff (Yld.ldW 110 Tryz.underlying59 sz59 rfl rfl rfl rfl)) rfl (by rintro _ _ ⟨rfl, rfl⟩; repeat (first | exact .nil | refine .cons rfl ?_)) ?_
      rintro _ _ ⟨rfl, rfl⟩
      refine DL.one rfl (Yld.eff (by first | exact Yld.lrA 1 Tryz.underlying40 sz40 rfl rfl rfl | exact Yld.lrA 103 Tryz.underlying40 sz40 rfl rfl rfl | exact Yld.lrA 107 Tryz.underlying40 sz40 rfl rfl rfl | exact Yld.lrA 110 Tryz.underlying40 sz40 rfl rfl rfl | exact Yld.lrA 150 Tryz.underlying40 sz40 rfl rfl rfl | exact Yld.lrA 151 Tryz.underlying40 sz40 rfl rfl rfl | exact Yld.lrA 152 Tryz.underlying40 sz40 rfl rfl rfl | exact Yld.lrA 153 Tryz.underlying40 sz40 rfl rfl rfl | exact Yld.lrA 161 Tryz.underlying40 sz40 rfl rfl rfl | exact Yld.lrA 162 Tryz.underlying40 sz40 rfl rfl rfl | exact Yld.lrA 163 Tryz.underlying40 sz40 rfl rfl rfl | exact Yld.lrA 164 Tryz.underlying40 sz40 rfl rfl rfl)) rfl (by rintro _ _ ⟨rfl, rfl⟩; repeat (first | exact .nil | refine .cons rfl ?_)) ?_
      rintro _ _ ⟨rfl, rfl⟩
      refine DL.one rfl (Eff.call ent32 [1, 150, 151, 152, 153, 161, 162, 163, 164] [1, 150, 151, 152, 153, 161, 162, 163, 164] (.cons rfl (.cons rfl (.cons rfl (.cons rfl .nil)))) (step_ct m H1 hM mach bt _ z.x hzx z.y hzy hzys o hv z.j (by omega) hsi (hR o (List.mem_of_getElem? ho))) rfl rfl rfl rfl (by rintro _ _ ⟨_, _, _, _, _, _, _, _, rfl⟩; rfl)) rfl (by rintro _ _ ⟨_, ⟨x2, y2, _, rfl, rfl, hx2, hy2, hys2, rfl⟩, rfl⟩; repeat (first | exact .nil | refine .cons rfl ?_)) ?_
      rintro _ _ ⟨_, ⟨x2, y2, _, rfl, rfl, hx2, hy2, hys2, rfl⟩, rfl⟩
      have hsi2 := hsi.step (o := o) (hR o (List.mem_of_getElem? ho))
      rw [← runP_take ho] at hx2 hys2 hsi2
      refine DL.q rfl (Yld.move rfl) rfl ?_
      refine DL.q rfl (Yld.extract rfl rfl) rfl ?_
      refine DL.q rfl (Yld.extract rfl rfl) rfl ?_
      refine DL.one0 rfl (Eff.storeS (c := 110) _ sz59 rfl rfl rfl rfl rfl rfl rfl (by (try simp only [putAt, List.take, List.drop, List.nil_append, List.cons_append, List.append_nil, List.length_cons, List.length_nil, Nat.add_zero, Nat.zero_add, Nat.reduceAdd]); rfl)) (by rintro _ _ rfl; repeat (first | exact .nil | refine .cons rfl ?_)) ?_
      rintro _ _ rfl
      refine DL.q rfl (Yld.assign rfl) rfl ?_
      refine DL.done ?_
      refine N.block_normal ?_
      refine N.next ?_
      refine W.keep (.of [2, 3, 7, 9, 10, 11, 12] rfl) (.of [0, 1, 103, 107, 110, 150, 151, 152, 153, 161, 162, 163, 164] rfl) ?_
      refine W.region ?_
      refine RL.q (Yld.move rfl) rfl ?_
      refine RL.q (Yld.bin rfl rfl (by first | exact BinV.add (by omega) (by omega) | exact BinV.addW)) rfl ?_
      refine RL.q (Yld.assign rfl) rfl (RL.nil ?_)
      exact N.famK ⟨z.j + 1, x2, y2⟩ ⟨⟨by dsimp only; omega, hx2, hy2, hys2, hsi2⟩, by dsimp only; omega⟩ (.as rfl (by first | rfl | (simp; done) | (congr 1; simp; done) | (congr 1; omega)) (.as rfl (by first | rfl | (simp; done) | (congr 1; simp; done) | (congr 1; omega)) .nil)) (.to rfl) (.to rfl) (.to rfl)
     ·
      refine DL.one rfl (Yld.eff (by first | exact Yld.lrA 1 Tryz.underlying40 sz40 rfl rfl rfl | exact Yld.lrA 103 Tryz.underlying40 sz40 rfl rfl rfl | exact Yld.lrA 107 Tryz.underlying40 sz40 rfl rfl rfl | exact Yld.lrA 110 Tryz.underlying40 sz40 rfl rfl rfl | exact Yld.lrA 150 Tryz.underlying40 sz40 rfl rfl rfl | exact Yld.lrA 151 Tryz.underlying40 sz40 rfl rfl rfl | exact Yld.lrA 152 Tryz.underlying40 sz40 rfl rfl rfl | exact Yld.lrA 153 Tryz.underlying40 sz40 rfl rfl rfl | exact Yld.lrA 161 Tryz.underlying40 sz40 rfl rfl rfl | exact Yld.lrA 162 Tryz.underlying40 sz40 rfl rfl rfl | exact Yld.lrA 163 Tryz.underlying40 sz40 rfl rfl rfl | exact Yld.lrA 164 Tryz.underlying40 sz40 rfl rfl rfl)) rfl (by rintro _ _ ⟨rfl, rfl⟩; repeat (first | exact .nil | refine .cons rfl ?_)) ?_
      rintro _ _ ⟨rfl, rfl⟩
      refine DL.one rfl (Yld.eff (Yld.ldW 110 Tryz.underlying59 sz59 rfl rfl rfl rfl)) rfl (by rintro _ _ ⟨rfl, rfl⟩; repeat (first | exact .nil | refine .cons rfl ?_)) ?_
      rintro _ _ ⟨rfl, rfl⟩
      refine DL.one rfl (Eff.call ent32 [1, 150, 151, 152, 153, 161, 162, 163, 164] [1, 150, 151, 152, 153, 161, 162, 163, 164] (.cons rfl (.cons rfl (.cons rfl (.cons rfl .nil)))) (step_ct m H1 hM mach bt _ z.x hzx z.y hzy hzys o hv z.j (by omega) hsi (hR o (List.mem_of_getElem? ho))) rfl rfl rfl rfl (by rintro _ _ ⟨_, _, _, _, _, _, _, _, rfl⟩; rfl)) rfl (by rintro _ _ ⟨_, ⟨x2, y2, _, rfl, rfl, hx2, hy2, hys2, rfl⟩, rfl⟩; repeat (first | exact .nil | refine .cons rfl ?_)) ?_
      rintro _ _ ⟨_, ⟨x2, y2, _, rfl, rfl, hx2, hy2, hys2, rfl⟩, rfl⟩
      have hsi2 := hsi.step (o := o) (hR o (List.mem_of_getElem? ho))
      rw [← runP_take ho] at hx2 hys2 hsi2
      refine DL.q rfl (Yld.move rfl) rfl ?_
      refine DL.q rfl (Yld.extract rfl rfl) rfl ?_
      refine DL.q rfl (Yld.extract rfl rfl) rfl ?_
      refine DL.one0 rfl (Eff.storeS (c := 110) _ sz59 rfl rfl rfl rfl rfl rfl rfl (by (try simp only [putAt, List.take, List.drop, List.nil_append, List.cons_append, List.append_nil, List.length_cons, List.length_nil, Nat.add_zero, Nat.zero_add, Nat.reduceAdd]); rfl)) (by rintro _ _ rfl; repeat (first | exact .nil | refine .cons rfl ?_)) ?_
      rintro _ _ rfl
      refine DL.q rfl (Yld.assign rfl) rfl ?_
      refine DL.done ?_
      refine N.block_normal ?_
      refine N.next ?_
      refine W.keep (.of [2, 3, 7, 9, 10, 11, 12] rfl) (.of [0, 1, 103, 107, 110, 150, 151, 152, 153, 161, 162, 163, 164] rfl) ?_
      refine W.region ?_
      refine RL.q (Yld.move rfl) rfl ?_
      refine RL.q (Yld.bin rfl rfl (by first | exact BinV.add (by omega) (by omega) | exact BinV.addW)) rfl ?_
      refine RL.q (Yld.assign rfl) rfl (RL.nil ?_)
      exact N.famK ⟨z.j + 1, x2, y2⟩ ⟨⟨by dsimp only; omega, hx2, hy2, hys2, hsi2⟩, by dsimp only; omega⟩ (.as rfl (by first | rfl | (simp; done) | (congr 1; simp; done) | (congr 1; omega)) (.as rfl (by first | rfl | (simp; done) | (congr 1; simp; done) | (congr 1; omega)) .nil)) (.to rfl) (.to rfl) (.to rfl)
    ·
     have hend : z.j = l.length := by omega
     rw [hend, List.take_length] at hzx hzys
     refine W.exit ?_
     refine N.then_exit ?_
     refine N.then_exit ?_
     refine N.block_eq ?_
     refine N.next ?_
     refine W.keep (.of [7, 9, 10, 11] rfl) (.of [0, 1, 103, 107, 110, 150, 151, 152, 153, 161, 162, 163, 164] rfl) ?_
     refine W.seq ?_
     refine W.draw (.q 0 (.q 1 (.q 2 (.q 3 (.q 4 (.q 5 (.q 6 (.q 7 (.one 8 (.q 9 .done)))))))))) (.of [0, 1, 103, 110, 150, 151, 152, 153, 161, 162, 163, 164] rfl) mix (by kernel_rfl) (by kernel_rfl) ?_
     refine DL.q rfl (Yld.move rfl) rfl ?_
     refine DL.q rfl (Yld.ldW 110 Tryz.underlying59 sz59 rfl rfl rfl rfl) rfl ?_
     refine DL.q rfl (Yld.move rfl) rfl ?_
     refine DL.q rfl (Yld.move rfl) rfl ?_
     first | refine DL.as (t := 46) rfl (boolT (by first | assumption | omega | (simp; done))) ?_ | refine DL.as (t := 46) (v := .bool true) rfl rfl ?_
     refine DL.gq rfl rfl rfl (Yld.move rfl) rfl ?_
     refine DL.gq rfl rfl rfl (Yld.bin rfl rfl (BinV.neqPN Tryz.underlying33)) rfl ?_
     refine DL.q rfl Yld.pk rfl ?_
     refine DL.q rfl (Yld.assign rfl) rfl ?_
     refine DL.one0 rfl (Eff.storeS (c := 107) _ sz59 rfl rfl rfl rfl rfl rfl rfl (by (try simp only [putAt, List.take, List.drop, List.nil_append, List.cons_append, List.append_nil, List.length_cons, List.length_nil, Nat.add_zero, Nat.zero_add, Nat.reduceAdd]); rfl)) (by rintro _ _ rfl; repeat (first | exact .nil | refine .cons rfl ?_)) ?_
     rintro _ _ rfl
     refine DL.q rfl (Yld.assign rfl) rfl ?_
     refine DL.done ?_
     refine N.next ?_
     refine W.keep (.of [6, 7, 8] rfl) (.of [0, 1, 103, 107, 110, 150, 151, 152, 153, 161, 162, 163, 164] rfl) ?_
     refine W.ret ?_
     exact N.retBy [1, 150, 151, 152, 153, 161, 162, 163, 164] (.cons (.tmp rfl) (.cons (by first | exact .cell (c := 107) rfl rfl (fun w hs => run_loadVarA Tryz.underlying59 rfl sz59 rfl (fun j u hj => by rw [Nat.zero_add, PH.sub.cell hs (by first | exact single_self _ _ | exact pset_self _ _ _ | assumption)]; exact hj))) (.cons (.tmp rfl) .nil))) rfl rfl rfl rfl ⟨bt, z.x, z.y, rfl, hzx, hzy, hzys, rfl⟩
   ·
    refine DL.one rfl (Eff.alloc 110 zc59) rfl (by rintro _ _ ⟨b10, rfl, rfl⟩; repeat (first | exact .nil | refine .cons rfl ?_)) ?_
    rintro _ _ ⟨b10, rfl, rfl⟩
    refine DL.one rfl (Eff.call ent22 [1] [1, 161, 162, 163, 164] (.cons rfl (.cons rfl .nil)) (rnew_ct m H1 hM mach hv) rfl rfl rfl rfl (by rintro _ _ ⟨_, _, _, _, rfl⟩; rfl)) rfl (by rintro _ _ ⟨_, ⟨y0, rfl, hy0, hys0, rfl⟩, rfl⟩; repeat (first | exact .nil | refine .cons rfl ?_)) ?_
    rintro _ _ ⟨_, ⟨y0, rfl, hy0, hys0, rfl⟩, rfl⟩
    refine DL.q rfl (Yld.assign rfl) rfl ?_
    refine DL.one0 rfl (Eff.storeS (c := 110) _ sz59 rfl rfl rfl rfl rfl rfl rfl (by (try simp only [putAt, List.take, List.drop, List.nil_append, List.cons_append, List.append_nil, List.length_cons, List.length_nil, Nat.add_zero, Nat.zero_add, Nat.reduceAdd]); rfl)) (by rintro _ _ rfl; repeat (first | exact .nil | refine .cons rfl ?_)) ?_
    rintro _ _ rfl
    refine DL.q rfl (Yld.assign rfl) rfl ?_
    refine DL.done ?_
    refine N.next ?_
    refine W.keep (.of [2, 3, 7, 9, 10, 11] rfl) (.of [0, 1, 103, 107, 110, 150, 151, 152, 153, 161, 162, 163, 164] rfl) ?_
    refine W.seq ?_
    refine W.seq (W.region ?_)
    refine RL.q (Yld.assign rfl) rfl (RL.nil (N.next ?_))
    refine W.block ?_
    refine W.loopK (ι := RJ) (fun z => (z.j ≤ l.length ∧ z.x.Is (runP m mach (l.take z.j)) ∧ z.y.In ∧ z.y.Is (runP m mach (l.take z.j)) ∧ SI m mach z.j (runP m mach (l.take z.j)))) (fun z => [(11, .bool true), (12, .int .i64 (z.j : Nat))]) (fun z => [(110, single b10 (.cells [.int .i64 mach, .slice z.y.pu z.y.us.length z.y.cu, .int .i64 z.y.gen, .slice z.y.ps z.y.st.length z.y.cs, .slice z.y.pv z.y.va.length z.y.cv, .slice z.y.pc z.y.cl.length z.y.cc].toArray 59 (0, 0))), (150, single bt (.cells [.slice m.psi m.si.length m.csi, .slice m.pfe m.fe.length m.cfe, .slice m.prk m.rk.length m.crk, .slice m.pmc m.mc.length m.cmc, .slice m.pln m.ln.length m.cln, .slice m.pis m.is.length m.cis, .int .i64 m.da, .int .i64 m.sl, .int .i64 m.re, .int .i64 m.fa, .slice m.prl m.rl.length m.crl, .int .i64 mach, .slice z.x.pu z.x.nu z.x.cu, .slice z.x.pc z.x.nc z.x.cc, .int .i64 z.x.gen, .map (some z.x.d)].toArray 82 (0, 0))), (151, z.x.HU), (152, z.x.HC), (153, single z.x.d (.map z.x.es z.x.ck)), (161, z.y.HU), (162, z.y.HS), (163, z.y.HV), (164, z.y.HC)]) (fun z => l.length - z.j) (.of [2, 3, 7, 9, 10] rfl) (.of [0, 1, 103, 107] rfl) ⟨0, x0, y0⟩ ?_ ?_ ?_ ?_
    · exact ⟨Nat.zero_le _, hx0, hy0, hys0, .new hv hm1 hm2⟩
    · exact (.as rfl (by first | rfl | (simp; done) | (congr 1; simp; done) | (congr 1; omega)) (.as rfl (by first | rfl | (simp; done) | (congr 1; simp; done) | (congr 1; omega)) .nil))
    · exact (.to rfl)
    rintro z ⟨hj, hzx, hzy, hzys, hsi⟩
    refine W.keep (.of [11, 12, 2, 3, 7, 9, 10] rfl) (.of [110, 150, 151, 152, 153, 161, 162, 163, 164, 0, 1, 103, 107] rfl) ?_
    refine W.seq ?_
    refine W.seq (W.region ?_)
    refine RL.q (Yld.move rfl) rfl ?_
    refine RL.q (Yld.bin rfl rfl (BinV.neqPN Tryz.underlying33)) rfl ?_
    refine RL.q (Yld.move rfl) rfl ?_
    first | refine RL.as (t := 21) rfl (boolT (by first | assumption | omega | (simp; done))) ?_ | refine RL.as (t := 21) (v := .bool true) rfl rfl ?_
    refine RL.gq rfl rfl (Yld.move rfl) rfl ?_
    refine RL.q Yld.pk rfl (RL.q (Yld.move rfl) rfl ?_)
    first | refine RL.as (t := 24) rfl (boolT (by first | assumption | omega | (simp; done))) ?_ | refine RL.as (t := 24) (v := .bool true) rfl rfl ?_
    refine RL.gq rfl rfl (Yld.move rfl) rfl ?_
    refine RL.gq rfl rfl (Yld.move rfl) rfl ?_
    refine RL.gq rfl rfl (Yld.lenSl Tryz.underlying30 rfl) rfl ?_
    refine RL.gq rfl rfl (Yld.bin rfl rfl BinV.lss) rfl ?_
    refine RL.q Yld.pk rfl (RL.nil (N.next ?_))
    refine W.keep (.of [2, 3, 7, 9, 10, 11, 12, 29] rfl) (.of [0, 1, 103, 107, 110, 150, 151, 152, 153, 161, 162, 163, 164] rfl) ?_
    first | refine W.condD rfl (fun hc29 => ?_) (fun hc29 => ?_) | (refine W.cond rfl (fun hc29 => ?_) (fun hc29 => ?_) <;> try simp only [Bool.or_eq_true, Bool.and_eq_true, Bool.not_eq_true', Bool.not_eq_false', decide_eq_true_eq, Bool.or_eq_false_iff, Bool.and_eq_false_iff, decide_eq_false_iff_not, beq_iff_eq, beq_eq_false_iff_ne, ne_eq, Decidable.not_not] at hc29)
    ·
     obtain ⟨o, ho⟩ : ∃ o, l[z.j]? = some o := ⟨_, List.getElem?_eq_getElem (show z.j < l.length by omega)⟩
     have hlo : (l.map Opn.cs)[z.j]? = some o.cs := by simp [ho]
     refine W.skip ?_
     refine N.next ?_
     refine W.seq ?_
     refine W.block ?_
     refine W.draw (.q 0 (.q 1 (.q 3 (.q 4 (.q 5 (.two 2 (.one 6 (.one 7 (.q 8 (.q 9 (.q 10 (.one 11 (.q 12 .done))))))) 6 (.one 2 (.one 7 (.q 8 (.q 9 (.q 10 (.one 11 (.q 12 .done))))))))))))) (.of [0, 103, 107] rfl) mix (by kernel_rfl) (by kernel_rfl) ?_
     refine DL.q rfl (Yld.ldW 103 Tryz.underlying29 sz29 rfl rfl rfl rfl) rfl ?_
     refine DL.q rfl (Yld.move rfl) rfl ?_
     refine DL.q rfl (Yld.move rfl) rfl ?_
     refine DL.q rfl (Yld.move rfl) rfl ?_
     refine DL.q rfl (Yld.ixr Tryz.underlying30 sz40 rfl rfl) rfl ?_
     refine DL.two ?_ ?_
     ·
      refine DL.one rfl (Yld.eff (Yld.ldW 110 Tryz.underlying59 sz59 rfl rfl rfl rfl)) rfl (by rintro _ _ ⟨rfl, rfl⟩; repeat (first | exact .nil | refine .cons rfl ?_)) ?_
      rintro _ _ ⟨rfl, rfl⟩
      refine DL.one rfl (Yld.eff (by first | exact Yld.lrA 1 Tryz.underlying40 sz40 rfl rfl rfl | exact Yld.lrA 103 Tryz.underlying40 sz40 rfl rfl rfl | exact Yld.lrA 107 Tryz.underlying40 sz40 rfl rfl rfl | exact Yld.lrA 110 Tryz.underlying40 sz40 rfl rfl rfl | exact Yld.lrA 150 Tryz.underlying40 sz40 rfl rfl rfl | exact Yld.lrA 151 Tryz.underlying40 sz40 rfl rfl rfl | exact Yld.lrA 152 Tryz.underlying40 sz40 rfl rfl rfl | exact Yld.lrA 153 Tryz.underlying40 sz40 rfl rfl rfl | exact Yld.lrA 161 Tryz.underlying40 sz40 rfl rfl rfl | exact Yld.lrA 162 Tryz.underlying40 sz40 rfl rfl rfl | exact Yld.lrA 163 Tryz.underlying40 sz40 rfl rfl rfl | exact Yld.lrA 164 Tryz.underlying40 sz40 rfl rfl rfl)) rfl (by rintro _ _ ⟨rfl, rfl⟩; repeat (first | exact .nil | refine .cons rfl ?_)) ?_
      rintro _ _ ⟨rfl, rfl⟩
      refine DL.one rfl (Eff.call ent32 [1, 150, 151, 152, 153, 161, 162, 163, 164] [1, 150, 151, 152, 153, 161, 162, 163, 164] (.cons rfl (.cons rfl (.cons rfl (.cons rfl .nil)))) (step_ct m H1 hM mach bt _ z.x hzx z.y hzy hzys o hv z.j (by omega) hsi (hR o (List.mem_of_getElem? ho))) rfl rfl rfl rfl (by rintro _ _ ⟨_, _, _, _, _, _, _, _, rfl⟩; rfl)) rfl (by rintro _ _ ⟨_, ⟨x2, y2, _, rfl, rfl, hx2, hy2, hys2, rfl⟩, rfl⟩; repeat (first | exact .nil | refine .cons rfl ?_)) ?_
      rintro _ _ ⟨_, ⟨x2, y2, _, rfl, rfl, hx2, hy2, hys2, rfl⟩, rfl⟩
      have hsi2 := hsi.step (o := o) (hR o (List.mem_of_getElem? ho))
      rw [← runP_take ho] at hx2 hys2 hsi2
      refine DL.q rfl (Yld.move rfl) rfl ?_
      refine DL.q rfl (Yld.extract rfl rfl) rfl ?_
      refine DL.q rfl (Yld.extract rfl rfl) rfl ?_
      refine DL.one0 rfl (Eff.storeS (c := 110) _ sz59 rfl rfl rfl rfl rfl rfl rfl (by (try simp only [putAt, List.take, List.drop, List.nil_append, List.cons_append, List.append_nil, List.length_cons, List.length_nil, Nat.add_zero, Nat.zero_add, Nat.reduceAdd]); rfl)) (by rintro _ _ rfl; repeat (first | exact .nil | refine .cons rfl ?_)) ?_
      rintro _ _ rfl
      refine DL.q rfl (Yld.assign rfl) rfl ?_
      refine DL.done ?_
      refine N.block_normal ?_
      refine N.next ?_
      refine W.keep (.of [2, 3, 7, 9, 10, 11, 12] rfl) (.of [0, 1, 103, 107, 110, 150, 151, 152, 153, 161, 162, 163, 164] rfl) ?_
      refine W.region ?_
      refine RL.q (Yld.move rfl) rfl ?_
      refine RL.q (Yld.bin rfl rfl (by first | exact BinV.add (by omega) (by omega) | exact BinV.addW)) rfl ?_
      refine RL.q (Yld.assign rfl) rfl (RL.nil ?_)
      exact N.famK ⟨z.j + 1, x2, y2⟩ ⟨⟨by dsimp only; omega, hx2, hy2, hys2, hsi2⟩, by dsimp only; omega⟩ (.as rfl (by first | rfl | (simp; done) | (congr 1; simp; done) | (congr 1; omega)) (.as rfl (by first | rfl | (simp; done) | (congr 1; simp; done) | (congr 1; omega)) .nil)) (.to rfl) (.to rfl) (.to rfl)
     ·
      refine DL.one rfl (Yld.eff (by first | exact Yld.lrA 1 Tryz.underlying40 sz40 rfl rfl rfl | exact Yld.lrA 103 Tryz.underlying40 sz40 rfl rfl rfl | exact Yld.lrA 107 Tryz.underlying40 sz40 rfl rfl rfl | exact Yld.lrA 110 Tryz.underlying40 sz40 rfl rfl rfl | exact Yld.lrA 150 Tryz.underlying40 sz40 rfl rfl rfl | exact Yld.lrA 151 Tryz.underlying40 sz40 rfl rfl rfl | exact Yld.lrA 152 Tryz.underlying40 sz40 rfl rfl rfl | exact Yld.lrA 153 Tryz.underlying40 sz40 rfl rfl rfl | exact Yld.lrA 161 Tryz.underlying40 sz40 rfl rfl rfl | exact Yld.lrA 162 Tryz.underlying40 sz40 rfl rfl rfl | exact Yld.lrA 163 Tryz.underlying40 sz40 rfl rfl rfl | exact Yld.lrA 164 Tryz.underlying40 sz40 rfl rfl rfl)) rfl (by rintro _ _ ⟨rfl, rfl⟩; repeat (first | exact .nil | refine .cons rfl ?_)) ?_
      rintro _ _ ⟨rfl, rfl⟩
      refine DL.one rfl (Yld.eff (Yld.ldW 110 Tryz.underlying59 sz59 rfl rfl rfl rfl)) rfl (by rintro _ _ ⟨rfl, rfl⟩; repeat (first | exact .nil | refine .cons rfl ?_)) ?_
      rintro _ _ ⟨rfl, rfl⟩
      refine DL.one rfl (Eff.call ent32 [1, 150, 151, 152, 153, 161, 162, 163, 164] [1, 150, 151, 152, 153, 161, 162, 163, 164] (.cons rfl (.cons rfl (.cons rfl (.cons rfl .nil)))) (step_ct m H1 hM mach bt _ z.x hzx z.y hzy hzys o hv z.j (by omega) hsi (hR o (List.mem_of_getElem? ho))) rfl rfl rfl rfl (by rintro _ _ ⟨_, _, _, _, _, _, _, _, rfl⟩; rfl)) rfl (by rintro _ _ ⟨_, ⟨x2, y2, _, rfl, rfl, hx2, hy2, hys2, rfl⟩, rfl⟩; repeat (first | exact .nil | refine .cons rfl ?_)) ?_
      rintro _ _ ⟨_, ⟨x2, y2, _, rfl, rfl, hx2, hy2, hys2, rfl⟩, rfl⟩
      have hsi2 := hsi.step (o := o) (hR o (List.mem_of_getElem? ho))
      rw [← runP_take ho] at hx2 hys2 hsi2
      refine DL.q rfl (Yld.move rfl) rfl ?_
      refine DL.q rfl (Yld.extract rfl rfl) rfl ?_
      refine DL.q rfl (Yld.extract rfl rfl) rfl ?_
      refine DL.one0 rfl (Eff.storeS (c := 110) _ sz59 rfl rfl rfl rfl rfl rfl rfl (by (try simp only [putAt, List.take, List.drop, List.nil_append, List.cons_append, List.append_nil, List.length_cons, List.length_nil, Nat.add_zero, Nat.zero_add, Nat.reduceAdd]); rfl)) (by rintro _ _ rfl; repeat (first | exact .nil | refine .cons rfl ?_)) ?_
      rintro _ _ rfl
      refine DL.q rfl (Yld.assign rfl) rfl ?_
      refine DL.done ?_
      refine N.block_normal ?_
      refine N.next ?_
      refine W.keep (.of [2, 3, 7, 9, 10, 11, 12] rfl) (.of [0, 1, 103, 107, 110, 150, 151, 152, 153, 161, 162, 163, 164] rfl) ?_
      refine W.region ?_
      refine RL.q (Yld.move rfl) rfl ?_
      refine RL.q (Yld.bin rfl rfl (by first | exact BinV.add (by omega) (by omega) | exact BinV.addW)) rfl ?_
      refine RL.q (Yld.assign rfl) rfl (RL.nil ?_)
      exact N.famK ⟨z.j + 1, x2, y2⟩ ⟨⟨by dsimp only; omega, hx2, hy2, hys2, hsi2⟩, by dsimp only; omega⟩ (.as rfl (by first | rfl | (simp; done) | (congr 1; simp; done) | (congr 1; omega)) (.as rfl (by first | rfl | (simp; done) | (congr 1; simp; done) | (congr 1; omega)) .nil)) (.to rfl) (.to rfl) (.to rfl)
    ·
     have hend : z.j = l.length := by omega
     rw [hend, List.take_length] at hzx hzys
     refine W.exit ?_
     refine N.then_exit ?_
     refine N.then_exit ?_
     refine N.block_eq ?_
     refine N.next ?_
     refine W.keep (.of [7, 9, 10, 11] rfl) (.of [0, 1, 103, 107, 110, 150, 151, 152, 153, 161, 162, 163, 164] rfl) ?_
     refine W.seq ?_
     refine W.draw (.q 0 (.q 1 (.q 2 (.q 3 (.q 4 (.q 5 (.q 6 (.q 7 (.one 8 (.q 9 .done)))))))))) (.of [0, 1, 103, 110, 150, 151, 152, 153, 161, 162, 163, 164] rfl) mix (by kernel_rfl) (by kernel_rfl) ?_
     refine DL.q rfl (Yld.move rfl) rfl ?_
     refine DL.q rfl (Yld.ldW 110 Tryz.underlying59 sz59 rfl rfl rfl rfl) rfl ?_
     refine DL.q rfl (Yld.move rfl) rfl ?_
     refine DL.q rfl (Yld.move rfl) rfl ?_
     first | refine DL.as (t := 46) rfl (boolT (by first | assumption | omega | (simp; done))) ?_ | refine DL.as (t := 46) (v := .bool true) rfl rfl ?_
     refine DL.gq rfl rfl rfl (Yld.move rfl) rfl ?_
     refine DL.gq rfl rfl rfl (Yld.bin rfl rfl (BinV.neqPN Tryz.underlying33)) rfl ?_
     refine DL.q rfl Yld.pk rfl ?_
     refine DL.q rfl (Yld.assign rfl) rfl ?_
     refine DL.one0 rfl (Eff.storeS (c := 107) _ sz59 rfl rfl rfl rfl rfl rfl rfl (by (try simp only [putAt, List.take, List.drop, List.nil_append, List.cons_append, List.append_nil, List.length_cons, List.length_nil, Nat.add_zero, Nat.zero_add, Nat.reduceAdd]); rfl)) (by rintro _ _ rfl; repeat (first | exact .nil | refine .cons rfl ?_)) ?_
     rintro _ _ rfl
     refine DL.q rfl (Yld.assign rfl) rfl ?_
     refine DL.done ?_
     refine N.next ?_
     refine W.keep (.of [6, 7, 8] rfl) (.of [0, 1, 103, 107, 110, 150, 151, 152, 153, 161, 162, 163, 164] rfl) ?_
     refine W.ret ?_
     exact N.retBy [1, 150, 151, 152, 153, 161, 162, 163, 164] (.cons (.tmp rfl) (.cons (by first | exact .cell (c := 107) rfl rfl (fun w hs => run_loadVarA Tryz.underlying59 rfl sz59 rfl (fun j u hj => by rw [Nat.zero_add, PH.sub.cell hs (by first | exact single_self _ _ | exact pset_self _ _ _ | assumption)]; exact hj))) (.cons (.tmp rfl) .nil))) rfl rfl rfl rfl ⟨bt, z.x, z.y, rfl, hzx, hzy, hzys, rfl⟩
  ·
   refine DL.one rfl (Eff.alloc 110 zc59) rfl (by rintro _ _ ⟨b10, rfl, rfl⟩; repeat (first | exact .nil | refine .cons rfl ?_)) ?_
   rintro _ _ ⟨b10, rfl, rfl⟩
   refine DL.one rfl (Eff.call ent13 [1] [1, 150, 151, 152, 153] (.cons rfl (.cons rfl .nil)) (new_ct m H1 hM hT mach hv hm1 hm2) rfl rfl rfl rfl (by rintro _ _ ⟨_, _, _, _, rfl⟩; rfl)) rfl (by rintro _ _ ⟨_, ⟨bt, x0, rfl, hx0, rfl⟩, rfl⟩; repeat (first | exact .nil | refine .cons rfl ?_)) ?_
   rintro _ _ ⟨_, ⟨bt, x0, rfl, hx0, rfl⟩, rfl⟩
   refine DL.one rfl (Eff.call ent22 [1] [1, 161, 162, 163, 164] (.cons rfl (.cons rfl .nil)) (rnew_ct m H1 hM mach hv) rfl rfl rfl rfl (by rintro _ _ ⟨_, _, _, _, rfl⟩; rfl)) rfl (by rintro _ _ ⟨_, ⟨y0, rfl, hy0, hys0, rfl⟩, rfl⟩; repeat (first | exact .nil | refine .cons rfl ?_)) ?_
   rintro _ _ ⟨_, ⟨y0, rfl, hy0, hys0, rfl⟩, rfl⟩
   refine DL.q rfl (Yld.assign rfl) rfl ?_
   refine DL.one0 rfl (Eff.storeS (c := 110) _ sz59 rfl rfl rfl rfl rfl rfl rfl (by (try simp only [putAt, List.take, List.drop, List.nil_append, List.cons_append, List.append_nil, List.length_cons, List.length_nil, Nat.add_zero, Nat.zero_add, Nat.reduceAdd]); rfl)) (by rintro _ _ rfl; repeat (first | exact .nil | refine .cons rfl ?_)) ?_
   rintro _ _ rfl
   refine DL.q rfl (Yld.assign rfl) rfl ?_
   refine DL.done ?_
   refine N.next ?_
   refine W.keep (.of [2, 3, 7, 9, 10, 11] rfl) (.of [0, 1, 103, 107, 110, 150, 151, 152, 153, 161, 162, 163, 164] rfl) ?_
   refine W.seq ?_
   refine W.seq (W.region ?_)
   refine RL.q (Yld.assign rfl) rfl (RL.nil (N.next ?_))
   refine W.block ?_
   refine W.loopK (ι := RJ) (fun z => (z.j ≤ l.length ∧ z.x.Is (runP m mach (l.take z.j)) ∧ z.y.In ∧ z.y.Is (runP m mach (l.take z.j)) ∧ SI m mach z.j (runP m mach (l.take z.j)))) (fun z => [(11, .bool true), (12, .int .i64 (z.j : Nat))]) (fun z => [(110, single b10 (.cells [.int .i64 mach, .slice z.y.pu z.y.us.length z.y.cu, .int .i64 z.y.gen, .slice z.y.ps z.y.st.length z.y.cs, .slice z.y.pv z.y.va.length z.y.cv, .slice z.y.pc z.y.cl.length z.y.cc].toArray 59 (0, 0))), (150, single bt (.cells [.slice m.psi m.si.length m.csi, .slice m.pfe m.fe.length m.cfe, .slice m.prk m.rk.length m.crk, .slice m.pmc m.mc.length m.cmc, .slice m.pln m.ln.length m.cln, .slice m.pis m.is.length m.cis, .int .i64 m.da, .int .i64 m.sl, .int .i64 m.re, .int .i64 m.fa, .slice m.prl m.rl.length m.crl, .int .i64 mach, .slice z.x.pu z.x.nu z.x.cu, .slice z.x.pc z.x.nc z.x.cc, .int .i64 z.x.gen, .map (some z.x.d)].toArray 82 (0, 0))), (151, z.x.HU), (152, z.x.HC), (153, single z.x.d (.map z.x.es z.x.ck)), (161, z.y.HU), (162, z.y.HS), (163, z.y.HV), (164, z.y.HC)]) (fun z => l.length - z.j) (.of [2, 3, 7, 9, 10] rfl) (.of [0, 1, 103, 107] rfl) ⟨0, x0, y0⟩ ?_ ?_ ?_ ?_
   · exact ⟨Nat.zero_le _, hx0, hy0, hys0, .new hv hm1 hm2⟩
   · exact (.as rfl (by first | rfl | (simp; done) | (congr 1; simp; done) | (congr 1; omega)) (.as rfl (by first | rfl | (simp; done) | (congr 1; simp; done) | (congr 1; omega)) .nil))
   · exact (.to rfl)
   rintro z ⟨hj, hzx, hzy, hzys, hsi⟩
   refine W.keep (.of [11, 12, 2, 3, 7, 9, 10] rfl) (.of [110, 150, 151, 152, 153, 161, 162, 163, 164, 0, 1, 103, 107] rfl) ?_
   refine W.seq ?_
   refine W.seq (W.region ?_)
   refine RL.q (Yld.move rfl) rfl ?_
   refine RL.q (Yld.bin rfl rfl (BinV.neqPN Tryz.underlying33)) rfl ?_
   refine RL.q (Yld.move rfl) rfl ?_
   first | refine RL.as (t := 21) rfl (boolT (by first | assumption | omega | (simp; done))) ?_ | refine RL.as (t := 21) (v := .bool true) rfl rfl ?_
   refine RL.gq rfl rfl (Yld.move rfl) rfl ?_
   refine RL.q Yld.pk rfl (RL.q (Yld.move rfl) rfl ?_)
   first | refine RL.as (t := 24) rfl (boolT (by first | assumption | omega | (simp; done))) ?_ | refine RL.as (t := 24) (v := .bool true) rfl rfl ?_
   refine RL.gq rfl rfl (Yld.move rfl) rfl ?_
   refine RL.gq rfl rfl (Yld.move rfl) rfl ?_
   refine RL.gq rfl rfl (Yld.lenSl Tryz.underlying30 rfl) rfl ?_
   refine RL.gq rfl rfl (Yld.bin rfl rfl BinV.lss) rfl ?_
   refine RL.q Yld.pk rfl (RL.nil (N.next ?_))
   refine W.keep (.of [2, 3, 7, 9, 10, 11, 12, 29] rfl) (.of [0, 1, 103, 107, 110, 150, 151, 152, 153, 161, 162, 163, 164] rfl) ?_
   first | refine W.condD rfl (fun hc29 => ?_) (fun hc29 => ?_) | (refine W.cond rfl (fun hc29 => ?_) (fun hc29 => ?_) <;> try simp only [Bool.or_eq_true, Bool.and_eq_true, Bool.not_eq_true', Bool.not_eq_false', decide_eq_true_eq, Bool.or_eq_false_iff, Bool.and_eq_false_iff, decide_eq_false_iff_not, beq_iff_eq, beq_eq_false_iff_ne, ne_eq, Decidable.not_not] at hc29)
   ·
    obtain ⟨o, ho⟩ : ∃ o, l[z.j]? = some o := ⟨_, List.getElem?_eq_getElem (show z.j < l.length by omega)⟩
    have hlo : (l.map Opn.cs)[z.j]? = some o.cs := by simp [ho]
    refine W.skip ?_
    refine N.next ?_
    refine W.seq ?_
    refine W.block ?_
    refine W.draw (.q 0 (.q 1 (.q 3 (.q 4 (.q 5 (.two 2 (.one 6 (.one 7 (.q 8 (.q 9 (.q 10 (.one 11 (.q 12 .done))))))) 6 (.one 2 (.one 7 (.q 8 (.q 9 (.q 10 (.one 11 (.q 12 .done))))))))))))) (.of [0, 103, 107] rfl) mix (by kernel_rfl) (by kernel_rfl) ?_
    refine DL.q rfl (Yld.ldW 103 Tryz.underlying29 sz29 rfl rfl rfl rfl) rfl ?_
    refine DL.q rfl (Yld.move rfl) rfl ?_
    refine DL.q rfl (Yld.move rfl) rfl ?_
    refine DL.q rfl (Yld.move rfl) rfl ?_
    refine DL.q rfl (Yld.ixr Tryz.underlying30 sz40 rfl rfl) rfl ?_
    refine DL.two ?_ ?_
    ·
     refine DL.one rfl (Yld.eff (Yld.ldW 110 Tryz.underlying59 sz59 rfl rfl rfl rfl)) rfl (by rintro _ _ ⟨rfl, rfl⟩; repeat (first | exact .nil | refine .cons rfl ?_)) ?_
     rintro _ _ ⟨rfl, rfl⟩
     refine DL.one rfl (Yld.eff (by first | exact Yld.lrA 1 Tryz.underlying40 sz40 rfl rfl rfl | exact Yld.lrA 103 Tryz.underlying40 sz40 rfl rfl rfl | exact Yld.lrA 107 Tryz.underlying40 sz40 rfl rfl rfl | exact Yld.lrA 110 Tryz.underlying40 sz40 rfl rfl rfl | exact Yld.lrA 150 Tryz.underlying40 sz40 rfl rfl rfl | exact Yld.lrA 151 Tryz.underlying40 sz40 rfl rfl rfl | exact Yld.lrA 152 Tryz.underlying40 sz40 rfl rfl rfl | exact Yld.lrA 153 Tryz.underlying40 sz40 rfl rfl rfl | exact Yld.lrA 161 Tryz.underlying40 sz40 rfl rfl rfl | exact Yld.lrA 162 Tryz.underlying40 sz40 rfl rfl rfl | exact Yld.lrA 163 Tryz.underlying40 sz40 rfl rfl rfl | exact Yld.lrA 164 Tryz.underlying40 sz40 rfl rfl rfl)) rfl (by rintro _ _ ⟨rfl, rfl⟩; repeat (first | exact .nil | refine .cons rfl ?_)) ?_
     rintro _ _ ⟨rfl, rfl⟩
     refine DL.one rfl (Eff.call ent32 [1, 150, 151, 152, 153, 161, 162, 163, 164] [1, 150, 151, 152, 153, 161, 162, 163, 164] (.cons rfl (.cons rfl (.cons rfl (.cons rfl .nil)))) (step_ct m H1 hM mach bt _ z.x hzx z.y hzy hzys o hv z.j (by omega) hsi (hR o (List.mem_of_getElem? ho))) rfl rfl rfl rfl (by rintro _ _ ⟨_, _, _, _, _, _, _, _, rfl⟩; rfl)) rfl (by rintro _ _ ⟨_, ⟨x2, y2, _, rfl, rfl, hx2, hy2, hys2, rfl⟩, rfl⟩; repeat (first | exact .nil | refine .cons rfl ?_)) ?_
     rintro _ _ ⟨_, ⟨x2, y2, _, rfl, rfl, hx2, hy2, hys2, rfl⟩, rfl⟩
     have hsi2 := hsi.step (o := o) (hR o (List.mem_of_getElem? ho))
     rw [← runP_take ho] at hx2 hys2 hsi2
     refine DL.q rfl (Yld.move rfl) rfl ?_
     refine DL.q rfl (Yld.extract rfl rfl) rfl ?_
     refine DL.q rfl (Yld.extract rfl rfl) rfl ?_
     refine DL.one0 rfl (Eff.storeS (c := 110) _ sz59 rfl rfl rfl rfl rfl rfl rfl (by (try simp only [putAt, List.take, List.drop, List.nil_append, List.cons_append, List.append_nil, List.length_cons, List.length_nil, Nat.add_zero, Nat.zero_add, Nat.reduceAdd]); rfl)) (by rintro _ _ rfl; repeat (first | exact .nil | refine .cons rfl ?_)) ?_
     rintro _ _ rfl
     refine DL.q rfl (Yld.assign rfl) rfl ?_
     refine DL.done ?_
     refine N.block_normal ?_
     refine N.next ?_
     refine W.keep (.of [2, 3, 7, 9, 10, 11, 12] rfl) (.of [0, 1, 103, 107, 110, 150, 151, 152, 153, 161, 162, 163, 164] rfl) ?_
     refine W.region ?_
     refine RL.q (Yld.move rfl) rfl ?_
     refine RL.q (Yld.bin rfl rfl (by first | exact BinV.add (by omega) (by omega) | exact BinV.addW)) rfl ?_
     refine RL.q (Yld.assign rfl) rfl (RL.nil ?_)
     exact N.famK ⟨z.j + 1, x2, y2⟩ ⟨⟨by dsimp only; omega, hx2, hy2, hys2, hsi2⟩, by dsimp only; omega⟩ (.as rfl (by first | rfl | (simp; done) | (congr 1; simp; done) | (congr 1; omega)) (.as rfl (by first | rfl | (simp; done) | (congr 1; simp; done) | (congr 1; omega)) .nil)) (.to rfl) (.to rfl) (.to rfl)
    ·
     refine DL.one rfl (Yld.eff (by first | exact Yld.lrA 1 Tryz.underlying40 sz40 rfl rfl rfl | exact Yld.lrA 103 Tryz.underlying40 sz40 rfl rfl rfl | exact Yld.lrA 107 Tryz.underlying40 sz40 rfl rfl rfl | exact Yld.lrA 110 Tryz.underlying40 sz40 rfl rfl rfl | exact Yld.lrA 150 Tryz.underlying40 sz40 rfl rfl rfl | exact Yld.lrA 151 Tryz.underlying40 sz40 rfl rfl rfl | exact Yld.lrA 152 Tryz.underlying40 sz40 rfl rfl rfl | exact Yld.lrA 153 Tryz.underlying40 sz40 rfl rfl rfl | exact Yld.lrA 161 Tryz.underlying40 sz40 rfl rfl rfl | exact Yld.lrA 162 Tryz.underlying40 sz40 rfl rfl rfl | exact Yld.lrA 163 Tryz.underlying40 sz40 rfl rfl rfl | exact Yld.lrA 164 Tryz.underlying40 sz40 rfl rfl rfl)) rfl (by rintro _ _ ⟨rfl, rfl⟩; repeat (first | exact .nil | refine .cons rfl ?_)) ?_
     rintro _ _ ⟨rfl, rfl⟩
     refine DL.one rfl (Yld.eff (Yld.ldW 110 Tryz.underlying59 sz59 rfl rfl rfl rfl)) rfl (by rintro _ _ ⟨rfl, rfl⟩; repeat (first | exact .nil | refine .cons rfl ?_)) ?_
     rintro _ _ ⟨rfl, rfl⟩
     refine DL.one rfl (Eff.call ent32 [1, 150, 151, 152, 153, 161, 162, 163, 164] [1, 150, 151, 152, 153, 161, 162, 163, 164] (.cons rfl (.cons rfl (.cons rfl (.cons rfl .nil)))) (step_ct m H1 hM mach bt _ z.x hzx z.y hzy hzys o hv z.j (by omega) hsi (hR o (List.mem_of_getElem? ho))) rfl rfl rfl rfl (by rintro _ _ ⟨_, _, _, _, _, _, _, _, rfl⟩; rfl)) rfl (by rintro _ _ ⟨_, ⟨x2, y2, _, rfl, rfl, hx2, hy2, hys2, rfl⟩, rfl⟩; repeat (first | exact .nil | refine .cons rfl ?_)) ?_
     rintro _ _ ⟨_, ⟨x2, y2, _, rfl, rfl, hx2, hy2, hys2, rfl⟩, rfl⟩
     have hsi2 := hsi.step (o := o) (hR o (List.mem_of_getElem? ho))
     rw [← runP_take ho] at hx2 hys2 hsi2
     refine DL.q rfl (Yld.move rfl) rfl ?_
     refine DL.q rfl (Yld.extract rfl rfl) rfl ?_
     refine DL.q rfl (Yld.extract rfl rfl) rfl ?_
     refine DL.one0 rfl (Eff.storeS (c := 110) _ sz59 rfl rfl rfl rfl rfl rfl rfl (by (try simp only [putAt, List.take, List.drop, List.nil_append, List.cons_append, List.append_nil, List.length_cons, List.length_nil, Nat.add_zero, Nat.zero_add, Nat.reduceAdd]); rfl)) (by rintro _ _ rfl; repeat (first | exact .nil | refine .cons rfl ?_)) ?_
     rintro _ _ rfl
     refine DL.q rfl (Yld.assign rfl) rfl ?_
     refine DL.done ?_
     refine N.block_normal ?_
     refine N.next ?_
     refine W.keep (.of [2, 3, 7, 9, 10, 11, 12] rfl) (.of [0, 1, 103, 107, 110, 150, 151, 152, 153, 161, 162, 163, 164] rfl) ?_
     refine W.region ?_
     refine RL.q (Yld.move rfl) rfl ?_
     refine RL.q (Yld.bin rfl rfl (by first | exact BinV.add (by omega) (by omega) | exact BinV.addW)) rfl ?_
     refine RL.q (Yld.assign rfl) rfl (RL.nil ?_)
     exact N.famK ⟨z.j + 1, x2, y2⟩ ⟨⟨by dsimp only; omega, hx2, hy2, hys2, hsi2⟩, by dsimp only; omega⟩ (.as rfl (by first | rfl | (simp; done) | (congr 1; simp; done) | (congr 1; omega)) (.as rfl (by first | rfl | (simp; done) | (congr 1; simp; done) | (congr 1; omega)) .nil)) (.to rfl) (.to rfl) (.to rfl)
   ·
    have hend : z.j = l.length := by omega
    rw [hend, List.take_length] at hzx hzys
    refine W.exit ?_
    refine N.then_exit ?_
    refine N.then_exit ?_
    refine N.block_eq ?_
    refine N.next ?_
    refine W.keep (.of [7, 9, 10, 11] rfl) (.of [0, 1, 103, 107, 110, 150, 151, 152, 153, 161, 162, 163, 164] rfl) ?_
    refine W.seq ?_
    refine W.draw (.q 0 (.q 1 (.q 2 (.q 3 (.q 4 (.q 5 (.q 6 (.q 7 (.one 8 (.q 9 .done)))))))))) (.of [0, 1, 103, 110, 150, 151, 152, 153, 161, 162, 163, 164] rfl) mix (by kernel_rfl) (by kernel_rfl) ?_
    refine DL.q rfl (Yld.move rfl) rfl ?_
    refine DL.q rfl (Yld.ldW 110 Tryz.underlying59 sz59 rfl rfl rfl rfl) rfl ?_
    refine DL.q rfl (Yld.move rfl) rfl ?_
    refine DL.q rfl (Yld.move rfl) rfl ?_
    first | refine DL.as (t := 46) rfl (boolT (by first | assumption | omega | (simp; done))) ?_ | refine DL.as (t := 46) (v := .bool true) rfl rfl ?_
    refine DL.gq rfl rfl rfl (Yld.move rfl) rfl ?_
    refine DL.gq rfl rfl rfl (Yld.bin rfl rfl (BinV.neqPN Tryz.underlying33)) rfl ?_
    refine DL.q rfl Yld.pk rfl ?_
    refine DL.q rfl (Yld.assign rfl) rfl ?_
    refine DL.one0 rfl (Eff.storeS (c := 107) _ sz59 rfl rfl rfl rfl rfl rfl rfl (by (try simp only [putAt, List.take, List.drop, List.nil_append, List.cons_append, List.append_nil, List.length_cons, List.length_nil, Nat.add_zero, Nat.zero_add, Nat.reduceAdd]); rfl)) (by rintro _ _ rfl; repeat (first | exact .nil | refine .cons rfl ?_)) ?_
    rintro _ _ rfl
    refine DL.q rfl (Yld.assign rfl) rfl ?_
    refine DL.done ?_
    refine N.next ?_
    refine W.keep (.of [6, 7, 8] rfl) (.of [0, 1, 103, 107, 110, 150, 151, 152, 153, 161, 162, 163, 164] rfl) ?_
    refine W.ret ?_
    exact N.retBy [1, 150, 151, 152, 153, 161, 162, 163, 164] (.cons (.tmp rfl) (.cons (by first | exact .cell (c := 107) rfl rfl (fun w hs => run_loadVarA Tryz.underlying59 rfl sz59 rfl (fun j u hj => by rw [Nat.zero_add, PH.sub.cell hs (by first | exact single_self _ _ | exact pset_self _ _ _ | assumption)]; exact hj))) (.cons (.tmp rfl) .nil))) rfl rfl rfl rfl ⟨bt, z.x, z.y, rfl, hzx, hzy, hzys, rfl⟩
end Go.Proofs.YtboapdcmaeojgaaGreatDoor
namespace Go.Proofs.YtboapdcmaeojgaaGreatDoor
open SL Cat Fen
set_option linter.unusedVariables false
set_option linter.unusedSimpArgs false
theorem ent11 : Ent Tryz.prog 11 := ⟨_, _, Tryz.func11, by kernel_rfl, rfl⟩
theorem ent12 : Ent Tryz.prog 12 := ⟨_, _, Tryz.func12, by kernel_rfl, rfl⟩
theorem ent25 : Ent Tryz.prog 25 := ⟨_, _, Tryz.func25, by kernel_rfl, rfl⟩
theorem ent29 : Ent Tryz.prog 29 := ⟨_, _, Tryz.func29, by kernel_rfl, rfl⟩
theorem Fen.SI.fold {m : Md} {mach : Int} : ∀ {l : List Opn} {k : Nat} {t : T}, SI m mach k t → (∀ o ∈ l, o.c.rp ≤ 9223372036854775807) → SI m mach (k + l.length) (l.foldl (stepP m mach) t)
  | [], k, t, h, _ => h
  | o :: l, k, t, h, hR => by
    have := Fen.SI.fold (l := l) (h.step (o := o) (hR o (by simp))) fun o ho => hR o (by simp [ho])
    rw [List.length_cons, show k + (l.length + 1) = k + 1 + l.length by omega]
    exact this
theorem Fen.SI.run {m : Md} (hv : MdV m) {mach : Int} (h1 : 1 ≤ mach) (h2 : mach ≤ m.mc.length) {l : List Opn} (hR : ∀ o ∈ l, o.c.rp ≤ 9223372036854775807) : SI m mach l.length (runP m mach l) := by
  have := (SI.new hv h1 h2).fold hR
  rwa [Nat.zero_add] at this
set_option maxRecDepth 100000 in
set_option maxHeartbeats 1600000 in
theorem fenceOperations_ct (m : Md) (H1 : PH) (hM : m.In H1) (hT : TabS H1) (mach : Int) (l : List Opn) (q : Option Addr) (d : Nat) (hS : Sl H1 q d 11 (l.map Opn.cs)) (hR : ∀ o ∈ l, o.c.rp ≤ 9223372036854775807)  : Ct Tryz.prog 9 [.agg [.slice m.psi m.si.length m.csi, .slice m.pfe m.fe.length m.cfe, .slice m.prk m.rk.length m.crk, .slice m.pmc m.mc.length m.cmc, .slice m.pln m.ln.length m.cln, .slice m.pis m.is.length m.cis, .int .i64 m.da, .int .i64 m.sl, .int .i64 m.re, .int .i64 m.fa, .slice m.prl m.rl.length m.crl].toArray, .int .i64 mach, .slice q l.length d] [H1] (fun v Hs => v = .bool true ∧ Hs = [H1]) := by
  refine Ct.body Tryz.func9 rfl Tryz.ntmps9 rfl ?_
  intro E F
  have hmxl := hS.len_le
  simp only [List.length_map, maxLen] at hmxl
  refine W.seq (W.region ?_)
  refine RL.e (Eff.box 103 _ rfl rfl) rfl ?_
  rintro _ _ ⟨b3, rfl, rfl⟩
  refine RL.q (Yld.assign rfl) rfl (RL.nil (N.next ?_))
  refine W.seq ?_
  refine W.seq (W.region ?_)
  refine RL.q (Yld.ldW 103 Tryz.underlying29 sz29 rfl rfl rfl rfl) rfl ?_
  refine RL.q (Yld.move rfl) rfl (RL.q (Yld.move rfl) rfl ?_)
  refine RL.e (Eff.call ent11 [1] [1] (.cons rfl (.cons rfl (.cons rfl (.cons rfl .nil)))) (few_ct m H1 hM mach 40 q l.length d) rfl rfl rfl rfl (by rintro _ _ ⟨_, rfl⟩; rfl)) rfl ?_
  rintro _ _ ⟨_, ⟨rfl, rfl⟩, rfl⟩
  refine RL.q Yld.nt rfl (RL.nil (N.next ?_))
  refine W.keep (.of [1, 2, 3, 14] rfl) (.of [0, 1, 103] rfl) ?_
  refine W.cond rfl (fun hc14 => ?_) (fun hc14 => ?_)
  ·
   refine W.seq (W.region ?_)
   refine RL.e (Eff.call ent12 [1] [1] .nil (awake_ct H1 hT) rfl rfl rfl rfl (by rintro _ _ ⟨_, rfl⟩; rfl)) rfl ?_
   rintro _ _ ⟨_, ⟨rfl, rfl⟩, rfl⟩
   refine RL.q (Yld.assign rfl) rfl (RL.nil (N.next ?_))
   refine W.keep (.of [6] rfl) (.of [0, 1, 103] rfl) ?_
   refine W.ret ?_
   refine N.then_ret ?_
   exact N.retBy [1] (.cons (.tmp rfl) .nil) rfl rfl rfl rfl ⟨rfl, rfl⟩
  ·
   have hfw : MdV m ∧ 1 ≤ mach ∧ mach ≤ m.mc.length ∧ l.length ≤ 40 := by
     simp only [Bool.not_eq_false', Bool.and_eq_true, pB_iff, decide_eq_true_eq] at hc14
     exact ⟨hc14.1.1.1, hc14.1.1.2, hc14.1.2, by omega⟩
   obtain ⟨hv, hm1, hm2, hl40⟩ := hfw
   refine W.skip ?_
   refine N.next ?_
   refine W.seq (W.region ?_)
   refine RL.q (Yld.ldW 103 Tryz.underlying29 sz29 rfl rfl rfl rfl) rfl ?_
   refine RL.q (Yld.move rfl) rfl (RL.q (Yld.move rfl) rfl ?_)
   refine RL.e (Eff.call ent25 [1] [1, 150, 151, 152, 153, 161, 162, 163, 164] (.cons rfl (.cons rfl (.cons rfl .nil))) (run_ct m H1 hM hT mach hv hm1 hm2 l q d hS hR (by omega)) rfl rfl rfl rfl (by rintro _ _ ⟨_, _, _, _, _, _, _, rfl⟩; rfl)) rfl ?_
   rintro _ _ ⟨_, ⟨bt, x, y, rfl, hx, hy, hys, rfl⟩, rfl⟩
   have hsi := SI.run hv hm1 hm2 hR
   refine RL.q (Yld.move rfl) rfl ?_
   refine RL.q (Yld.extract rfl rfl) rfl ?_
   refine RL.q (Yld.extract rfl rfl) rfl ?_
   refine RL.q (Yld.extract rfl rfl) rfl ?_
   refine RL.e (Eff.alloc 108 zc59) rfl ?_
   rintro _ _ ⟨b8, rfl, rfl⟩
   refine RL.q (Yld.assign rfl) rfl ?_
   refine RL.e0 (Eff.storeS (c := 108) _ sz59 rfl rfl rfl rfl rfl rfl rfl (by (try simp only [putAt, List.take, List.drop, List.nil_append, List.cons_append, List.append_nil, List.length_cons, List.length_nil, Nat.add_zero, Nat.zero_add, Nat.reduceAdd]); rfl)) ?_
   rintro _ _ rfl
   refine RL.q (Yld.assign rfl) rfl (RL.nil (N.next ?_))
   refine W.keep (.of [3, 7, 8, 9] rfl) (.of [0, 1, 103, 108, 150, 151, 152, 153, 161, 162, 163, 164] rfl) ?_
   refine W.seq (W.region ?_)
   refine RL.q (Yld.move rfl) rfl (RL.q (Yld.move rfl) rfl ?_)
   first | refine RL.as (t := 25) rfl (boolT (by first | assumption | omega | (simp; done))) ?_ | refine RL.as (t := 25) (v := .bool true) rfl rfl ?_
   refine RL.gq rfl rfl (Yld.ldW 103 Tryz.underlying29 sz29 rfl rfl rfl rfl) rfl ?_
   refine RL.gq rfl rfl (Yld.move rfl) rfl ?_
   refine RL.gq rfl rfl (Yld.ldW 108 Tryz.underlying59 sz59 rfl rfl rfl rfl) rfl ?_
   refine RL.ge rfl rfl (Eff.call ent29 [1, 150, 151, 152, 153, 161, 162, 163, 164] [1, 150, 151, 152, 153, 161, 162, 163, 164] (.cons rfl (.cons rfl (.cons rfl .nil))) (same_ct m H1 hM mach bt _ x hx y hy hys hv l.length (by omega) hsi) rfl rfl rfl rfl (by rintro _ _ ⟨_, rfl⟩; rfl)) rfl ?_
   rintro _ _ ⟨_, ⟨rfl, rfl⟩, rfl⟩
   refine RL.q Yld.pk rfl (RL.q (Yld.move rfl) rfl ?_)
   first | refine RL.as (t := 31) rfl (boolT (by first | assumption | omega | (simp; done))) ?_ | refine RL.as (t := 31) (v := .bool true) rfl rfl ?_
   refine RL.ge rfl rfl (Eff.call ent12 [1] [1] .nil (awake_ct H1 hT) rfl rfl rfl rfl (by rintro _ _ ⟨_, rfl⟩; rfl)) rfl ?_
   rintro _ _ ⟨_, ⟨rfl, rfl⟩, rfl⟩
   refine RL.q Yld.pk rfl (RL.q (Yld.assign rfl) rfl (RL.nil (N.next ?_)))
   refine W.keep (.of [6] rfl) (.of [0, 1, 103, 108, 150, 151, 152, 153, 161, 162, 163, 164] rfl) ?_
   refine W.ret ?_
   exact N.retBy [1] (.cons (.tmp rfl) .nil) rfl rfl rfl rfl ⟨rfl, rfl⟩
end Go.Proofs.YtboapdcmaeojgaaGreatDoor
