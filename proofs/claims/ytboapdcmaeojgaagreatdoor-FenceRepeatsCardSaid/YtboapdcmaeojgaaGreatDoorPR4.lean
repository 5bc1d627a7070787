/- Several texts in one, in their build order: what the proofs of this seat share. -/
import Derived.Test.YtboapdcmaeojgaaGreatDoorPR3
import Derived.Test.YtboapdcmaeojgaaGreatDoorPR1
import Derived.ProofKit
import Derived.Deep.Slices
import Derived.OpenShut
import Derived.ChangeMaps5
import Derived.Lib.LaidTab
set_option linter.unusedVariables false
set_option linter.unusedSimpArgs false
set_option linter.unusedSectionVars false
namespace Go.Proofs.YtboapdcmaeojgaaGreatDoor
open SL Cat Fen
set_option linter.unusedVariables false
set_option linter.unusedSimpArgs false
theorem fo36_1 : fieldOff Tryz.prog 36 1 = some 1 := by kernel_rfl
theorem ent49 : Ent Tryz.prog 49 := ⟨_, _, Tryz.func49, by kernel_rfl, rfl⟩
theorem fo48_3 : fieldOff Tryz.prog 48 3 = some 3 := by kernel_rfl
theorem lay48 : layS Tryz.prog 48 = some ([.int .i64 0, .int .i64 0, .int .i64 0, .int .i64 0, .int .i64 0], [(0, 1), (1, 1), (2, 1), (3, 1), (4, 1)]) := by kernel_rfl
theorem ent48 : Ent Tryz.prog 48 := ⟨_, _, Tryz.func48, by kernel_rfl, rfl⟩
theorem fo36_3 : fieldOff Tryz.prog 36 3 = some 3 := by kernel_rfl
theorem sz2 : sz Tryz.prog 2 1 := (by kernel_rfl : (Tryz.prog.info? 2).map (·.size) = some 1)
theorem ent131 : Ent Tryz.prog 131 := ⟨_, _, Tryz.func131, by kernel_rfl, rfl⟩
theorem fo48_1 : fieldOff Tryz.prog 48 1 = some 1 := by kernel_rfl
theorem fo36_2 : fieldOff Tryz.prog 36 2 = some 2 := by kernel_rfl
set_option maxRecDepth 100000 in
set_option maxHeartbeats 3200000 in
theorem closes_ct (m : Md) (H1 : PH) (hM : m.In H1) (mach : Int) (b : Nat) (t : T) (x : Tb) (hx : x.Is t) (c : Cm) (hv : MdV m) (hT : TI m mach t) (hf : Fits (kdOf m c.it) mach c) (hrp : c.rp ≤ 9223372036854775807) (hb : t.us.length ≤ 1000000) (hk : c.kd = 1) : Ct Tryz.prog 78 [.pointer (some ⟨b, 0, none⟩), .agg [.int .i64 c.kd, .int .i64 c.it, .int .i64 c.rp, .int .i64 c.va].toArray] [H1, single b (.cells [.slice m.psi m.si.length m.csi, .slice m.pfe m.fe.length m.cfe, .slice m.prk m.rk.length m.crk, .slice m.pmc m.mc.length m.cmc, .slice m.pln m.ln.length m.cln, .slice m.pis m.is.length m.cis, .int .i64 m.da, .int .i64 m.sl, .int .i64 m.re, .int .i64 m.fa, .slice m.prl m.rl.length m.crl, .int .i64 mach, .slice x.pu x.nu x.cu, .slice x.pc x.nc x.cc, .int .i64 x.gen, .map (some x.d)].toArray 82 (0, 0)), x.HU, x.HC, single x.d (.map x.es x.ck)] (fun v Hs => ∃ y : Tb, v = .tuple [.int .i64 (execP (decide (kdOf m c.it = 2)) t.us t.cs c).2.1, .int .i64 (execP (decide (kdOf m c.it = 2)) t.us t.cs c).2.2].toArray ∧ y.Is { t with us := (execP (decide (kdOf m c.it = 2)) t.us t.cs c).1 } ∧ Hs = [H1, single b (.cells [.slice m.psi m.si.length m.csi, .slice m.pfe m.fe.length m.cfe, .slice m.prk m.rk.length m.crk, .slice m.pmc m.mc.length m.cmc, .slice m.pln m.ln.length m.cln, .slice m.pis m.is.length m.cis, .int .i64 m.da, .int .i64 m.sl, .int .i64 m.re, .int .i64 m.fa, .slice m.prl m.rl.length m.crl, .int .i64 mach, .slice y.pu y.nu y.cu, .slice y.pc y.nc y.cc, .int .i64 y.gen, .map (some y.d)].toArray 82 (0, 0)), y.HU, y.HC, single y.d (.map y.es y.ck)]) := by
  refine Ct.body Tryz.func78 rfl Tryz.ntmps78 rfl ?_
  intro E F
  obtain ⟨hnu, hnc, hgn, hOu, hOc, hMp, hdn⟩ := id hx
  have hSu := hOu.sl
  have hmu := hSu.len_le
  simp only [List.length_map, maxLen] at hmu
  have hur := hT.ur hv
  have hkf := hf.1
  unfold kdFit at hkf
  obtain ⟨hit1, hit2⟩ := kdOf_ge (m := m) (z := c.it) (by omega)
  have hn5 := hv.n5
  have hlo := fz_lo (us := t.us) (it := c.it)
  refine W.seq (W.region ?_)
  refine RL.e (Eff.box 103 _ rfl rfl) rfl ?_
  rintro _ _ ⟨b3, rfl, rfl⟩
  refine RL.q (Yld.assign rfl) rfl (RL.q (Yld.assign rfl) rfl (RL.nil (N.next ?_)))
  refine W.seq ?_
  refine W.seq (W.region ?_)
  refine RL.q (Yld.move rfl) rfl ?_
  refine RL.q (Yld.fieldAddr fo36_1 rfl) rfl ?_
  refine RL.q (Yld.ld 103 Tryz.underlying3 rfl rfl rfl rfl) rfl ?_
  refine RL.e (Eff.call ent49 [2, 3] [2, 3] (.cons rfl (.cons rfl .nil)) (find_ct m mach b t x hx c.it) rfl rfl rfl rfl (by rintro _ _ ⟨_, rfl⟩; rfl)) rfl ?_
  rintro _ _ ⟨_, ⟨rfl, rfl⟩, rfl⟩
  refine RL.q (Yld.assign rfl) rfl (RL.nil (N.next ?_))
  refine W.keep (.of [0, 6] rfl) (.of [0, 1, 2, 3, 4, 5, 103] rfl) ?_
  refine W.seq (W.region ?_)
  refine RL.q (Yld.move rfl) rfl ?_
  refine RL.q (Yld.bin rfl rfl BinV.geq) rfl ?_
  refine RL.nil (N.next ?_)
  first | refine W.condD rfl (fun hc12 => ?_) (fun hc12 => ?_) | (refine W.cond rfl (fun hc12 => ?_) (fun hc12 => ?_) <;> try simp only [Bool.or_eq_true, Bool.and_eq_true, Bool.not_eq_true', Bool.not_eq_false', decide_eq_true_eq, Bool.or_eq_false_iff, Bool.and_eq_false_iff, decide_eq_false_iff_not, beq_iff_eq, beq_eq_false_iff_ne, ne_eq, Decidable.not_not] at hc12)
  ·
   obtain ⟨i, u, hi, hfn, hu, hui, hus⟩ := fz_pos (show ¬ fz (opn c.it) t.us < 0 by omega)
   have hlu := uz_get hu
   have hil := (List.getElem?_eq_some_iff.1 hu).1
   rw [hi]
   have hex : execP (decide (kdOf m c.it = 2)) t.us t.cs c = (stAt t.us i 3, 0, 0) := by
     unfold execP
     rw [if_neg (show ¬ c.kd = 0 by omega), if_pos hk, hfn]
   refine W.region ?_
   refine RL.q (Yld.move rfl) rfl ?_
   refine RL.q (Yld.nilP rfl) rfl ?_
   refine RL.q (Yld.fieldAddr fo82_2 rfl) rfl ?_
   refine RL.q (Yld.ld 2 Tryz.underlying41 rfl rfl rfl rfl) rfl ?_
   refine RL.q (Yld.move rfl) rfl ?_
   refine RL.q (Yld.ixr Tryz.underlying41 sz48 rfl rfl) rfl ?_
   refine RL.q (Yld.fieldAddr fo48_2 rfl) rfl ?_
   refine RL.e0 (Eff.storeRow (tc := 3) (j := 2) sz3 rfl rfl rfl hOu hlu rfl rfl rfl rfl rfl) ?_
   rintro _ _ ⟨Hb, hOb, rfl⟩
   replace hOb : Own Hb x.pu x.cu 48 5 ((stAt t.us i 3).map U.c) := by rw [← uz_set hu]; exact hOb
   refine RL.nil (N.next ?_)
   refine W.keep .nil (.of [0, 1, 2, 3, 4, 5, 103] rfl) ?_
   refine W.seq (W.region ?_)
   refine RL.q (Yld.assign rfl) rfl (RL.q (Yld.assign rfl) rfl (RL.nil (N.next ?_)))
   refine W.ret ?_
   exact N.retBy [1, 2, 3, 4, 5] (.cons (.tmp rfl) (.cons (.tmp rfl) .nil)) rfl rfl rfl rfl ⟨x.setU Hb, by rw [hex]; first | done | rfl, by rw [hex]; exact hx.st hOb, rfl⟩
  ·
   have hfn := fz_neg (show fz (opn c.it) t.us < 0 by omega)
   have hex : execP (decide (kdOf m c.it = 2)) t.us t.cs c = (t.us, 0, 0) := by
     unfold execP
     rw [if_neg (show ¬ c.kd = 0 by omega), if_pos hk, hfn]
   refine W.skip ?_
   refine N.next ?_
   refine W.keep .nil (.of [0, 1, 2, 3, 4, 5, 103] rfl) ?_
   refine W.seq (W.region ?_)
   refine RL.q (Yld.assign rfl) rfl (RL.q (Yld.assign rfl) rfl (RL.nil (N.next ?_)))
   refine W.ret ?_
   exact N.retBy [1, 2, 3, 4, 5] (.cons (.tmp rfl) (.cons (.tmp rfl) .nil)) rfl rfl rfl rfl ⟨x, by rw [hex]; first | done | rfl, by rw [hex]; exact hx, rfl⟩
set_option maxRecDepth 100000 in
set_option maxHeartbeats 3200000 in
theorem drains_ct (m : Md) (H1 : PH) (hM : m.In H1) (mach : Int) (b : Nat) (t : T) (x : Tb) (hx : x.Is t) (c : Cm) (hv : MdV m) (hT : TI m mach t) (hf : Fits (kdOf m c.it) mach c) (hrp : c.rp ≤ 9223372036854775807) (hb : t.us.length ≤ 1000000) (hk : c.kd = 3) : Ct Tryz.prog 80 [.pointer (some ⟨b, 0, none⟩), .agg [.int .i64 c.kd, .int .i64 c.it, .int .i64 c.rp, .int .i64 c.va].toArray] [H1, single b (.cells [.slice m.psi m.si.length m.csi, .slice m.pfe m.fe.length m.cfe, .slice m.prk m.rk.length m.crk, .slice m.pmc m.mc.length m.cmc, .slice m.pln m.ln.length m.cln, .slice m.pis m.is.length m.cis, .int .i64 m.da, .int .i64 m.sl, .int .i64 m.re, .int .i64 m.fa, .slice m.prl m.rl.length m.crl, .int .i64 mach, .slice x.pu x.nu x.cu, .slice x.pc x.nc x.cc, .int .i64 x.gen, .map (some x.d)].toArray 82 (0, 0)), x.HU, x.HC, single x.d (.map x.es x.ck)] (fun v Hs => ∃ y : Tb, v = .tuple [.int .i64 (execP (decide (kdOf m c.it = 2)) t.us t.cs c).2.1, .int .i64 (execP (decide (kdOf m c.it = 2)) t.us t.cs c).2.2].toArray ∧ y.Is { t with us := (execP (decide (kdOf m c.it = 2)) t.us t.cs c).1 } ∧ Hs = [H1, single b (.cells [.slice m.psi m.si.length m.csi, .slice m.pfe m.fe.length m.cfe, .slice m.prk m.rk.length m.crk, .slice m.pmc m.mc.length m.cmc, .slice m.pln m.ln.length m.cln, .slice m.pis m.is.length m.cis, .int .i64 m.da, .int .i64 m.sl, .int .i64 m.re, .int .i64 m.fa, .slice m.prl m.rl.length m.crl, .int .i64 mach, .slice y.pu y.nu y.cu, .slice y.pc y.nc y.cc, .int .i64 y.gen, .map (some y.d)].toArray 82 (0, 0)), y.HU, y.HC, single y.d (.map y.es y.ck)]) := by
  refine Ct.body Tryz.func80 rfl Tryz.ntmps80 rfl ?_
  intro E F
  obtain ⟨hnu, hnc, hgn, hOu, hOc, hMp, hdn⟩ := id hx
  have hSu := hOu.sl
  have hmu := hSu.len_le
  simp only [List.length_map, maxLen] at hmu
  have hur := hT.ur hv
  have hkf := hf.1
  unfold kdFit at hkf
  obtain ⟨hit1, hit2⟩ := kdOf_ge (m := m) (z := c.it) (by omega)
  have hn5 := hv.n5
  have hlo := fz_lo (us := t.us) (it := c.it)
  refine W.seq (W.region ?_)
  refine RL.e (Eff.box 103 _ rfl rfl) rfl ?_
  rintro _ _ ⟨b3, rfl, rfl⟩
  refine RL.q (Yld.assign rfl) rfl (RL.q (Yld.assign rfl) rfl (RL.nil (N.next ?_)))
  refine W.seq (W.region ?_)
  refine RL.q (Yld.move rfl) rfl ?_
  refine RL.q (Yld.fieldAddr fo36_1 rfl) rfl ?_
  refine RL.q (Yld.ld 103 Tryz.underlying3 rfl rfl rfl rfl) rfl ?_
  refine RL.e (Eff.call ent49 [2, 3] [2, 3] (.cons rfl (.cons rfl .nil)) (find_ct m mach b t x hx c.it) rfl rfl rfl rfl (by rintro _ _ ⟨_, rfl⟩; rfl)) rfl ?_
  rintro _ _ ⟨_, ⟨rfl, rfl⟩, rfl⟩
  refine RL.q (Yld.assign rfl) rfl (RL.nil (N.next ?_))
  refine W.keep (.of [0, 6] rfl) (.of [0, 1, 2, 3, 4, 5, 103] rfl) ?_
  refine W.seq ?_
  refine W.seq (W.region ?_)
  refine RL.q (Yld.move rfl) rfl ?_
  refine RL.q (Yld.bin rfl rfl BinV.lss) rfl ?_
  refine RL.nil (N.next ?_)
  first | refine W.condD rfl (fun hc12 => ?_) (fun hc12 => ?_) | (refine W.cond rfl (fun hc12 => ?_) (fun hc12 => ?_) <;> try simp only [Bool.or_eq_true, Bool.and_eq_true, Bool.not_eq_true', Bool.not_eq_false', decide_eq_true_eq, Bool.or_eq_false_iff, Bool.and_eq_false_iff, decide_eq_false_iff_not, beq_iff_eq, beq_eq_false_iff_ne, ne_eq, Decidable.not_not] at hc12)
  ·
   have hfn := fz_neg (show fz (opn c.it) t.us < 0 by omega)
   have hex : execP (decide (kdOf m c.it = 2)) t.us t.cs c = (t.us, 6, 0) := by
     unfold execP
     rw [if_neg (show ¬ c.kd = 0 by omega), if_neg (show ¬ c.kd = 1 by omega), if_neg (show ¬ c.kd = 2 by omega), if_pos hk, hfn]
   refine W.seq (W.region ?_)
   refine RL.q (Yld.assign rfl) rfl (RL.q (Yld.assign rfl) rfl (RL.nil (N.next ?_)))
   refine W.keep (.of [4, 5] rfl) (.of [0, 1, 2, 3, 4, 5, 103] rfl) ?_
   refine W.ret ?_
   refine N.then_ret ?_
   exact N.retBy [1, 2, 3, 4, 5] (.cons (.tmp rfl) (.cons (.tmp rfl) .nil)) rfl rfl rfl rfl ⟨x, by rw [hex]; first | done | rfl, by rw [hex]; exact hx, rfl⟩
  ·
   obtain ⟨i, u, hi, hfn, hu, hui, hus⟩ := fz_pos (show ¬ fz (opn c.it) t.us < 0 by omega)
   have hlu := uz_get hu
   have hil := (List.getElem?_eq_some_iff.1 hu).1
   rw [hi]
   have hex : execP (decide (kdOf m c.it = 2)) t.us t.cs c = (stAt t.us i 1, 0, 0) := by
     unfold execP
     rw [if_neg (show ¬ c.kd = 0 by omega), if_neg (show ¬ c.kd = 1 by omega), if_neg (show ¬ c.kd = 2 by omega), if_pos hk, hfn]
   refine W.skip ?_
   refine N.next ?_
   refine W.seq (W.region ?_)
   refine RL.q (Yld.move rfl) rfl ?_
   refine RL.q (Yld.nilP rfl) rfl ?_
   refine RL.q (Yld.fieldAddr fo82_2 rfl) rfl ?_
   refine RL.q (Yld.ld 2 Tryz.underlying41 rfl rfl rfl rfl) rfl ?_
   refine RL.q (Yld.move rfl) rfl ?_
   refine RL.q (Yld.ixr Tryz.underlying41 sz48 rfl rfl) rfl ?_
   refine RL.q (Yld.fieldAddr fo48_2 rfl) rfl ?_
   refine RL.e0 (Eff.storeRow (tc := 3) (j := 2) sz3 rfl rfl rfl hOu hlu rfl rfl rfl rfl rfl) ?_
   rintro _ _ ⟨Hb, hOb, rfl⟩
   replace hOb : Own Hb x.pu x.cu 48 5 ((stAt t.us i 1).map U.c) := by rw [← uz_set hu]; exact hOb
   refine RL.nil (N.next ?_)
   refine W.keep .nil (.of [0, 1, 2, 3, 4, 5, 103] rfl) ?_
   refine W.seq (W.region ?_)
   refine RL.q (Yld.assign rfl) rfl (RL.q (Yld.assign rfl) rfl (RL.nil (N.next ?_)))
   refine W.ret ?_
   exact N.retBy [1, 2, 3, 4, 5] (.cons (.tmp rfl) (.cons (.tmp rfl) .nil)) rfl rfl rfl rfl ⟨x.setU Hb, by rw [hex]; first | done | rfl, by rw [hex]; exact hx.st hOb, rfl⟩
set_option maxRecDepth 100000 in
set_option maxHeartbeats 3200000 in
theorem pauses_ct (m : Md) (H1 : PH) (hM : m.In H1) (mach : Int) (b : Nat) (t : T) (x : Tb) (hx : x.Is t) (c : Cm) (hv : MdV m) (hT : TI m mach t) (hf : Fits (kdOf m c.it) mach c) (hrp : c.rp ≤ 9223372036854775807) (hb : t.us.length ≤ 1000000) (hk : c.kd = 4) : Ct Tryz.prog 81 [.pointer (some ⟨b, 0, none⟩), .agg [.int .i64 c.kd, .int .i64 c.it, .int .i64 c.rp, .int .i64 c.va].toArray] [H1, single b (.cells [.slice m.psi m.si.length m.csi, .slice m.pfe m.fe.length m.cfe, .slice m.prk m.rk.length m.crk, .slice m.pmc m.mc.length m.cmc, .slice m.pln m.ln.length m.cln, .slice m.pis m.is.length m.cis, .int .i64 m.da, .int .i64 m.sl, .int .i64 m.re, .int .i64 m.fa, .slice m.prl m.rl.length m.crl, .int .i64 mach, .slice x.pu x.nu x.cu, .slice x.pc x.nc x.cc, .int .i64 x.gen, .map (some x.d)].toArray 82 (0, 0)), x.HU, x.HC, single x.d (.map x.es x.ck)] (fun v Hs => ∃ y : Tb, v = .tuple [.int .i64 (execP (decide (kdOf m c.it = 2)) t.us t.cs c).2.1, .int .i64 (execP (decide (kdOf m c.it = 2)) t.us t.cs c).2.2].toArray ∧ y.Is { t with us := (execP (decide (kdOf m c.it = 2)) t.us t.cs c).1 } ∧ Hs = [H1, single b (.cells [.slice m.psi m.si.length m.csi, .slice m.pfe m.fe.length m.cfe, .slice m.prk m.rk.length m.crk, .slice m.pmc m.mc.length m.cmc, .slice m.pln m.ln.length m.cln, .slice m.pis m.is.length m.cis, .int .i64 m.da, .int .i64 m.sl, .int .i64 m.re, .int .i64 m.fa, .slice m.prl m.rl.length m.crl, .int .i64 mach, .slice y.pu y.nu y.cu, .slice y.pc y.nc y.cc, .int .i64 y.gen, .map (some y.d)].toArray 82 (0, 0)), y.HU, y.HC, single y.d (.map y.es y.ck)]) := by
  refine Ct.body Tryz.func81 rfl Tryz.ntmps81 rfl ?_
  intro E F
  obtain ⟨hnu, hnc, hgn, hOu, hOc, hMp, hdn⟩ := id hx
  have hSu := hOu.sl
  have hmu := hSu.len_le
  simp only [List.length_map, maxLen] at hmu
  have hur := hT.ur hv
  have hkf := hf.1
  unfold kdFit at hkf
  obtain ⟨hit1, hit2⟩ := kdOf_ge (m := m) (z := c.it) (by omega)
  have hn5 := hv.n5
  have hlo := fz_lo (us := t.us) (it := c.it)
  refine W.seq (W.region ?_)
  refine RL.e (Eff.box 103 _ rfl rfl) rfl ?_
  rintro _ _ ⟨b3, rfl, rfl⟩
  refine RL.q (Yld.assign rfl) rfl (RL.q (Yld.assign rfl) rfl (RL.nil (N.next ?_)))
  refine W.seq (W.region ?_)
  refine RL.q (Yld.move rfl) rfl ?_
  refine RL.q (Yld.fieldAddr fo36_1 rfl) rfl ?_
  refine RL.q (Yld.ld 103 Tryz.underlying3 rfl rfl rfl rfl) rfl ?_
  refine RL.e (Eff.call ent49 [2, 3] [2, 3] (.cons rfl (.cons rfl .nil)) (find_ct m mach b t x hx c.it) rfl rfl rfl rfl (by rintro _ _ ⟨_, rfl⟩; rfl)) rfl ?_
  rintro _ _ ⟨_, ⟨rfl, rfl⟩, rfl⟩
  refine RL.q (Yld.assign rfl) rfl (RL.nil (N.next ?_))
  refine W.keep (.of [0, 6] rfl) (.of [0, 1, 2, 3, 4, 5, 103] rfl) ?_
  refine W.seq ?_
  refine W.seq (W.region ?_)
  refine RL.q (Yld.move rfl) rfl ?_
  refine RL.q (Yld.bin rfl rfl BinV.lss) rfl ?_
  refine RL.nil (N.next ?_)
  first | refine W.condD rfl (fun hc12 => ?_) (fun hc12 => ?_) | (refine W.cond rfl (fun hc12 => ?_) (fun hc12 => ?_) <;> try simp only [Bool.or_eq_true, Bool.and_eq_true, Bool.not_eq_true', Bool.not_eq_false', decide_eq_true_eq, Bool.or_eq_false_iff, Bool.and_eq_false_iff, decide_eq_false_iff_not, beq_iff_eq, beq_eq_false_iff_ne, ne_eq, Decidable.not_not] at hc12)
  ·
   have hfn := fz_neg (show fz (opn c.it) t.us < 0 by omega)
   have hex : execP (decide (kdOf m c.it = 2)) t.us t.cs c = (t.us, 6, 0) := by
     unfold execP
     rw [if_neg (show ¬ c.kd = 0 by omega), if_neg (show ¬ c.kd = 1 by omega), if_neg (show ¬ c.kd = 2 by omega), if_neg (show ¬ c.kd = 3 by omega), if_pos hk, hfn]
   refine W.seq (W.region ?_)
   refine RL.q (Yld.assign rfl) rfl (RL.q (Yld.assign rfl) rfl (RL.nil (N.next ?_)))
   refine W.keep (.of [4, 5] rfl) (.of [0, 1, 2, 3, 4, 5, 103] rfl) ?_
   refine W.ret ?_
   refine N.then_ret ?_
   exact N.retBy [1, 2, 3, 4, 5] (.cons (.tmp rfl) (.cons (.tmp rfl) .nil)) rfl rfl rfl rfl ⟨x, by rw [hex]; first | done | rfl, by rw [hex]; exact hx, rfl⟩
  ·
   obtain ⟨i, u, hi, hfn, hu, hui, hus⟩ := fz_pos (show ¬ fz (opn c.it) t.us < 0 by omega)
   have hlu := uz_get hu
   have hil := (List.getElem?_eq_some_iff.1 hu).1
   rw [hi]
   have hex : execP (decide (kdOf m c.it = 2)) t.us t.cs c = (stAt t.us i 2, 0, u.va) := by
     unfold execP
     rw [if_neg (show ¬ c.kd = 0 by omega), if_neg (show ¬ c.kd = 1 by omega), if_neg (show ¬ c.kd = 2 by omega), if_neg (show ¬ c.kd = 3 by omega), if_pos hk, hfn]
     show (_, _, vaAt _ _) = _
     rw [vaOf_get hu]
   refine W.skip ?_
   refine N.next ?_
   refine W.seq (W.region ?_)
   refine RL.q (Yld.move rfl) rfl ?_
   refine RL.q (Yld.nilP rfl) rfl ?_
   refine RL.q (Yld.fieldAddr fo82_2 rfl) rfl ?_
   refine RL.q (Yld.ld 2 Tryz.underlying41 rfl rfl rfl rfl) rfl ?_
   refine RL.q (Yld.move rfl) rfl ?_
   refine RL.q (Yld.ixr Tryz.underlying41 sz48 rfl rfl) rfl ?_
   refine RL.q (Yld.fieldAddr fo48_2 rfl) rfl ?_
   refine RL.e0 (Eff.storeRow (tc := 3) (j := 2) sz3 rfl rfl rfl hOu hlu rfl rfl rfl rfl rfl) ?_
   rintro _ _ ⟨Hb, hOb, rfl⟩
   replace hOb : Own Hb x.pu x.cu 48 5 ((stAt t.us i 2).map U.c) := by rw [← uz_set hu]; exact hOb
   have hlb := uz_get (show (stAt t.us i 2)[i]? = some { u with st := 2 } by rw [stAt_get, if_pos rfl, hu]; rfl)
   have hil2 : i < (stAt t.us i 2).length := by rw [stAt_len]; exact hil
   refine RL.nil (N.next ?_)
   refine W.keep (.of [0, 6] rfl) (.of [0, 1, 2, 3, 4, 5, 103] rfl) ?_
   refine W.seq ?_
   refine W.draw (.q 0 (.q 1 (.q 2 (.q 3 (.q 4 (.q 5 (.q 6 (.q 7 (.q 8 (.q 9 .done)))))))))) (.of [0, 1, 2, 3, 4, 5, 103] rfl) mix (by kernel_rfl) (by kernel_rfl) ?_
   refine DL.q rfl (Yld.move rfl) rfl ?_
   refine DL.q rfl (Yld.nilP rfl) rfl ?_
   refine DL.q rfl (Yld.fieldAddr fo82_2 rfl) rfl ?_
   refine DL.q rfl (Yld.ld 2 Tryz.underlying41 rfl rfl rfl rfl) rfl ?_
   refine DL.q rfl (Yld.move rfl) rfl ?_
   refine DL.q rfl (Yld.ixr Tryz.underlying41 sz48 rfl rfl) rfl ?_
   refine DL.q rfl (Yld.fieldAddr fo48_3 rfl) rfl ?_
   refine DL.q rfl (by first | exact Yld.lrF 2 3 Tryz.underlying2 rfl rfl rfl rfl | exact Yld.lrF 3 3 Tryz.underlying2 rfl rfl rfl rfl | exact Yld.lrF 103 3 Tryz.underlying2 rfl rfl rfl rfl | exact Yld.lrF 1 3 Tryz.underlying2 rfl rfl rfl rfl | exact Yld.lrF 4 3 Tryz.underlying2 rfl rfl rfl rfl | exact Yld.lrF 5 3 Tryz.underlying2 rfl rfl rfl rfl) rfl ?_
   refine DL.q rfl (Yld.assign rfl) rfl ?_
   refine DL.q rfl (Yld.assign rfl) rfl ?_
   refine DL.done ?_
   refine N.next ?_
   refine W.keep (.of [4, 5] rfl) (.of [0, 1, 2, 3, 4, 5, 103] rfl) ?_
   refine W.ret ?_
   exact N.retBy [1, 2, 3, 4, 5] (.cons (.tmp rfl) (.cons (.tmp rfl) .nil)) rfl rfl rfl rfl ⟨x.setU Hb, by rw [hex]; first | done | rfl, by rw [hex]; exact hx.st hOb, rfl⟩
set_option maxRecDepth 100000 in
set_option maxHeartbeats 3200000 in
theorem starts_ct (m : Md) (H1 : PH) (hM : m.In H1) (mach : Int) (b : Nat) (t : T) (x : Tb) (hx : x.Is t) (c : Cm) (hv : MdV m) (hT : TI m mach t) (hf : Fits (kdOf m c.it) mach c) (hrp : c.rp ≤ 9223372036854775807) (hb : t.us.length ≤ 1000000) (hk : c.kd = 2) : Ct Tryz.prog 79 [.pointer (some ⟨b, 0, none⟩), .agg [.int .i64 c.kd, .int .i64 c.it, .int .i64 c.rp, .int .i64 c.va].toArray] [H1, single b (.cells [.slice m.psi m.si.length m.csi, .slice m.pfe m.fe.length m.cfe, .slice m.prk m.rk.length m.crk, .slice m.pmc m.mc.length m.cmc, .slice m.pln m.ln.length m.cln, .slice m.pis m.is.length m.cis, .int .i64 m.da, .int .i64 m.sl, .int .i64 m.re, .int .i64 m.fa, .slice m.prl m.rl.length m.crl, .int .i64 mach, .slice x.pu x.nu x.cu, .slice x.pc x.nc x.cc, .int .i64 x.gen, .map (some x.d)].toArray 82 (0, 0)), x.HU, x.HC, single x.d (.map x.es x.ck)] (fun v Hs => ∃ y : Tb, v = .tuple [.int .i64 (execP (decide (kdOf m c.it = 2)) t.us t.cs c).2.1, .int .i64 (execP (decide (kdOf m c.it = 2)) t.us t.cs c).2.2].toArray ∧ y.Is { t with us := (execP (decide (kdOf m c.it = 2)) t.us t.cs c).1 } ∧ Hs = [H1, single b (.cells [.slice m.psi m.si.length m.csi, .slice m.pfe m.fe.length m.cfe, .slice m.prk m.rk.length m.crk, .slice m.pmc m.mc.length m.cmc, .slice m.pln m.ln.length m.cln, .slice m.pis m.is.length m.cis, .int .i64 m.da, .int .i64 m.sl, .int .i64 m.re, .int .i64 m.fa, .slice m.prl m.rl.length m.crl, .int .i64 mach, .slice y.pu y.nu y.cu, .slice y.pc y.nc y.cc, .int .i64 y.gen, .map (some y.d)].toArray 82 (0, 0)), y.HU, y.HC, single y.d (.map y.es y.ck)]) := by
  refine Ct.body Tryz.func79 rfl Tryz.ntmps79 rfl ?_
  intro E F
  obtain ⟨hnu, hnc, hgn, hOu, hOc, hMp, hdn⟩ := id hx
  have hSu := hOu.sl
  have hmu := hSu.len_le
  simp only [List.length_map, maxLen] at hmu
  have hur := hT.ur hv
  have hkf := hf.1
  unfold kdFit at hkf
  obtain ⟨hit1, hit2⟩ := kdOf_ge (m := m) (z := c.it) (by omega)
  have hn5 := hv.n5
  have hlo := fz_lo (us := t.us) (it := c.it)
  refine W.seq (W.region ?_)
  refine RL.e (Eff.box 103 _ rfl rfl) rfl ?_
  rintro _ _ ⟨b3, rfl, rfl⟩
  refine RL.q (Yld.assign rfl) rfl (RL.q (Yld.assign rfl) rfl (RL.nil (N.next ?_)))
  refine W.seq (W.region ?_)
  refine RL.q (Yld.move rfl) rfl ?_
  refine RL.q (Yld.fieldAddr fo36_1 rfl) rfl ?_
  refine RL.q (Yld.ld 103 Tryz.underlying3 rfl rfl rfl rfl) rfl ?_
  refine RL.e (Eff.call ent49 [2, 3] [2, 3] (.cons rfl (.cons rfl .nil)) (find_ct m mach b t x hx c.it) rfl rfl rfl rfl (by rintro _ _ ⟨_, rfl⟩; rfl)) rfl ?_
  rintro _ _ ⟨_, ⟨rfl, rfl⟩, rfl⟩
  refine RL.q (Yld.assign rfl) rfl (RL.nil (N.next ?_))
  refine W.keep (.of [0, 3, 6] rfl) (.of [0, 1, 2, 3, 4, 5, 103] rfl) ?_
  refine W.seq ?_
  refine W.block ?_
  refine W.seq (W.region ?_)
  refine RL.q (Yld.move rfl) rfl ?_
  refine RL.q (Yld.bin rfl rfl BinV.lss) rfl ?_
  refine RL.q (Yld.assign rfl) rfl (RL.nil (N.next ?_))
  first | refine W.condD rfl (fun hc19 => ?_) (fun hc19 => ?_) | (refine W.cond rfl (fun hc19 => ?_) (fun hc19 => ?_) <;> try simp only [Bool.or_eq_true, Bool.and_eq_true, Bool.not_eq_true', Bool.not_eq_false', decide_eq_true_eq, Bool.or_eq_false_iff, Bool.and_eq_false_iff, decide_eq_false_iff_not, beq_iff_eq, beq_eq_false_iff_ne, ne_eq, Decidable.not_not] at hc19)
  ·
   have hfn := fz_neg (show fz (opn c.it) t.us < 0 by omega)
   refine W.seq (W.region ?_)
   refine RL.q (Yld.fieldAddr fo36_1 rfl) rfl ?_
   refine RL.q (Yld.ld 103 Tryz.underlying3 rfl rfl rfl rfl) rfl ?_
   refine RL.q (Yld.buildP lay48 (.cons rfl rfl .nil) rfl) rfl ?_
   refine RL.e (Eff.alloc 107 zc48) rfl ?_
   rintro _ _ ⟨b7, rfl, rfl⟩
   refine RL.e0 (Eff.storeS (c := 107) _ sz48 rfl rfl rfl rfl rfl rfl rfl (by (try simp only [putAt, List.take, List.drop, List.nil_append, List.cons_append, List.append_nil, List.length_cons, List.length_nil, Nat.add_zero, Nat.zero_add, Nat.reduceAdd]); rfl)) ?_
   rintro _ _ rfl
   refine RL.nil (N.next ?_)
   refine W.keep (.of [0, 3, 7] rfl) (.of [0, 1, 2, 3, 4, 5, 103, 107] rfl) ?_
   refine W.seq ?_
   refine W.seq (W.region ?_)
   refine RL.q (Yld.move rfl) rfl ?_
   refine RL.q (Yld.fieldAddr fo36_1 rfl) rfl ?_
   refine RL.q (Yld.ld 103 Tryz.underlying3 rfl rfl rfl rfl) rfl ?_
   refine RL.e (Eff.call ent48 [1, 2] [1, 2] (.cons rfl (.cons rfl .nil)) (kind_ct m H1 hM mach b x c.it) rfl rfl rfl rfl (by rintro _ _ ⟨_, rfl⟩; rfl)) rfl ?_
   rintro _ _ ⟨_, ⟨rfl, rfl⟩, rfl⟩
   refine RL.q (Yld.bin rfl rfl BinV.eql) rfl ?_
   refine RL.nil (N.next ?_)
   refine W.keep (.of [0, 3, 7, 29] rfl) (.of [0, 1, 2, 3, 4, 5, 103, 107] rfl) ?_
   first | refine W.condD rfl (fun hc29 => ?_) (fun hc29 => ?_) | (refine W.cond rfl (fun hc29 => ?_) (fun hc29 => ?_) <;> try simp only [Bool.or_eq_true, Bool.and_eq_true, Bool.not_eq_true', Bool.not_eq_false', decide_eq_true_eq, Bool.or_eq_false_iff, Bool.and_eq_false_iff, decide_eq_false_iff_not, beq_iff_eq, beq_eq_false_iff_ne, ne_eq, Decidable.not_not] at hc29)
   ·
    have hex : execP (decide (kdOf m c.it = 2)) t.us t.cs c = (ins t.us ⟨c.it, 0, 0, c.va, 0⟩, 0, 0) := by
      unfold execP
      rw [if_neg (show ¬ c.kd = 0 by omega), if_neg (show ¬ c.kd = 1 by omega), if_pos hk, hfn]
      simp [hc29]
    refine W.region ?_
    refine RL.q (Yld.fieldAddr fo36_3 rfl) rfl ?_
    refine RL.q (Yld.ld 103 Tryz.underlying2 rfl rfl rfl rfl) rfl ?_
    refine RL.q (Yld.fieldAddr fo48_3 rfl) rfl ?_
    refine RL.e0 (Eff.storeS (c := 107) _ sz2 rfl rfl rfl rfl rfl rfl rfl (by (try simp only [putAt, List.take, List.drop, List.nil_append, List.cons_append, List.append_nil, List.length_cons, List.length_nil, Nat.add_zero, Nat.zero_add, Nat.reduceAdd]); rfl)) ?_
    rintro _ _ rfl
    refine RL.nil (N.next ?_)
    refine W.keep (.of [0, 7] rfl) (.of [0, 1, 2, 3, 4, 5, 103, 107] rfl) ?_
    refine W.region ?_
    refine RL.q (Yld.move rfl) rfl ?_
    refine RL.q (Yld.ldW 107 Tryz.underlying48 sz48 rfl rfl rfl rfl) rfl ?_
    refine RL.e (Eff.call ent131 [2, 3] [2, 3] (.cons rfl (.cons rfl .nil)) (add_ct m mach b x x.HU t.us hnu hOu ⟨c.it, 0, 0, c.va, 0⟩ hT.inv.pw (fun a ha e => hT.inv.none_pool (it := c.it) (by omega) hfn a ha e.1) (fun a ha => (List.mem_append.1 ha).elim (hur a) (fun h => by simp only [List.mem_singleton] at h; subst h; exact ⟨by simp only; omega, by simp only; omega, by simp only; omega, by simp only; omega⟩)) hb) rfl rfl rfl rfl (by rintro _ _ ⟨_, _, _, _, _, _, rfl⟩; rfl)) rfl ?_
    rintro _ _ ⟨_, ⟨pz, cz, Hz, rfl, hOz, rfl⟩, rfl⟩
    refine RL.nil ?_
    refine N.block_normal ?_
    refine N.next ?_
    refine W.keep .nil (.of [0, 1, 2, 3, 4, 5, 103, 107] rfl) ?_
    refine W.seq (W.region ?_)
    refine RL.q (Yld.assign rfl) rfl (RL.q (Yld.assign rfl) rfl (RL.nil (N.next ?_)))
    refine W.ret ?_
    exact N.retBy [1, 2, 3, 4, 5] (.cons (.tmp rfl) (.cons (.tmp rfl) .nil)) rfl rfl rfl rfl ⟨x.setN pz _ cz Hz, by rw [hex]; first | done | rfl, by rw [hex]; exact hx.ad (by simp [ins_len]) hOz, rfl⟩
   ·
    have hex : execP (decide (kdOf m c.it = 2)) t.us t.cs c = (ins t.us ⟨c.it, 0, 0, 0, 0⟩, 0, 0) := by
      unfold execP
      rw [if_neg (show ¬ c.kd = 0 by omega), if_neg (show ¬ c.kd = 1 by omega), if_pos hk, hfn]
      simp [hc29]
    refine W.skip ?_
    refine N.next ?_
    refine W.region ?_
    refine RL.q (Yld.move rfl) rfl ?_
    refine RL.q (Yld.ldW 107 Tryz.underlying48 sz48 rfl rfl rfl rfl) rfl ?_
    refine RL.e (Eff.call ent131 [2, 3] [2, 3] (.cons rfl (.cons rfl .nil)) (add_ct m mach b x x.HU t.us hnu hOu ⟨c.it, 0, 0, 0, 0⟩ hT.inv.pw (fun a ha e => hT.inv.none_pool (it := c.it) (by omega) hfn a ha e.1) (fun a ha => (List.mem_append.1 ha).elim (hur a) (fun h => by simp only [List.mem_singleton] at h; subst h; exact ⟨by simp only; omega, by simp only; omega, by simp only; omega, by simp only; omega⟩)) hb) rfl rfl rfl rfl (by rintro _ _ ⟨_, _, _, _, _, _, rfl⟩; rfl)) rfl ?_
    rintro _ _ ⟨_, ⟨pz, cz, Hz, rfl, hOz, rfl⟩, rfl⟩
    refine RL.nil ?_
    refine N.block_normal ?_
    refine N.next ?_
    refine W.keep .nil (.of [0, 1, 2, 3, 4, 5, 103, 107] rfl) ?_
    refine W.seq (W.region ?_)
    refine RL.q (Yld.assign rfl) rfl (RL.q (Yld.assign rfl) rfl (RL.nil (N.next ?_)))
    refine W.ret ?_
    exact N.retBy [1, 2, 3, 4, 5] (.cons (.tmp rfl) (.cons (.tmp rfl) .nil)) rfl rfl rfl rfl ⟨x.setN pz _ cz Hz, by rw [hex]; first | done | rfl, by rw [hex]; exact hx.ad (by simp [ins_len]) hOz, rfl⟩
  ·
   obtain ⟨i, u, hi, hfn, hu, hui, hus⟩ := fz_pos (show ¬ fz (opn c.it) t.us < 0 by omega)
   have hlu := uz_get hu
   have hil := (List.getElem?_eq_some_iff.1 hu).1
   rw [hi]
   refine W.seq (W.region ?_)
   refine RL.q (Yld.move rfl) rfl ?_
   refine RL.q (Yld.nilP rfl) rfl ?_
   refine RL.q (Yld.fieldAddr fo82_2 rfl) rfl ?_
   refine RL.q (Yld.ld 2 Tryz.underlying41 rfl rfl rfl rfl) rfl ?_
   refine RL.q (Yld.move rfl) rfl ?_
   refine RL.q (Yld.ixr Tryz.underlying41 sz48 rfl rfl) rfl ?_
   refine RL.q (Yld.fieldAddr fo48_2 rfl) rfl ?_
   refine RL.q (by first | exact Yld.lrF 2 2 Tryz.underlying3 rfl rfl rfl rfl | exact Yld.lrF 3 2 Tryz.underlying3 rfl rfl rfl rfl | exact Yld.lrF 103 2 Tryz.underlying3 rfl rfl rfl rfl | exact Yld.lrF 1 2 Tryz.underlying3 rfl rfl rfl rfl | exact Yld.lrF 4 2 Tryz.underlying3 rfl rfl rfl rfl | exact Yld.lrF 5 2 Tryz.underlying3 rfl rfl rfl rfl) rfl ?_
   refine RL.q (Yld.bin rfl rfl BinV.eql) rfl ?_
   refine RL.q (Yld.assign rfl) rfl (RL.nil (N.next ?_))
   refine W.keep (.of [0, 6, 36] rfl) (.of [0, 1, 2, 3, 4, 5, 103] rfl) ?_
   first | refine W.condD rfl (fun hc36 => ?_) (fun hc36 => ?_) | (refine W.cond rfl (fun hc36 => ?_) (fun hc36 => ?_) <;> try simp only [Bool.or_eq_true, Bool.and_eq_true, Bool.not_eq_true', Bool.not_eq_false', decide_eq_true_eq, Bool.or_eq_false_iff, Bool.and_eq_false_iff, decide_eq_false_iff_not, beq_iff_eq, beq_eq_false_iff_ne, ne_eq, Decidable.not_not] at hc36)
   ·
    have hex : execP (decide (kdOf m c.it = 2)) t.us t.cs c = (t.us, 9, 0) := by
      unfold execP
      rw [if_neg (show ¬ c.kd = 0 by omega), if_neg (show ¬ c.kd = 1 by omega), if_pos hk, hfn]
      show (if stOf t.us i = 1 then _ else _) = _
      rw [stOf_get hu, if_pos hc36]
    refine W.seq (W.region ?_)
    refine RL.q (Yld.assign rfl) rfl (RL.q (Yld.assign rfl) rfl (RL.nil (N.next ?_)))
    refine W.ret ?_
    refine N.block_ret ?_
    refine N.then_ret ?_
    exact N.retBy [1, 2, 3, 4, 5] (.cons (.tmp rfl) (.cons (.tmp rfl) .nil)) rfl rfl rfl rfl ⟨x, by rw [hex]; first | done | rfl, by rw [hex]; exact hx, rfl⟩
   ·
    have hex : execP (decide (kdOf m c.it = 2)) t.us t.cs c = (stAt t.us i 0, 0, 0) := by
      unfold execP
      rw [if_neg (show ¬ c.kd = 0 by omega), if_neg (show ¬ c.kd = 1 by omega), if_pos hk, hfn]
      show (if stOf t.us i = 1 then _ else _) = _
      rw [stOf_get hu, if_neg hc36]
    refine W.region ?_
    refine RL.q (Yld.move rfl) rfl ?_
    refine RL.q (Yld.nilP rfl) rfl ?_
    refine RL.q (Yld.fieldAddr fo82_2 rfl) rfl ?_
    refine RL.q (Yld.ld 2 Tryz.underlying41 rfl rfl rfl rfl) rfl ?_
    refine RL.q (Yld.move rfl) rfl ?_
    refine RL.q (Yld.ixr Tryz.underlying41 sz48 rfl rfl) rfl ?_
    refine RL.q (Yld.fieldAddr fo48_2 rfl) rfl ?_
    refine RL.e0 (Eff.storeRow (tc := 3) (j := 2) sz3 rfl rfl rfl hOu hlu rfl rfl rfl rfl rfl) ?_
    rintro _ _ ⟨Hb, hOb, rfl⟩
    replace hOb : Own Hb x.pu x.cu 48 5 ((stAt t.us i 0).map U.c) := by rw [← uz_set hu]; exact hOb
    refine RL.nil ?_
    refine N.block_normal ?_
    refine N.next ?_
    refine W.keep .nil (.of [0, 1, 2, 3, 4, 5, 103] rfl) ?_
    refine W.seq (W.region ?_)
    refine RL.q (Yld.assign rfl) rfl (RL.q (Yld.assign rfl) rfl (RL.nil (N.next ?_)))
    refine W.ret ?_
    exact N.retBy [1, 2, 3, 4, 5] (.cons (.tmp rfl) (.cons (.tmp rfl) .nil)) rfl rfl rfl rfl ⟨x.setU Hb, by rw [hex]; first | done | rfl, by rw [hex]; exact hx.st hOb, rfl⟩
set_option maxRecDepth 100000 in
set_option maxHeartbeats 3200000 in
theorem opens_ct (m : Md) (H1 : PH) (hM : m.In H1) (mach : Int) (b : Nat) (t : T) (x : Tb) (hx : x.Is t) (c : Cm) (hv : MdV m) (hT : TI m mach t) (hf : Fits (kdOf m c.it) mach c) (hrp : c.rp ≤ 9223372036854775807) (hb : t.us.length ≤ 1000000) (hk : c.kd = 0) : Ct Tryz.prog 77 [.pointer (some ⟨b, 0, none⟩), .agg [.int .i64 c.kd, .int .i64 c.it, .int .i64 c.rp, .int .i64 c.va].toArray] [H1, single b (.cells [.slice m.psi m.si.length m.csi, .slice m.pfe m.fe.length m.cfe, .slice m.prk m.rk.length m.crk, .slice m.pmc m.mc.length m.cmc, .slice m.pln m.ln.length m.cln, .slice m.pis m.is.length m.cis, .int .i64 m.da, .int .i64 m.sl, .int .i64 m.re, .int .i64 m.fa, .slice m.prl m.rl.length m.crl, .int .i64 mach, .slice x.pu x.nu x.cu, .slice x.pc x.nc x.cc, .int .i64 x.gen, .map (some x.d)].toArray 82 (0, 0)), x.HU, x.HC, single x.d (.map x.es x.ck)] (fun v Hs => ∃ y : Tb, v = .tuple [.int .i64 (execP (decide (kdOf m c.it = 2)) t.us t.cs c).2.1, .int .i64 (execP (decide (kdOf m c.it = 2)) t.us t.cs c).2.2].toArray ∧ y.Is { t with us := (execP (decide (kdOf m c.it = 2)) t.us t.cs c).1 } ∧ Hs = [H1, single b (.cells [.slice m.psi m.si.length m.csi, .slice m.pfe m.fe.length m.cfe, .slice m.prk m.rk.length m.crk, .slice m.pmc m.mc.length m.cmc, .slice m.pln m.ln.length m.cln, .slice m.pis m.is.length m.cis, .int .i64 m.da, .int .i64 m.sl, .int .i64 m.re, .int .i64 m.fa, .slice m.prl m.rl.length m.crl, .int .i64 mach, .slice y.pu y.nu y.cu, .slice y.pc y.nc y.cc, .int .i64 y.gen, .map (some y.d)].toArray 82 (0, 0)), y.HU, y.HC, single y.d (.map y.es y.ck)]) := by
  refine Ct.body Tryz.func77 rfl Tryz.ntmps77 rfl ?_
  intro E F
  obtain ⟨hnu, hnc, hgn, hOu, hOc, hMp, hdn⟩ := id hx
  have hSu := hOu.sl
  have hmu := hSu.len_le
  simp only [List.length_map, maxLen] at hmu
  have hur := hT.ur hv
  have hkf := hf.1
  unfold kdFit at hkf
  obtain ⟨hit1, hit2⟩ := kdOf_ge (m := m) (z := c.it) (by omega)
  have hn5 := hv.n5
  have hlo := fz_lo (us := t.us) (it := c.it)
  obtain ⟨hr1, hr2⟩ := hf.2.2.2 hk
  refine W.seq (W.region ?_)
  refine RL.e (Eff.box 103 _ rfl rfl) rfl ?_
  rintro _ _ ⟨b3, rfl, rfl⟩
  refine RL.q (Yld.assign rfl) rfl (RL.q (Yld.assign rfl) rfl (RL.nil (N.next ?_)))
  refine W.seq ?_
  refine W.seq (W.region ?_)
  refine RL.q (Yld.move rfl) rfl ?_
  refine RL.q (Yld.nilP rfl) rfl ?_
  refine RL.q (Yld.fieldAddr fo82_2 rfl) rfl ?_
  refine RL.q (Yld.ld 2 Tryz.underlying41 rfl rfl rfl rfl) rfl ?_
  refine RL.q (Yld.lenSl Tryz.underlying41 rfl) rfl ?_
  refine RL.q (Yld.move rfl) rfl (RL.nil (N.next ?_))
  refine W.keep (.of [0, 3, 12, 13, 14] rfl) (.of [0, 1, 2, 3, 4, 5, 103] rfl) ?_
  refine W.block ?_
  refine W.loopK (ι := Nat) (fun j => (j ≤ t.us.length ∧ ∀ (i : Nat) u, i < j → t.us[i]? = some u → late c u = false)) (fun j => [(14, .int .i64 (j : Nat))]) (fun j => []) (fun j => t.us.length - j) (.of [0, 3, 12, 13] rfl) (.of [0, 1, 2, 3, 4, 5, 103] rfl) 0 ?_ ?_ ?_ ?_
  · exact ⟨Nat.zero_le _, fun _ _ h => absurd h (Nat.not_lt_zero _)⟩
  · exact (.as rfl (by first | rfl | (simp; done) | (congr 1; simp; done) | (congr 1; omega)) .nil)
  · exact .nil
  rintro j ⟨hj, hI⟩
  refine W.keep (.of [14, 0, 3, 12, 13] rfl) (.of [0, 1, 2, 3, 4, 5, 103] rfl) ?_
  refine W.seq (W.region ?_)
  refine RL.q (Yld.bin rfl rfl BinV.lss) rfl ?_
  refine RL.nil (N.next ?_)
  refine W.seq ?_
  first | refine W.condD rfl (fun hc15 => ?_) (fun hc15 => ?_) | (refine W.cond rfl (fun hc15 => ?_) (fun hc15 => ?_) <;> try simp only [Bool.or_eq_true, Bool.and_eq_true, Bool.not_eq_true', Bool.not_eq_false', decide_eq_true_eq, Bool.or_eq_false_iff, Bool.and_eq_false_iff, decide_eq_false_iff_not, beq_iff_eq, beq_eq_false_iff_ne, ne_eq, Decidable.not_not] at hc15)
  ·
   obtain ⟨w, hw⟩ : ∃ w, t.us[j]? = some w := ⟨_, List.getElem?_eq_getElem (show j < t.us.length by first | omega | (simp only [List.length_map] at *; omega))⟩
   have hlw : (t.us.map U.c)[j]? = some w.c := by simp [hw]
   refine W.skip ?_
   refine N.next ?_
   refine W.seq ?_
   refine W.block ?_
   refine W.seq (W.region ?_)
   refine RL.q (Yld.ixr Tryz.underlying41 sz48 rfl rfl) rfl ?_
   refine RL.q (by first | exact Yld.lrA 1 Tryz.underlying48 sz48 rfl rfl rfl | exact Yld.lrA 2 Tryz.underlying48 sz48 rfl rfl rfl | exact Yld.lrA 3 Tryz.underlying48 sz48 rfl rfl rfl | exact Yld.lrA 4 Tryz.underlying48 sz48 rfl rfl rfl | exact Yld.lrA 5 Tryz.underlying48 sz48 rfl rfl rfl | exact Yld.lrA 103 Tryz.underlying48 sz48 rfl rfl rfl) rfl ?_
   refine RL.e (Eff.alloc 107 zc48) rfl ?_
   rintro _ _ ⟨b7, rfl, rfl⟩
   refine RL.e0 (Eff.storeS (c := 107) _ sz48 rfl rfl rfl rfl rfl rfl rfl (by (try simp only [putAt, List.take, List.drop, List.nil_append, List.cons_append, List.append_nil, List.length_cons, List.length_nil, Nat.add_zero, Nat.zero_add, Nat.reduceAdd]); rfl)) ?_
   rintro _ _ rfl
   refine RL.nil (N.next ?_)
   refine W.seq (W.region ?_)
   refine RL.q (Yld.fieldAddr fo48_0 rfl) rfl ?_
   refine RL.q (Yld.ld 107 Tryz.underlying3 rfl rfl rfl rfl) rfl ?_
   refine RL.q (Yld.fieldAddr fo36_1 rfl) rfl ?_
   refine RL.q (Yld.ld 103 Tryz.underlying3 rfl rfl rfl rfl) rfl ?_
   refine RL.q (Yld.bin rfl rfl BinV.eql) rfl ?_
   refine RL.q (Yld.move rfl) rfl ?_
   refine' RL.and (t := 23) (d := 41) 18 rfl (.of [0, 3, 7, 12, 13, 14, 15, 16, 17, 18, 19, 20, 21, 22] rfl) (.of [0, 1, 2, 3, 4, 5, 103, 107] rfl) ?_ ?_ ?_
   rotate_left 1
   ·
    intro hg23
    refine RL.gq rfl rfl (Yld.fieldAddr fo48_1 rfl) rfl ?_
    refine RL.gq rfl rfl (Yld.ld 107 Tryz.underlying3 rfl rfl rfl rfl) rfl ?_
    refine RL.gq rfl rfl (Yld.fieldAddr fo36_2 rfl) rfl ?_
    refine RL.gq rfl rfl (Yld.ld 103 Tryz.underlying3 rfl rfl rfl rfl) rfl ?_
    refine RL.gq rfl rfl (Yld.bin rfl rfl BinV.gtr) rfl ?_
    refine RL.gq rfl rfl (Yld.move rfl) rfl ?_
    refine' RL.or (t := 29) (d := 40) 11 rfl (.of [0, 3, 7, 12, 13, 14, 15, 16, 17, 18, 19, 20, 21, 22, 23, 24, 25, 26, 27, 28] rfl) (.of [0, 1, 2, 3, 4, 5, 103, 107] rfl) ?_ ?_ ?_
    rotate_left 1
    ·
     intro hg29
     refine RL.gq rfl rfl (Yld.fieldAddr fo48_1 rfl) rfl ?_
     refine RL.gq rfl rfl (Yld.ld 107 Tryz.underlying3 rfl rfl rfl rfl) rfl ?_
     refine RL.gq rfl rfl (Yld.fieldAddr fo36_2 rfl) rfl ?_
     refine RL.gq rfl rfl (Yld.ld 103 Tryz.underlying3 rfl rfl rfl rfl) rfl ?_
     refine RL.gq rfl rfl (Yld.bin rfl rfl BinV.eql) rfl ?_
     refine RL.gq rfl rfl (Yld.move rfl) rfl ?_
     refine' RL.and (t := 35) (d := 39) 4 rfl (.of [0, 3, 7, 12, 13, 14, 15, 16, 17, 18, 19, 20, 21, 22, 23, 24, 25, 26, 27, 28, 29, 30, 31, 32, 33, 34] rfl) (.of [0, 1, 2, 3, 4, 5, 103, 107] rfl) ?_ ?_ ?_
     rotate_left 1
     ·
      intro hg35
      refine RL.gq rfl rfl (Yld.fieldAddr fo48_2 rfl) rfl ?_
      refine RL.gq rfl rfl (Yld.ld 107 Tryz.underlying3 rfl rfl rfl rfl) rfl ?_
      refine RL.gq rfl rfl (Yld.bin rfl rfl BinV.eql) rfl ?_
      refine RL.gq rfl rfl Yld.pk rfl ?_
      exact RL.nil (N.meet (.to rfl) (.to rfl))
     ·
      intro hg35
      refine RL.gskip rfl rfl rfl rfl ?_
      refine RL.gskip rfl rfl rfl rfl ?_
      refine RL.gskip rfl rfl rfl rfl ?_
      refine RL.gq rfl rfl Yld.pk rfl ?_
      exact RL.nil (N.meet (.to rfl) (.to rfl))
     refine RL.gq rfl rfl Yld.pk rfl ?_
     exact RL.nil (N.meet (.to rfl) (.to rfl))
    ·
     intro hg29
     refine RL.gskip rfl rfl rfl rfl ?_
     refine RL.gskip rfl rfl rfl rfl ?_
     refine RL.gskip rfl rfl rfl rfl ?_
     refine RL.gskip rfl rfl rfl rfl ?_
     refine RL.gskip rfl rfl rfl rfl ?_
     refine RL.gskip rfl rfl rfl rfl ?_
     refine RL.gskipU rfl rfl rfl ?_
     refine RL.gskipU rfl rfl rfl ?_
     refine RL.gskipU rfl rfl rfl ?_
     refine RL.gskip rfl rfl rfl rfl ?_
     refine RL.gq rfl rfl Yld.pk rfl ?_
     exact RL.nil (N.meet (.to rfl) (.to rfl))
    refine RL.q Yld.pk rfl ?_
    exact RL.nil (N.meet (.to rfl) (.to rfl))
   ·
    intro hg23
    refine RL.gskip rfl rfl rfl rfl ?_
    refine RL.gskip rfl rfl rfl rfl ?_
    refine RL.gskip rfl rfl rfl rfl ?_
    refine RL.gskip rfl rfl rfl rfl ?_
    refine RL.gskip rfl rfl rfl rfl ?_
    refine RL.gskip rfl rfl rfl rfl ?_
    refine RL.gskipU rfl rfl rfl ?_
    refine RL.gskipU rfl rfl rfl ?_
    refine RL.gskipU rfl rfl rfl ?_
    refine RL.gskipU rfl rfl rfl ?_
    refine RL.gskipU rfl rfl rfl ?_
    refine RL.gskipU rfl rfl rfl ?_
    refine RL.gskipU rfl rfl rfl ?_
    refine RL.gskipU rfl rfl rfl ?_
    refine RL.gskipU rfl rfl rfl ?_
    refine RL.gskipU rfl rfl rfl ?_
    refine RL.gskip rfl rfl rfl rfl ?_
    refine RL.q Yld.pk rfl ?_
    exact RL.nil (N.meet (.to rfl) (.to rfl))
   refine RL.nil (N.next ?_)
   refine W.keep (.of [0, 3, 12, 13, 14, 41] rfl) (.of [0, 1, 2, 3, 4, 5, 103, 107] rfl) ?_
   refine W.cond rfl (fun hc41 => ?_) (fun hc41 => ?_)
   ·
    have hex : execP (decide (kdOf m c.it = 2)) t.us t.cs c = (t.us, 9, 0) := by
      unfold execP
      rw [if_pos hk, if_pos (List.any_eq_true.2 ⟨w, List.mem_of_getElem? hw, hc41⟩)]
    refine W.seq (W.region ?_)
    refine RL.q (Yld.assign rfl) rfl (RL.q (Yld.assign rfl) rfl (RL.nil (N.next ?_)))
    refine W.keep (.of [4, 5] rfl) (.of [0, 1, 2, 3, 4, 5, 103, 107] rfl) ?_
    refine W.ret ?_
    refine N.block_ret ?_
    refine N.then_ret ?_
    refine N.then_ret ?_
    refine N.block_ret ?_
    refine N.then_ret ?_
    exact N.retBy [1, 2, 3, 4, 5] (.cons (.tmp rfl) (.cons (.tmp rfl) .nil)) rfl rfl rfl rfl ⟨x, by rw [hex]; first | done | rfl, by rw [hex]; exact hx, rfl⟩
   ·
    refine W.skip ?_
    refine N.block_normal ?_
    refine N.next ?_
    refine W.region ?_
    refine RL.q (Yld.bin rfl rfl (by first | exact BinV.add (by omega) (by omega) | exact BinV.addW)) rfl ?_
    refine RL.q (Yld.move rfl) rfl (RL.nil ?_)
    exact N.famK (j + 1) ⟨⟨by omega, fun q y hq hy => (Nat.lt_succ_iff_lt_or_eq.1 hq).elim (fun h => hI q y h hy) (fun e => by subst e; rw [hw] at hy; cases hy; exact hc41)⟩, by omega⟩ (.as rfl (by first | rfl | (simp; done) | (congr 1; simp; done) | (congr 1; omega)) .nil) (.to rfl) .nil (.to rfl)
  ·
   have hnl : ¬ t.us.any (late c) = true := fun h => by
     obtain ⟨a, ha, hla⟩ := List.any_eq_true.1 h
     obtain ⟨k, hk2⟩ := List.getElem?_of_mem ha
     rw [hI k a (by have := (List.getElem?_eq_some_iff.1 hk2).1; omega) hk2] at hla; cases hla
   have hl2 := not_late hnl
   refine W.exit ?_
   refine N.then_exit ?_
   refine N.then_exit ?_
   refine N.block_eq ?_
   refine N.next ?_
   refine W.keep (.of [0, 3] rfl) (.of [0, 1, 2, 3, 4, 5, 103] rfl) ?_
   refine W.seq ?_
   refine W.seq (W.region ?_)
   refine RL.q (Yld.move rfl) rfl ?_
   refine RL.q (Yld.fieldAddr fo36_1 rfl) rfl ?_
   refine RL.q (Yld.ld 103 Tryz.underlying3 rfl rfl rfl rfl) rfl ?_
   refine RL.e (Eff.call ent49 [2, 3] [2, 3] (.cons rfl (.cons rfl .nil)) (find_ct m mach b t x hx c.it) rfl rfl rfl rfl (by rintro _ _ ⟨_, rfl⟩; rfl)) rfl ?_
   rintro _ _ ⟨_, ⟨rfl, rfl⟩, rfl⟩
   refine RL.q (Yld.assign rfl) rfl (RL.nil (N.next ?_))
   refine W.keep (.of [0, 3, 8] rfl) (.of [0, 1, 2, 3, 4, 5, 103] rfl) ?_
   refine W.seq (W.region ?_)
   refine RL.q (Yld.move rfl) rfl ?_
   refine RL.q (Yld.bin rfl rfl BinV.geq) rfl ?_
   refine RL.nil (N.next ?_)
   first | refine W.condD rfl (fun hc48 => ?_) (fun hc48 => ?_) | (refine W.cond rfl (fun hc48 => ?_) (fun hc48 => ?_) <;> try simp only [Bool.or_eq_true, Bool.and_eq_true, Bool.not_eq_true', Bool.not_eq_false', decide_eq_true_eq, Bool.or_eq_false_iff, Bool.and_eq_false_iff, decide_eq_false_iff_not, beq_iff_eq, beq_eq_false_iff_ne, ne_eq, Decidable.not_not] at hc48)
   ·
    obtain ⟨i, u, hi, hfn, hu, hui, hus⟩ := fz_pos (show ¬ fz (opn c.it) t.us < 0 by omega)
    have hlu := uz_get hu
    have hil := (List.getElem?_eq_some_iff.1 hu).1
    rw [hi]
    refine W.seq ?_
    refine W.seq ?_
    refine W.draw (.q 0 (.q 1 (.q 2 (.q 3 (.q 4 (.q 5 (.q 6 (.q 7 (.q 8 (.q 9 (.q 10 .done))))))))))) (.of [0, 1, 2, 3, 4, 5, 103] rfl) mix (by kernel_rfl) (by kernel_rfl) ?_
    refine DL.q rfl (Yld.move rfl) rfl ?_
    refine DL.q rfl (Yld.nilP rfl) rfl ?_
    refine DL.q rfl (Yld.fieldAddr fo82_2 rfl) rfl ?_
    refine DL.q rfl (Yld.ld 2 Tryz.underlying41 rfl rfl rfl rfl) rfl ?_
    refine DL.q rfl (Yld.move rfl) rfl ?_
    refine DL.q rfl (Yld.ixr Tryz.underlying41 sz48 rfl rfl) rfl ?_
    refine DL.q rfl (Yld.fieldAddr fo48_1 rfl) rfl ?_
    refine DL.q rfl (by first | exact Yld.lrF 2 1 Tryz.underlying3 rfl rfl rfl rfl | exact Yld.lrF 3 1 Tryz.underlying3 rfl rfl rfl rfl | exact Yld.lrF 1 1 Tryz.underlying3 rfl rfl rfl rfl | exact Yld.lrF 4 1 Tryz.underlying3 rfl rfl rfl rfl | exact Yld.lrF 5 1 Tryz.underlying3 rfl rfl rfl rfl | exact Yld.lrF 103 1 Tryz.underlying3 rfl rfl rfl rfl) rfl ?_
    refine DL.q rfl (Yld.fieldAddr fo36_2 rfl) rfl ?_
    refine DL.q rfl (Yld.ld 103 Tryz.underlying3 rfl rfl rfl rfl) rfl ?_
    refine DL.q rfl (Yld.bin rfl rfl BinV.eql) rfl ?_
    refine DL.done ?_
    refine N.next ?_
    refine W.keep (.of [0, 3, 8, 59] rfl) (.of [0, 1, 2, 3, 4, 5, 103] rfl) ?_
    first | refine W.condD rfl (fun hc59 => ?_) (fun hc59 => ?_) | (refine W.cond rfl (fun hc59 => ?_) (fun hc59 => ?_) <;> try simp only [Bool.or_eq_true, Bool.and_eq_true, Bool.not_eq_true', Bool.not_eq_false', decide_eq_true_eq, Bool.or_eq_false_iff, Bool.and_eq_false_iff, decide_eq_false_iff_not, beq_iff_eq, beq_eq_false_iff_ne, ne_eq, Decidable.not_not] at hc59)
    ·
     have hex : execP (decide (kdOf m c.it = 2)) t.us t.cs c = (t.us, 0, 0) := by
       unfold execP
       rw [if_pos hk, if_neg hnl, hfn]
       show (if rpOf t.us i = c.rp then _ else _) = _
       rw [rpOf_get hu, if_pos hc59]
     refine W.seq (W.region ?_)
     refine RL.q (Yld.assign rfl) rfl (RL.q (Yld.assign rfl) rfl (RL.nil (N.next ?_)))
     refine W.keep (.of [4, 5] rfl) (.of [0, 1, 2, 3, 4, 5, 103] rfl) ?_
     refine W.ret ?_
     refine N.then_ret ?_
     refine N.then_ret ?_
     exact N.retBy [1, 2, 3, 4, 5] (.cons (.tmp rfl) (.cons (.tmp rfl) .nil)) rfl rfl rfl rfl ⟨x, by rw [hex]; first | done | rfl, by rw [hex]; exact hx, rfl⟩
    ·
     have hex : execP (decide (kdOf m c.it = 2)) t.us t.cs c = (ins (stAt t.us i 3) ⟨c.it, c.rp, 0, 0, 0⟩, 0, 0) := by
       unfold execP
       rw [if_pos hk, if_neg hnl, hfn]
       show (if rpOf t.us i = c.rp then _ else _) = _
       rw [rpOf_get hu, if_neg hc59]
     have hne : ∀ a ∈ stAt t.us i 3, ¬ (a.it = c.it ∧ a.rp = c.rp) := fun a ha e => by
       rcases stAt_mem ha with h1 | ⟨y, hy, rfl⟩
       · obtain ⟨q, hq⟩ := List.getElem?_of_mem h1
         have h4 := hl2 a h1 e.1
         by_cases hqi : q = i
         · subst hqi; rw [hu] at hq; cases hq; exact hc59 e.2
         · have := hT.inv.last hfn hu hq e.1 hqi; omega
       · rw [hu] at hy; cases hy; exact hc59 e.2
     refine W.skip ?_
     refine N.next ?_
     refine W.region ?_
     refine RL.q (Yld.move rfl) rfl ?_
     refine RL.q (Yld.nilP rfl) rfl ?_
     refine RL.q (Yld.fieldAddr fo82_2 rfl) rfl ?_
     refine RL.q (Yld.ld 2 Tryz.underlying41 rfl rfl rfl rfl) rfl ?_
     refine RL.q (Yld.move rfl) rfl ?_
     refine RL.q (Yld.ixr Tryz.underlying41 sz48 rfl rfl) rfl ?_
     refine RL.q (Yld.fieldAddr fo48_2 rfl) rfl ?_
     refine RL.e0 (Eff.storeRow (tc := 3) (j := 2) sz3 rfl rfl rfl hOu hlu rfl rfl rfl rfl rfl) ?_
     rintro _ _ ⟨Hb, hOb, rfl⟩
     replace hOb : Own Hb x.pu x.cu 48 5 ((stAt t.us i 3).map U.c) := by rw [← uz_set hu]; exact hOb
     refine RL.nil (N.next ?_)
     refine W.keep (.of [0, 3] rfl) (.of [0, 1, 2, 3, 4, 5, 103] rfl) ?_
     refine W.seq (W.region ?_)
     refine RL.q (Yld.move rfl) rfl ?_
     refine RL.q (Yld.fieldAddr fo36_1 rfl) rfl ?_
     refine RL.q (Yld.ld 103 Tryz.underlying3 rfl rfl rfl rfl) rfl ?_
     refine RL.q (Yld.fieldAddr fo36_2 rfl) rfl ?_
     refine RL.q (Yld.ld 103 Tryz.underlying3 rfl rfl rfl rfl) rfl ?_
     refine RL.q (Yld.buildP lay48 (.cons rfl rfl (.cons rfl rfl .nil)) rfl) rfl ?_
     refine RL.e (Eff.call ent131 [2, 3] [2, 3] (.cons rfl (.cons rfl .nil)) (add_ct m mach b x Hb (stAt t.us i 3) (by rw [stAt_len]; exact hnu) hOb ⟨c.it, c.rp, 0, 0, 0⟩ (stAt_pw hT.inv.pw hu hus) hne (fun a ha => (List.mem_append.1 ha).elim (fun h => by rcases stAt_mem h with h1 | ⟨w, hw, rfl⟩; exact hur a h1; exact hur w (List.mem_of_getElem? hw)) (fun h => by simp only [List.mem_singleton] at h; subst h; exact ⟨by simp only; omega, by simp only; omega, by simp only; omega, by simp only; omega⟩)) (by rw [stAt_len]; exact hb)) rfl rfl rfl rfl (by rintro _ _ ⟨_, _, _, _, _, _, rfl⟩; rfl)) rfl ?_
     rintro _ _ ⟨_, ⟨pz, cz, Hz, rfl, hOz, rfl⟩, rfl⟩
     refine RL.nil (N.next ?_)
     refine W.keep .nil (.of [0, 1, 2, 3, 4, 5, 103] rfl) ?_
     refine W.seq (W.region ?_)
     refine RL.q (Yld.assign rfl) rfl (RL.q (Yld.assign rfl) rfl (RL.nil (N.next ?_)))
     refine W.ret ?_
     exact N.retBy [1, 2, 3, 4, 5] (.cons (.tmp rfl) (.cons (.tmp rfl) .nil)) rfl rfl rfl rfl ⟨x.setN pz _ cz Hz, by rw [hex]; first | done | rfl, by rw [hex]; exact hx.ad (by simp [ins_len]) hOz, rfl⟩
   ·
    have hfn := fz_neg (show fz (opn c.it) t.us < 0 by omega)
    have hne : ∀ a ∈ t.us, ¬ (a.it = c.it ∧ a.rp = c.rp) := fun a ha e => by
      have h3 := fnd_none hfn a ha
      simp [opn, e.1] at h3
      have := hl2 a ha e.1
      omega
    have hex : execP (decide (kdOf m c.it = 2)) t.us t.cs c = (ins t.us ⟨c.it, c.rp, 0, 0, 0⟩, 0, 0) := by
      unfold execP
      rw [if_pos hk, if_neg hnl, hfn]
    refine W.skip ?_
    refine N.next ?_
    refine W.seq (W.region ?_)
    refine RL.q (Yld.move rfl) rfl ?_
    refine RL.q (Yld.fieldAddr fo36_1 rfl) rfl ?_
    refine RL.q (Yld.ld 103 Tryz.underlying3 rfl rfl rfl rfl) rfl ?_
    refine RL.q (Yld.fieldAddr fo36_2 rfl) rfl ?_
    refine RL.q (Yld.ld 103 Tryz.underlying3 rfl rfl rfl rfl) rfl ?_
    refine RL.q (Yld.buildP lay48 (.cons rfl rfl (.cons rfl rfl .nil)) rfl) rfl ?_
    refine RL.e (Eff.call ent131 [2, 3] [2, 3] (.cons rfl (.cons rfl .nil)) (add_ct m mach b x x.HU t.us hnu hOu ⟨c.it, c.rp, 0, 0, 0⟩ hT.inv.pw hne (fun a ha => (List.mem_append.1 ha).elim (hur a) (fun h => by simp only [List.mem_singleton] at h; subst h; exact ⟨by simp only; omega, by simp only; omega, by simp only; omega, by simp only; omega⟩)) hb) rfl rfl rfl rfl (by rintro _ _ ⟨_, _, _, _, _, _, rfl⟩; rfl)) rfl ?_
    rintro _ _ ⟨_, ⟨pz, cz, Hz, rfl, hOz, rfl⟩, rfl⟩
    refine RL.nil (N.next ?_)
    refine W.keep .nil (.of [0, 1, 2, 3, 4, 5, 103] rfl) ?_
    refine W.seq (W.region ?_)
    refine RL.q (Yld.assign rfl) rfl (RL.q (Yld.assign rfl) rfl (RL.nil (N.next ?_)))
    refine W.ret ?_
    exact N.retBy [1, 2, 3, 4, 5] (.cons (.tmp rfl) (.cons (.tmp rfl) .nil)) rfl rfl rfl rfl ⟨x.setN pz _ cz Hz, by rw [hex]; first | done | rfl, by rw [hex]; exact hx.ad (by simp [ins_len]) hOz, rfl⟩
end Go.Proofs.YtboapdcmaeojgaaGreatDoor
namespace Go.Proofs.YtboapdcmaeojgaaGreatDoor
open SL Cat Fen
set_option linter.unusedVariables false
set_option linter.unusedSimpArgs false
theorem ent37 : Ent Tryz.prog 37 := ⟨_, _, Tryz.func37, by kernel_rfl, rfl⟩
theorem ent132 : Ent Tryz.prog 132 := ⟨_, _, Tryz.func132, by kernel_rfl, rfl⟩
set_option maxRecDepth 100000 in
set_option maxHeartbeats 1600000 in
theorem deleteH_ct (us : List U) (HU : PH) (pa : Addr) (cu nu : Nat) (hnu : nu = us.length) (hO : Own HU (some pa) cu 48 5 (us.map U.c)) (i : Nat) (hi : i < us.length) (hb : us.length ≤ 1000001) : Ct Tryz.prog 132 [.slice (some pa) nu cu, .int .i64 i, .int .i64 ((i : Int) + 1)] [HU] (fun v Hs => ∃ H', v = .slice (some pa) (us.eraseIdx i).length cu ∧ Own H' (some pa) cu 48 5 ((us.eraseIdx i).map U.c) ∧ Hs = [H']) := by
  refine Ct.body Tryz.func132 rfl Tryz.ntmps132 rfl ?_
  intro E F
  have hS := hO.sl
  have hmx := hS.len_le
  simp only [List.length_map, maxLen] at hmx
  have hrows : (us.map U.c).take i ++ (us.map U.c).drop (i + 1) = (us.eraseIdx i).map U.c := by rw [List.eraseIdx_eq_take_drop_succ, List.map_append, List.map_take, List.map_drop]
  have hel : (us.eraseIdx i).length = us.length - 1 := List.length_eraseIdx_of_lt hi
  refine W.seq (W.region ?_)
  refine RL.q (Yld.assign rfl) rfl (RL.nil (N.next ?_))
  refine W.seq (W.region ?_)
  refine RL.q (Yld.move rfl) rfl (RL.q (Yld.move rfl) rfl (RL.q (Yld.move rfl) rfl (RL.q (Yld.move rfl) rfl ?_)))
  refine RL.q (Yld.lenSl Tryz.underlying41 rfl) rfl ?_
  refine RL.q (Yld.slice3 Tryz.underlying41 sz48 rfl rfl rfl rfl (by omega) (by omega) (by omega) (by omega)) rfl ?_
  refine RL.nil (N.next ?_)
  refine W.keep (.of [0, 1, 2] rfl) (.of [0, 1] rfl) ?_
  refine W.seq ?_
  refine W.seq (W.region ?_)
  refine RL.q (Yld.move rfl) rfl (RL.q (Yld.move rfl) rfl ?_)
  refine RL.q (Yld.bin rfl rfl BinV.eql) rfl ?_
  refine RL.nil (N.next ?_)
  first | (refine W.as (t := 16) rfl (boolF (by first | assumption | omega | (simp; done))) ?_; refine W.condF rfl ?_) | refine W.condF rfl ?_
  refine W.skip ?_
  refine N.next ?_
  refine W.seq (W.region ?_)
  refine RL.q (Yld.move rfl) rfl ?_
  refine RL.q (Yld.lenSl Tryz.underlying41 rfl) rfl ?_
  refine RL.q (Yld.assign rfl) rfl (RL.nil (N.next ?_))
  refine W.keep (.of [0, 1, 2, 7] rfl) (.of [0, 1] rfl) ?_
  refine W.seq ?_
  refine W.draw (.q 0 (.q 1 (.q 2 (.q 3 (.q 4 (.q 5 (.one 6 (.q 7 .done)))))))) (.of [0] rfl) mix (by kernel_rfl) (by kernel_rfl) ?_
  refine DL.q rfl (Yld.move rfl) rfl ?_
  refine DL.q rfl (Yld.move rfl) rfl ?_
  refine DL.q rfl (Yld.sliceH Tryz.underlying41 sz48 rfl rfl (by omega) (by first | omega | (simp; done) | (simp; omega))) rfl ?_
  refine DL.q rfl (Yld.move rfl) rfl ?_
  refine DL.q rfl (Yld.move rfl) rfl ?_
  refine DL.q rfl (Yld.sliceL Tryz.underlying41 sz48 rfl rfl (by omega) (by first | omega | (simp; done) | (simp; omega))) rfl ?_
  refine DL.one rfl (Eff.appendF (tc := 1) (sc := 1) Tryz.underlying41 el48 rfl rfl rfl rfl (hO.take i) (by simp; omega) (hS.drop (k := i + 1) (by simp; omega)) (by simp; omega) (fun l hl => by obtain ⟨u, _, rfl⟩ := List.mem_map.1 (List.mem_of_mem_drop hl); exact U.one u) (by decide) (by simp; omega) (by simp [maxLen]; omega) (by simp; omega)) rfl (by rintro _ _ ⟨Ha, rfl, hOa, rfl⟩; repeat (first | exact .nil | refine .cons rfl ?_)) ?_
  rintro _ _ ⟨Ha, rfl, hOa, rfl⟩
  rw [hrows] at hOa ⊢
  rw [List.length_map]
  refine DL.q rfl (Yld.assign rfl) rfl ?_
  refine DL.done ?_
  refine N.next ?_
  refine W.keep (.of [0, 7] rfl) (.of [0, 1] rfl) ?_
  refine W.seq (W.region ?_)
  refine RL.q (Yld.move rfl) rfl (RL.q (Yld.move rfl) rfl ?_)
  refine RL.q (Yld.lenSl Tryz.underlying41 rfl) rfl ?_
  refine RL.q (Yld.move rfl) rfl ?_
  refine RL.q (Yld.sliceLH Tryz.underlying41 sz48 rfl rfl rfl (by omega) (by omega) (by first | omega | (simp; done) | (simp; omega))) rfl ?_
  refine RL.e0 (Eff.clearSp (tc := 1) Tryz.underlying41 zc48 rfl rfl rfl rfl hOa (by omega) (by rw [List.length_map]; omega) (by rw [List.length_map]; rfl)) ?_
  rintro _ _ ⟨rfl, Hc, hOc, rfl⟩
  refine RL.nil (N.next ?_)
  refine W.keep (.of [0] rfl) (.of [0, 1] rfl) ?_
  refine W.seq (W.region ?_)
  refine RL.q (Yld.move rfl) rfl (RL.q (Yld.assign rfl) rfl (RL.nil (N.next ?_)))
  refine W.ret ?_
  exact N.retBy [1] (.cons (.tmp rfl) .nil) rfl rfl rfl rfl ⟨Hc, rfl, hOc, rfl⟩
set_option maxRecDepth 100000 in
set_option maxHeartbeats 3200000 in
theorem stops_ct (m : Md) (H1 : PH) (hM : m.In H1) (mach : Int) (b : Nat) (t : T) (x : Tb) (hx : x.Is t) (c : Cm) (hv : MdV m) (hT : TI m mach t) (hf : Fits (kdOf m c.it) mach c) (hrp : c.rp ≤ 9223372036854775807) (hb : t.us.length ≤ 1000000) (hk : c.kd = 5) : Ct Tryz.prog 82 [.pointer (some ⟨b, 0, none⟩), .agg [.int .i64 c.kd, .int .i64 c.it, .int .i64 c.rp, .int .i64 c.va].toArray] [H1, single b (.cells [.slice m.psi m.si.length m.csi, .slice m.pfe m.fe.length m.cfe, .slice m.prk m.rk.length m.crk, .slice m.pmc m.mc.length m.cmc, .slice m.pln m.ln.length m.cln, .slice m.pis m.is.length m.cis, .int .i64 m.da, .int .i64 m.sl, .int .i64 m.re, .int .i64 m.fa, .slice m.prl m.rl.length m.crl, .int .i64 mach, .slice x.pu x.nu x.cu, .slice x.pc x.nc x.cc, .int .i64 x.gen, .map (some x.d)].toArray 82 (0, 0)), x.HU, x.HC, single x.d (.map x.es x.ck)] (fun v Hs => ∃ y : Tb, v = .tuple [.int .i64 (execP (decide (kdOf m c.it = 2)) t.us t.cs c).2.1, .int .i64 (execP (decide (kdOf m c.it = 2)) t.us t.cs c).2.2].toArray ∧ y.Is { t with us := (execP (decide (kdOf m c.it = 2)) t.us t.cs c).1 } ∧ Hs = [H1, single b (.cells [.slice m.psi m.si.length m.csi, .slice m.pfe m.fe.length m.cfe, .slice m.prk m.rk.length m.crk, .slice m.pmc m.mc.length m.cmc, .slice m.pln m.ln.length m.cln, .slice m.pis m.is.length m.cis, .int .i64 m.da, .int .i64 m.sl, .int .i64 m.re, .int .i64 m.fa, .slice m.prl m.rl.length m.crl, .int .i64 mach, .slice y.pu y.nu y.cu, .slice y.pc y.nc y.cc, .int .i64 y.gen, .map (some y.d)].toArray 82 (0, 0)), y.HU, y.HC, single y.d (.map y.es y.ck)]) := by
  refine Ct.body Tryz.func82 rfl Tryz.ntmps82 rfl ?_
  intro E F
  obtain ⟨hnu, hnc, hgn, hOu, hOc, hMp, hdn⟩ := id hx
  have hSu := hOu.sl
  have hmu := hSu.len_le
  simp only [List.length_map, maxLen] at hmu
  have hur := hT.ur hv
  have hkf := hf.1
  unfold kdFit at hkf
  obtain ⟨hit1, hit2⟩ := kdOf_ge (m := m) (z := c.it) (by omega)
  have hn5 := hv.n5
  have hlo := fz_lo (us := t.us) (it := c.it)
  refine W.seq (W.region ?_)
  refine RL.e (Eff.box 103 _ rfl rfl) rfl ?_
  rintro _ _ ⟨b3, rfl, rfl⟩
  refine RL.q (Yld.assign rfl) rfl (RL.q (Yld.assign rfl) rfl (RL.nil (N.next ?_)))
  refine W.seq (W.region ?_)
  refine RL.q (Yld.move rfl) rfl ?_
  refine RL.q (Yld.fieldAddr fo36_1 rfl) rfl ?_
  refine RL.q (Yld.ld 103 Tryz.underlying3 rfl rfl rfl rfl) rfl ?_
  refine RL.e (Eff.call ent49 [2, 3] [2, 3] (.cons rfl (.cons rfl .nil)) (find_ct m mach b t x hx c.it) rfl rfl rfl rfl (by rintro _ _ ⟨_, rfl⟩; rfl)) rfl ?_
  rintro _ _ ⟨_, ⟨rfl, rfl⟩, rfl⟩
  refine RL.q (Yld.assign rfl) rfl (RL.nil (N.next ?_))
  refine W.keep (.of [0, 3, 6] rfl) (.of [0, 1, 2, 3, 4, 5, 103] rfl) ?_
  refine W.seq ?_
  refine W.seq (W.region ?_)
  refine RL.q (Yld.move rfl) rfl ?_
  refine RL.q (Yld.bin rfl rfl BinV.lss) rfl ?_
  refine RL.nil (N.next ?_)
  first | refine W.condD rfl (fun hc12 => ?_) (fun hc12 => ?_) | (refine W.cond rfl (fun hc12 => ?_) (fun hc12 => ?_) <;> try simp only [Bool.or_eq_true, Bool.and_eq_true, Bool.not_eq_true', Bool.not_eq_false', decide_eq_true_eq, Bool.or_eq_false_iff, Bool.and_eq_false_iff, decide_eq_false_iff_not, beq_iff_eq, beq_eq_false_iff_ne, ne_eq, Decidable.not_not] at hc12)
  ·
   have hfn := fz_neg (show fz (opn c.it) t.us < 0 by omega)
   have hex : execP (decide (kdOf m c.it = 2)) t.us t.cs c = (t.us, 0, 0) := by
     unfold execP
     rw [if_neg (show ¬ c.kd = 0 by omega), if_neg (show ¬ c.kd = 1 by omega), if_neg (show ¬ c.kd = 2 by omega), if_neg (show ¬ c.kd = 3 by omega), if_neg (show ¬ c.kd = 4 by omega), hfn]
   refine W.seq (W.region ?_)
   refine RL.q (Yld.assign rfl) rfl (RL.q (Yld.assign rfl) rfl (RL.nil (N.next ?_)))
   refine W.keep (.of [4, 5] rfl) (.of [0, 1, 2, 3, 4, 5, 103] rfl) ?_
   refine W.ret ?_
   refine N.then_ret ?_
   exact N.retBy [1, 2, 3, 4, 5] (.cons (.tmp rfl) (.cons (.tmp rfl) .nil)) rfl rfl rfl rfl ⟨x, by rw [hex]; first | done | rfl, by rw [hex]; exact hx, rfl⟩
  ·
   obtain ⟨i, u, hi, hfn, hu, hui, hus⟩ := fz_pos (show ¬ fz (opn c.it) t.us < 0 by omega)
   have hlu := uz_get hu
   have hil := (List.getElem?_eq_some_iff.1 hu).1
   rw [hi]
   refine W.skip ?_
   refine N.next ?_
   refine W.seq ?_
   refine W.seq (W.region ?_)
   refine RL.q (Yld.move rfl) rfl ?_
   refine RL.q (Yld.nilP rfl) rfl ?_
   refine RL.q (Yld.fieldAddr fo82_2 rfl) rfl ?_
   refine RL.q (Yld.ld 2 Tryz.underlying41 rfl rfl rfl rfl) rfl ?_
   refine RL.q (Yld.move rfl) rfl ?_
   refine RL.q (Yld.ixr Tryz.underlying41 sz48 rfl rfl) rfl ?_
   refine RL.q (Yld.fieldAddr fo48_2 rfl) rfl ?_
   refine RL.q (by first | exact Yld.lrF 2 2 Tryz.underlying3 rfl rfl rfl rfl | exact Yld.lrF 3 2 Tryz.underlying3 rfl rfl rfl rfl | exact Yld.lrF 103 2 Tryz.underlying3 rfl rfl rfl rfl | exact Yld.lrF 1 2 Tryz.underlying3 rfl rfl rfl rfl | exact Yld.lrF 4 2 Tryz.underlying3 rfl rfl rfl rfl | exact Yld.lrF 5 2 Tryz.underlying3 rfl rfl rfl rfl) rfl ?_
   refine RL.q (Yld.bin rfl rfl BinV.eql) rfl ?_
   refine RL.q (Yld.move rfl) rfl ?_
   refine' RL.or (t := 22) (d := 28) 6 rfl (.of [0, 3, 6, 11, 12, 13, 14, 15, 16, 17, 18, 19, 20, 21] rfl) (.of [0, 1, 2, 3, 4, 5, 103] rfl) ?_ ?_ ?_
   rotate_left 1
   ·
    intro hg22
    refine RL.gq rfl rfl (Yld.move rfl) rfl ?_
    refine RL.gq rfl rfl (Yld.fieldAddr fo36_1 rfl) rfl ?_
    refine RL.gq rfl rfl (Yld.ld 103 Tryz.underlying3 rfl rfl rfl rfl) rfl ?_
    refine RL.ge rfl rfl (Eff.call ent37 [2, 4] [2, 4] (.cons rfl (.cons rfl .nil)) (open_ct m mach b t x hx c.it) rfl rfl rfl rfl (by rintro _ _ ⟨_, rfl⟩; rfl)) rfl ?_
    rintro _ _ ⟨_, ⟨rfl, rfl⟩, rfl⟩
    refine RL.gq rfl rfl (Yld.bin rfl rfl BinV.gtr) rfl ?_
    refine RL.q Yld.pk rfl ?_
    exact RL.nil (N.meet (.to rfl) (.to rfl))
   ·
    intro hg22
    refine RL.gskip rfl rfl rfl rfl ?_
    refine RL.gskip rfl rfl rfl rfl ?_
    refine RL.gskip rfl rfl rfl rfl ?_
    refine RL.gskip rfl rfl rfl rfl ?_
    refine RL.gskip rfl rfl rfl rfl ?_
    refine RL.q Yld.pk rfl ?_
    exact RL.nil (N.meet (.to rfl) (.to rfl))
   refine RL.nil (N.next ?_)
   refine W.keep (.of [0, 6, 28] rfl) (.of [0, 1, 2, 3, 4, 5, 103] rfl) ?_
   refine W.cond rfl (fun hc28 => ?_) (fun hc28 => ?_)
   ·
    have hc28 : u.st = 0 ∨ 0 < opens t.cs c.it := by
      simp only [Bool.or_eq_true, decide_eq_true_eq] at hc28
      omega
    have hex : execP (decide (kdOf m c.it = 2)) t.us t.cs c = (t.us, 9, 0) := by
      unfold execP
      rw [if_neg (show ¬ c.kd = 0 by omega), if_neg (show ¬ c.kd = 1 by omega), if_neg (show ¬ c.kd = 2 by omega), if_neg (show ¬ c.kd = 3 by omega), if_neg (show ¬ c.kd = 4 by omega), hfn]
      show (if stOf t.us i = 0 ∨ 0 < opens t.cs c.it then _ else _) = _
      rw [stOf_get hu, if_pos hc28]
    refine W.seq (W.region ?_)
    refine RL.q (Yld.assign rfl) rfl (RL.q (Yld.assign rfl) rfl (RL.nil (N.next ?_)))
    refine W.ret ?_
    refine N.then_ret ?_
    exact N.retBy [1, 2, 3, 4, 5] (.cons (.tmp rfl) (.cons (.tmp rfl) .nil)) rfl rfl rfl rfl ⟨x, by rw [hex]; first | done | rfl, by rw [hex]; exact hx, rfl⟩
   ·
    have hc28 : ¬ (u.st = 0 ∨ 0 < opens t.cs c.it) := by
      simp only [Bool.or_eq_false_iff, decide_eq_false_iff_not] at hc28
      omega
    have hex : execP (decide (kdOf m c.it = 2)) t.us t.cs c = (t.us.eraseIdx i, 0, 0) := by
      unfold execP
      rw [if_neg (show ¬ c.kd = 0 by omega), if_neg (show ¬ c.kd = 1 by omega), if_neg (show ¬ c.kd = 2 by omega), if_neg (show ¬ c.kd = 3 by omega), if_neg (show ¬ c.kd = 4 by omega), hfn]
      show (if stOf t.us i = 0 ∨ 0 < opens t.cs c.it then _ else _) = _
      rw [stOf_get hu, if_neg hc28]
    obtain ⟨pa, hpa⟩ : ∃ pa, x.pu = some pa := by
      cases hp : x.pu with
      | some a => exact ⟨a, rfl⟩
      | none => rw [hp] at hOu; obtain ⟨_, _, _, h0, _⟩ := hOu; rw [List.map_eq_nil_iff] at h0; rw [h0] at hil; cases hil
    rw [hpa] at hOu ⊢
    refine W.skip ?_
    refine N.next ?_
    refine W.seq (W.region ?_)
    refine RL.q (Yld.move rfl) rfl (RL.q (Yld.move rfl) rfl ?_)
    refine RL.q (Yld.nilP rfl) rfl ?_
    refine RL.q (Yld.fieldAddr fo82_2 rfl) rfl ?_
    refine RL.q (Yld.ld 2 Tryz.underlying41 rfl rfl rfl rfl) rfl ?_
    refine RL.q (Yld.move rfl) rfl (RL.q (Yld.move rfl) rfl ?_)
    refine RL.q (Yld.bin rfl rfl (by first | exact BinV.add (by omega) (by omega) | exact BinV.addW)) rfl ?_
    refine RL.e (Eff.call ent132 [3] [3] (.cons rfl (.cons rfl (.cons rfl .nil))) (deleteH_ct t.us x.HU pa x.cu x.nu hnu hOu i hil (by omega)) rfl rfl rfl rfl (by rintro _ _ ⟨_, _, _, rfl⟩; rfl)) rfl ?_
    rintro _ _ ⟨_, ⟨Hd, rfl, hOd, rfl⟩, rfl⟩
    refine RL.q (Yld.nilP rfl) rfl ?_
    refine RL.q (Yld.fieldAddr fo82_2 rfl) rfl ?_
    refine RL.e0 (Eff.storeS (c := 2) _ sz41 rfl rfl rfl rfl rfl rfl rfl (by (try simp only [putAt, List.take, List.drop, List.nil_append, List.cons_append, List.append_nil, List.length_cons, List.length_nil, Nat.add_zero, Nat.zero_add, Nat.reduceAdd]); rfl)) ?_
    rintro _ _ rfl
    refine RL.nil (N.next ?_)
    refine W.keep .nil (.of [0, 1, 2, 3, 4, 5, 103] rfl) ?_
    refine W.seq (W.region ?_)
    refine RL.q (Yld.assign rfl) rfl (RL.q (Yld.assign rfl) rfl (RL.nil (N.next ?_)))
    refine W.ret ?_
    exact N.retBy [1, 2, 3, 4, 5] (.cons (.tmp rfl) (.cons (.tmp rfl) .nil)) rfl rfl rfl rfl ⟨x.setN (some pa) _ x.cu Hd, by rw [hex]; first | done | rfl, by rw [hex]; exact hx.ad rfl hOd, rfl⟩
end Go.Proofs.YtboapdcmaeojgaaGreatDoor
namespace Go.Proofs.YtboapdcmaeojgaaGreatDoor.SL
set_option linter.unusedVariables false
theorem Imp.shrink {L : Sh} {c : Nat} {G H : PH} (hL : lk L c = some G) (hs : ∀ b o, H b = some o → G b = some o) : Imp L ((c, H) :: L) := fun E w hm => by
  have look : ∀ i J, lk ((c, H) :: L) i = some J → ∃ J', lk L i = some J' ∧ ∀ b o, J b = some o → J' b = some o := fun i J h => by
    rw [lk_cons] at h
    split at h
    · rename_i e; subst e; cases h; exact ⟨G, hL, hs⟩
    · exact ⟨J, h, fun _ _ h => h⟩
  refine ⟨hm.os, hm.out, fun d J hd => ?_, fun d e J K hne hd he => ?_⟩
  · obtain ⟨J', h1, h2⟩ := look d J hd
    exact fun b o hb => hm.sub d J' h1 b o (h2 b o hb)
  · obtain ⟨J', h1, h2⟩ := look d J hd
    obtain ⟨K', h3, h4⟩ := look e K he
    exact fun b x y hx hy => hm.dis d e J' K' hne h1 h3 b x y (h2 b x hx) (h4 b y hy)
section
variable {X : Cx} {Q : Exit → Act → World → Prop} {σ : SL.Loc} {L : Sh}
theorem N.shrink {e : Exit} (c : Nat) {G H : PH} (hL : lk L c = some G) (hs : ∀ b o, H b = some o → G b = some o) (h : N X Q e σ ((c, H) :: L)) : N X Q e σ L :=
  fun a w ha hm => h a w ha (Imp.shrink hL hs _ _ hm)
theorem RL.merge {ops : Array Oper} {l : List Oper} (c c' : Nat) {G K : PH} (hG : lk L c = some G) (hK : lk L c' = some K) (hne : Nat.beq c' c = false) (h : (∀ b o, K b = some o → hjoin G K b = some o) → RL X ops Q l σ ((c, hjoin G K) :: (c', emp) :: L)) : RL X ops Q l σ L :=
  fun a w ha hm => h (hm.apart hG hK hne) a w ha (Imp.merge hG hK hne _ _ hm)
end
end Go.Proofs.YtboapdcmaeojgaaGreatDoor.SL
namespace Go.Proofs.YtboapdcmaeojgaaGreatDoor
open SL Cat Fen
set_option linter.unusedVariables false
set_option linter.unusedSimpArgs false
theorem fo36_0 : fieldOff Tryz.prog 36 0 = some 0 := by kernel_rfl
theorem zv55 : zv Tryz.prog 55 (.slice none 0 0) := (by kernel_rfl : (Tryz.prog.info? 55).bind (·.zero) = some (.slice none 0 0))
theorem fo82_1 : fieldOff Tryz.prog 82 1 = some 11 := by kernel_rfl
theorem ent77 : Ent Tryz.prog 77 := ⟨_, _, Tryz.func77, by kernel_rfl, rfl⟩
theorem ent78 : Ent Tryz.prog 78 := ⟨_, _, Tryz.func78, by kernel_rfl, rfl⟩
theorem ent79 : Ent Tryz.prog 79 := ⟨_, _, Tryz.func79, by kernel_rfl, rfl⟩
theorem ent80 : Ent Tryz.prog 80 := ⟨_, _, Tryz.func80, by kernel_rfl, rfl⟩
theorem ent81 : Ent Tryz.prog 81 := ⟨_, _, Tryz.func81, by kernel_rfl, rfl⟩
theorem ent82 : Ent Tryz.prog 82 := ⟨_, _, Tryz.func82, by kernel_rfl, rfl⟩
theorem fitsL {b7 b8 b9 b10 b11 b12 : Nat} {H : PH} (h7 : Sl H (some ⟨b7, 0, none⟩) 1 1 (iz [0])) (h8 : Sl H (some ⟨b8, 0, none⟩) 1 1 (iz [0])) (h9 : Sl H (some ⟨b9, 0, none⟩) 1 1 (iz [1])) (h10 : Sl H (some ⟨b10, 0, none⟩) 1 1 (iz [2])) (h11 : Sl H (some ⟨b11, 0, none⟩) 2 1 (iz [1, 2])) (h12 : Sl H (some ⟨b12, 0, none⟩) 2 1 (iz [1, 2])) (c : Cm) :
    ∃ p cc, ∃ l : List Int, (mget (mset (mset (mset (mset (mset (mset ([] : List (Int × Value)) 0 (.slice (some ⟨b7, 0, none⟩) 1 1)) 1 (.slice (some ⟨b8, 0, none⟩) 1 1)) 3 (.slice (some ⟨b9, 0, none⟩) 1 1)) 4 (.slice (some ⟨b10, 0, none⟩) 1 1)) 2 (.slice (some ⟨b11, 0, none⟩) 2 2)) 5 (.slice (some ⟨b12, 0, none⟩) 2 2)) c.kd).getD (.slice none 0 0) = .slice p l.length cc ∧ Sl H p cc 1 (iz l) ∧ ∀ z, z ∈ l ↔ kdFit z c := by
  rw [mget_mset, mget_mset, mget_mset, mget_mset, mget_mset, mget_mset]
  unfold kdFit
  by_cases h0 : c.kd = 0
  · exact ⟨_, _, [0], by simp [h0], h7, fun z => by simp only [List.mem_singleton]; omega⟩
  by_cases h1 : c.kd = 1
  · exact ⟨_, _, [0], by simp [h1], h8, fun z => by simp only [List.mem_singleton]; omega⟩
  by_cases h2 : c.kd = 2
  · exact ⟨_, _, [1, 2], by simp [h2], h11, fun z => by simp only [List.mem_cons, List.not_mem_nil, or_false]; omega⟩
  by_cases h3 : c.kd = 3
  · exact ⟨_, _, [1], by simp [h3], h9, fun z => by simp only [List.mem_singleton]; omega⟩
  by_cases h4 : c.kd = 4
  · exact ⟨_, _, [2], by simp [h4], h10, fun z => by simp only [List.mem_singleton]; omega⟩
  by_cases h5 : c.kd = 5
  · exact ⟨_, _, [1, 2], by simp [h5], h12, fun z => by simp only [List.mem_cons, List.not_mem_nil, or_false]; omega⟩
  · exact ⟨none, 0, [], by rw [if_neg (Ne.symm h5), if_neg (Ne.symm h2), if_neg (Ne.symm h4), if_neg (Ne.symm h3), if_neg (Ne.symm h1), if_neg (Ne.symm h0)]; rfl, sl_nil1 H, fun z => by simp only [List.not_mem_nil, false_iff]; omega⟩
set_option maxRecDepth 100000 in
set_option maxHeartbeats 1600000 in
theorem fits_ct (m : Md) (H1 : PH) (hM : m.In H1) (mach : Int) (b : Nat) (x : Tb) (c : Cm) : Ct Tryz.prog 38 [.pointer (some ⟨b, 0, none⟩), .agg [.int .i64 c.kd, .int .i64 c.it, .int .i64 c.rp, .int .i64 c.va].toArray] [H1, single b (.cells [.slice m.psi m.si.length m.csi, .slice m.pfe m.fe.length m.cfe, .slice m.prk m.rk.length m.crk, .slice m.pmc m.mc.length m.cmc, .slice m.pln m.ln.length m.cln, .slice m.pis m.is.length m.cis, .int .i64 m.da, .int .i64 m.sl, .int .i64 m.re, .int .i64 m.fa, .slice m.prl m.rl.length m.crl, .int .i64 mach, .slice x.pu x.nu x.cu, .slice x.pc x.nc x.cc, .int .i64 x.gen, .map (some x.d)].toArray 82 (0, 0))] (fun v Hs => v = .bool (decide (Fits (kdOf m c.it) mach c)) ∧ Hs = [H1, single b (.cells [.slice m.psi m.si.length m.csi, .slice m.pfe m.fe.length m.cfe, .slice m.prk m.rk.length m.crk, .slice m.pmc m.mc.length m.cmc, .slice m.pln m.ln.length m.cln, .slice m.pis m.is.length m.cis, .int .i64 m.da, .int .i64 m.sl, .int .i64 m.re, .int .i64 m.fa, .slice m.prl m.rl.length m.crl, .int .i64 mach, .slice x.pu x.nu x.cu, .slice x.pc x.nc x.cc, .int .i64 x.gen, .map (some x.d)].toArray 82 (0, 0))]) := by
  refine Ct.body Tryz.func38 rfl Tryz.ntmps38 rfl ?_
  intro E F
  have hM0 : MapP (fun a : Int => Value.int .i64 a) #[] 0 [] := MapP.empty _
  refine W.seq (W.region ?_)
  refine RL.e (Eff.box 103 _ rfl rfl) rfl ?_
  rintro _ _ ⟨b3, rfl, rfl⟩
  refine RL.q (Yld.assign rfl) rfl (RL.nil (N.next ?_))
  refine W.seq (W.region ?_)
  refine RL.e (Eff.makeMap 106) rfl ?_
  rintro _ _ ⟨b6, rfl, rfl⟩
  refine RL.e (Eff.buildSlice 107 Tryz.underlying55 sz3 zc3 rfl rfl (.cons rfl rfl .nil) rfl) rfl ?_
  rintro _ _ ⟨b7, rfl, rfl⟩
  refine RL.e0 (Eff.insert (c := 106) Tryz.underlying132 (keyInt Tryz.underlying3) rfl rfl rfl rfl (by assumption)) ?_
  rintro _ _ ⟨es1, ck1, hM1, rfl⟩
  refine RL.e (Eff.buildSlice 108 Tryz.underlying55 sz3 zc3 rfl rfl (.cons rfl rfl .nil) rfl) rfl ?_
  rintro _ _ ⟨b8, rfl, rfl⟩
  refine RL.e0 (Eff.insert (c := 106) Tryz.underlying132 (keyInt Tryz.underlying3) rfl rfl rfl rfl (by assumption)) ?_
  rintro _ _ ⟨es2, ck2, hM2, rfl⟩
  refine RL.e (Eff.buildSlice 109 Tryz.underlying55 sz3 zc3 rfl rfl (.cons rfl rfl .nil) rfl) rfl ?_
  rintro _ _ ⟨b9, rfl, rfl⟩
  refine RL.e0 (Eff.insert (c := 106) Tryz.underlying132 (keyInt Tryz.underlying3) rfl rfl rfl rfl (by assumption)) ?_
  rintro _ _ ⟨es3, ck3, hM3, rfl⟩
  refine RL.e (Eff.buildSlice 110 Tryz.underlying55 sz3 zc3 rfl rfl (.cons rfl rfl .nil) rfl) rfl ?_
  rintro _ _ ⟨b10, rfl, rfl⟩
  refine RL.e0 (Eff.insert (c := 106) Tryz.underlying132 (keyInt Tryz.underlying3) rfl rfl rfl rfl (by assumption)) ?_
  rintro _ _ ⟨es4, ck4, hM4, rfl⟩
  refine RL.e (Eff.buildSlice 111 Tryz.underlying55 sz3 zc3 rfl rfl (.cons rfl rfl (.cons rfl rfl .nil)) rfl) rfl ?_
  rintro _ _ ⟨b11, rfl, rfl⟩
  refine RL.e0 (Eff.insert (c := 106) Tryz.underlying132 (keyInt Tryz.underlying3) rfl rfl rfl rfl (by assumption)) ?_
  rintro _ _ ⟨es5, ck5, hM5, rfl⟩
  refine RL.e (Eff.buildSlice 112 Tryz.underlying55 sz3 zc3 rfl rfl (.cons rfl rfl (.cons rfl rfl .nil)) rfl) rfl ?_
  rintro _ _ ⟨b12, rfl, rfl⟩
  refine RL.e0 (Eff.insert (c := 106) Tryz.underlying132 (keyInt Tryz.underlying3) rfl rfl rfl rfl (by assumption)) ?_
  rintro _ _ ⟨es6, ck6, hM6, rfl⟩
  refine RL.merge 107 108 rfl rfl rfl fun hf1 => ?_
  refine RL.merge 107 109 rfl rfl rfl fun hf2 => ?_
  refine RL.merge 107 110 rfl rfl rfl fun hf3 => ?_
  refine RL.merge 107 111 rfl rfl rfl fun hf4 => ?_
  refine RL.merge 107 112 rfl rfl rfl fun hf5 => ?_
  obtain ⟨pf, cf, lf, hvf, hSf, hkf⟩ := fitsL (b7 := b7) (b8 := b8) (b9 := b9) (b10 := b10) (b11 := b11) (b12 := b12) (((((((Own.mk (e := 3) (n := 1) (c := 1) (ls := iz [0]) [] (by simp [iz, Value.oneCell']) (by simp) (by simp [maxLen]) (by rfl) (by rfl)).sl).mono hjoin_l).mono hjoin_l).mono hjoin_l).mono hjoin_l).mono hjoin_l) (((((((Own.mk (e := 3) (n := 1) (c := 1) (ls := iz [0]) [] (by simp [iz, Value.oneCell']) (by simp) (by simp [maxLen]) (by rfl) (by rfl)).sl).mono hf1).mono hjoin_l).mono hjoin_l).mono hjoin_l).mono hjoin_l) ((((((Own.mk (e := 3) (n := 1) (c := 1) (ls := iz [1]) [] (by simp [iz, Value.oneCell']) (by simp) (by simp [maxLen]) (by rfl) (by rfl)).sl).mono hf2).mono hjoin_l).mono hjoin_l).mono hjoin_l) (((((Own.mk (e := 3) (n := 1) (c := 1) (ls := iz [2]) [] (by simp [iz, Value.oneCell']) (by simp) (by simp [maxLen]) (by rfl) (by rfl)).sl).mono hf3).mono hjoin_l).mono hjoin_l) ((((Own.mk (e := 3) (n := 1) (c := 2) (ls := iz [1, 2]) [] (by simp [iz, Value.oneCell']) (by simp) (by simp [maxLen]) (by rfl) (by rfl)).sl).mono hf4).mono hjoin_l) (((Own.mk (e := 3) (n := 1) (c := 2) (ls := iz [1, 2]) [] (by simp [iz, Value.oneCell']) (by simp) (by simp [maxLen]) (by rfl) (by rfl)).sl).mono hf5) c
  refine RL.q (Yld.move rfl) rfl ?_
  refine RL.q (Yld.fieldAddr fo36_0 rfl) rfl ?_
  refine RL.q (Yld.ld 103 Tryz.underlying3 rfl rfl rfl rfl) rfl ?_
  refine RL.q (Yld.eq (v' := .slice pf lf.length cf) (Yld.lookup (c := 106) Tryz.underlying132 (keyInt Tryz.underlying3) zv55 rfl rfl rfl (by assumption)) (hvf)) rfl ?_
  refine RL.q (Yld.assign rfl) rfl (RL.nil (N.next ?_))
  refine W.keep (.of [0, 3, 5] rfl) (.of [0, 1, 2, 103, 106, 107, 108, 109, 110, 111, 112] rfl) ?_
  refine W.seq ?_
  refine W.seq (W.region ?_)
  refine RL.q (Yld.move rfl) rfl (RL.q (Yld.move rfl) rfl ?_)
  refine RL.q (Yld.fieldAddr fo36_1 rfl) rfl ?_
  refine RL.q (Yld.ld 103 Tryz.underlying3 rfl rfl rfl rfl) rfl ?_
  refine RL.e (Eff.call ent48 [1, 2] [1, 2] (.cons rfl (.cons rfl .nil)) (kind_ct m H1 hM mach b x c.it) rfl rfl rfl rfl (by rintro _ _ ⟨_, rfl⟩; rfl)) rfl ?_
  rintro _ _ ⟨_, ⟨rfl, rfl⟩, rfl⟩
  refine RL.e (Eff.call ent35 [107] [107] (.cons rfl (.cons rfl .nil)) (contains_ct lf _ _ _ hSf (kdOf m c.it)) rfl rfl rfl rfl (by rintro _ _ ⟨_, rfl⟩; rfl)) rfl ?_
  rintro _ _ ⟨_, ⟨rfl, rfl⟩, rfl⟩
  refine RL.q Yld.nt rfl (RL.q (Yld.move rfl) rfl ?_)
  refine' RL.or (t := 24) (d := 28) 4 rfl (.of [0, 3, 5, 17, 18, 19, 20, 21, 22, 23] rfl) (.of [0, 1, 2, 103, 106, 107, 108, 109, 110, 111, 112] rfl) ?_ ?_ ?_
  rotate_left 1
  ·
   intro hg24
   refine RL.gq rfl rfl (Yld.fieldAddr fo36_3 rfl) rfl ?_
   refine RL.gq rfl rfl (Yld.ld 103 Tryz.underlying2 rfl rfl rfl rfl) rfl ?_
   refine RL.gq rfl rfl (Yld.bin rfl rfl BinV.lss) rfl ?_
   refine RL.q Yld.pk rfl ?_
   exact RL.nil (N.meet (.to rfl) (.to rfl))
  ·
   intro hg24
   refine RL.gskip rfl rfl rfl rfl ?_
   refine RL.gskip rfl rfl rfl rfl ?_
   refine RL.gskip rfl rfl rfl rfl ?_
   refine RL.q Yld.pk rfl ?_
   exact RL.nil (N.meet (.to rfl) (.to rfl))
  refine RL.q (Yld.move rfl) rfl ?_
  refine' RL.or (t := 29) (d := 33) 4 rfl (.of [0, 3, 5, 17, 18, 19, 20, 21, 22, 23, 28] rfl) (.of [0, 1, 2, 103, 106, 107, 108, 109, 110, 111, 112] rfl) ?_ ?_ ?_
  rotate_left 1
  ·
   intro hg29
   refine RL.gq rfl rfl (Yld.fieldAddr fo36_3 rfl) rfl ?_
   refine RL.gq rfl rfl (Yld.ld 103 Tryz.underlying2 rfl rfl rfl rfl) rfl ?_
   refine RL.gq rfl rfl (Yld.bin rfl rfl BinV.gtr) rfl ?_
   refine RL.q Yld.pk rfl ?_
   exact RL.nil (N.meet (.to rfl) (.to rfl))
  ·
   intro hg29
   refine RL.gskip rfl rfl rfl rfl ?_
   refine RL.gskip rfl rfl rfl rfl ?_
   refine RL.gskip rfl rfl rfl rfl ?_
   refine RL.q Yld.pk rfl ?_
   exact RL.nil (N.meet (.to rfl) (.to rfl))
  refine RL.nil (N.next ?_)
  refine W.keep (.of [0, 3, 33] rfl) (.of [0, 1, 2, 103, 106, 107, 108, 109, 110, 111, 112] rfl) ?_
  refine W.cond rfl (fun hc33 => ?_) (fun hc33 => ?_)
  ·
   simp only [Bool.or_eq_true, Bool.or_eq_false_iff, Bool.not_eq_true', decide_eq_true_eq, decide_eq_false_iff_not, Classical.not_not, hkf] at hc33
   refine W.seq (W.region ?_)
   refine RL.q (Yld.assign rfl) rfl (RL.nil (N.next ?_))
   refine W.ret ?_
   refine N.then_ret ?_
   exact N.retBy [1, 2] (.cons (.tmp rfl) .nil) rfl rfl rfl rfl ⟨by show Value.bool _ = Value.bool _; congr 1; rw [Bool.eq_iff_iff]; simp only [Bool.false_eq_true, false_iff, decide_eq_true_eq]; unfold Fits; rintro ⟨h1, h2, h3, _⟩; rcases hc33 with (h | h) | h; exact h h1; omega; omega, rfl⟩
  ·
   simp only [Bool.or_eq_true, Bool.or_eq_false_iff, Bool.not_eq_true', decide_eq_true_eq, decide_eq_false_iff_not, Classical.not_not, hkf] at hc33
   refine W.skip ?_
   refine N.next ?_
   refine W.seq ?_
   refine W.draw (.q 0 (.q 1 (.q 2 (.q 3 (.q 4 (.q 5 (.q 6 (.q 7 (.q 8 (.q 9 (.q 10 (.q 11 (.q 12 (.q 13 (.q 14 (.q 15 (.q 16 (.q 17 (.q 18 .done))))))))))))))))))) (.of [0, 1, 2, 103, 106, 107, 108, 109, 110, 111, 112] rfl) mix (by kernel_rfl) (by kernel_rfl) ?_
   refine DL.q rfl (Yld.fieldAddr fo36_0 rfl) rfl ?_
   refine DL.q rfl (Yld.ld 103 Tryz.underlying3 rfl rfl rfl rfl) rfl ?_
   refine DL.q rfl (Yld.bin rfl rfl BinV.neq) rfl ?_
   refine DL.q rfl (Yld.move rfl) rfl ?_
   refine' DL.or (t := 37) (d := 51) 14 rfl (.of [0, 3, 33, 34, 35, 36] rfl) (.of [0, 1, 2, 103, 106, 107, 108, 109, 110, 111, 112] rfl) ?_ ?_ ?_
   rotate_left 1
   ·
    intro hg37
    refine DL.gq rfl rfl rfl (Yld.fieldAddr fo36_2 rfl) rfl ?_
    refine DL.gq rfl rfl rfl (Yld.ld 103 Tryz.underlying3 rfl rfl rfl rfl) rfl ?_
    refine DL.gq rfl rfl rfl (Yld.bin rfl rfl BinV.geq) rfl ?_
    refine DL.gq rfl rfl rfl (Yld.move rfl) rfl ?_
    refine' DL.and (t := 41) (d := 50) 9 rfl (.of [0, 3, 33, 34, 35, 36, 37, 38, 39, 40] rfl) (.of [0, 1, 2, 103, 106, 107, 108, 109, 110, 111, 112] rfl) ?_ ?_ ?_
    rotate_left 1
    ·
     intro hg41
     refine DL.gq rfl rfl rfl (Yld.fieldAddr fo36_2 rfl) rfl ?_
     refine DL.gq rfl rfl rfl (Yld.ld 103 Tryz.underlying3 rfl rfl rfl rfl) rfl ?_
     refine DL.gq rfl rfl rfl (Yld.bin rfl rfl (by first | exact BinV.rem (by omega) (by omega) | exact BinV.remW (by omega))) rfl ?_
     refine DL.gq rfl rfl rfl (Yld.move rfl) rfl ?_
     refine DL.gq rfl rfl rfl (Yld.nilP rfl) rfl ?_
     refine DL.gq rfl rfl rfl (Yld.fieldAddr fo82_1 rfl) rfl ?_
     refine DL.gq rfl rfl rfl (Yld.ld 2 Tryz.underlying3 rfl rfl rfl rfl) rfl ?_
     refine DL.gq rfl rfl rfl (Yld.bin rfl rfl BinV.eql) rfl ?_
     refine DL.gq rfl rfl rfl Yld.pk rfl ?_
     exact DL.meet (.to rfl) (.to rfl)
    ·
     intro hg41
     refine DL.gskip rfl rfl rfl rfl rfl ?_
     refine DL.gskip rfl rfl rfl rfl rfl ?_
     refine DL.gskip rfl rfl rfl rfl rfl ?_
     refine DL.gskip rfl rfl rfl rfl rfl ?_
     refine DL.gskip rfl rfl rfl rfl rfl ?_
     refine DL.gskip rfl rfl rfl rfl rfl ?_
     refine DL.gskip rfl rfl rfl rfl rfl ?_
     refine DL.gskip rfl rfl rfl rfl rfl ?_
     refine DL.gq rfl rfl rfl Yld.pk rfl ?_
     exact DL.meet (.to rfl) (.to rfl)
    refine DL.q rfl Yld.pk rfl ?_
    exact DL.meet (.to rfl) (.to rfl)
   ·
    intro hg37
    refine DL.gskip rfl rfl rfl rfl rfl ?_
    refine DL.gskip rfl rfl rfl rfl rfl ?_
    refine DL.gskip rfl rfl rfl rfl rfl ?_
    refine DL.gskip rfl rfl rfl rfl rfl ?_
    refine DL.gskipU rfl rfl rfl rfl ?_
    refine DL.gskipU rfl rfl rfl rfl ?_
    refine DL.gskipU rfl rfl rfl rfl ?_
    refine DL.gskipU rfl rfl rfl rfl ?_
    refine DL.gskipU rfl rfl rfl rfl ?_
    refine DL.gskipU rfl rfl rfl rfl ?_
    refine DL.gskipU rfl rfl rfl rfl ?_
    refine DL.gskipU rfl rfl rfl rfl ?_
    refine DL.gskip rfl rfl rfl rfl rfl ?_
    refine DL.q rfl Yld.pk rfl ?_
    exact DL.meet (.to rfl) (.to rfl)
   refine DL.q rfl (Yld.assign rfl) rfl ?_
   refine DL.done ?_
   refine N.next ?_
   refine W.keep (.of [4] rfl) (.of [0, 1, 2, 103, 106, 107, 108, 109, 110, 111, 112] rfl) ?_
   refine W.ret ?_
   exact N.retBy [1, 2] (.cons (.tmp rfl) .nil) rfl rfl rfl rfl ⟨by show Value.bool _ = Value.bool _; congr 1; rw [Bool.eq_iff_iff]; simp only [Bool.or_eq_true, Bool.and_eq_true, decide_eq_true_eq]; unfold Fits; have hkk := hc33.1.1; refine ⟨fun h => ⟨hkk, by omega, by omega, by omega⟩, fun h => by have := h.2.2.2; omega⟩, rfl⟩
def Fen.effM : List (Int × Value) := (mset (mset (mset (mset (mset (mset ([] : List (Int × Value)) 0 (.func (.func 77) [].toArray [].toArray)) 1 (.func (.func 78) [].toArray [].toArray)) 2 (.func (.func 79) [].toArray [].toArray)) 3 (.func (.func 80) [].toArray [].toArray)) 4 (.func (.func 81) [].toArray [].toArray)) 5 (.func (.func 82) [].toArray [].toArray))
set_option maxRecDepth 100000 in
set_option maxHeartbeats 1600000 in
theorem effects_ct  : Ct Tryz.prog 39 [] [] (fun v Hs => ∃ b es ck, v = .map (some b) ∧ MapP (fun a : Int => Value.int .i64 a) es ck effM ∧ Hs = [single b (.map es ck)]) := by
  refine Ct.body Tryz.func39 rfl Tryz.ntmps39 rfl ?_
  intro E F
  have hM0 : MapP (fun a : Int => Value.int .i64 a) #[] 0 [] := MapP.empty _
  refine W.seq (W.region ?_)
  refine RL.q (Yld.assign rfl) rfl (RL.nil (N.next ?_))
  refine W.seq (W.region ?_)
  refine RL.e (Eff.makeMap 101) rfl ?_
  rintro _ _ ⟨b1, rfl, rfl⟩
  refine RL.e0 (Eff.insert (c := 101) Tryz.underlying90 (keyInt Tryz.underlying3) rfl rfl rfl rfl (by assumption)) ?_
  rintro _ _ ⟨es1, ck1, hM1, rfl⟩
  refine RL.e0 (Eff.insert (c := 101) Tryz.underlying90 (keyInt Tryz.underlying3) rfl rfl rfl rfl (by assumption)) ?_
  rintro _ _ ⟨es2, ck2, hM2, rfl⟩
  refine RL.e0 (Eff.insert (c := 101) Tryz.underlying90 (keyInt Tryz.underlying3) rfl rfl rfl rfl (by assumption)) ?_
  rintro _ _ ⟨es3, ck3, hM3, rfl⟩
  refine RL.e0 (Eff.insert (c := 101) Tryz.underlying90 (keyInt Tryz.underlying3) rfl rfl rfl rfl (by assumption)) ?_
  rintro _ _ ⟨es4, ck4, hM4, rfl⟩
  refine RL.e0 (Eff.insert (c := 101) Tryz.underlying90 (keyInt Tryz.underlying3) rfl rfl rfl rfl (by assumption)) ?_
  rintro _ _ ⟨es5, ck5, hM5, rfl⟩
  refine RL.e0 (Eff.insert (c := 101) Tryz.underlying90 (keyInt Tryz.underlying3) rfl rfl rfl rfl (by assumption)) ?_
  rintro _ _ ⟨es6, ck6, hM6, rfl⟩
  refine RL.q (Yld.move rfl) rfl (RL.q (Yld.assign rfl) rfl (RL.nil (N.next ?_)))
  refine W.ret ?_
  exact N.retBy [101] (.cons (.tmp rfl) .nil) rfl rfl rfl rfl ⟨_, _, _, rfl, (by assumption), rfl⟩
end Go.Proofs.YtboapdcmaeojgaaGreatDoor
namespace Go.Proofs.YtboapdcmaeojgaaGreatDoor
open SL Cat Fen
set_option linter.unusedVariables false
set_option linter.unusedSimpArgs false
theorem sz36 : sz Tryz.prog 36 4 := (by kernel_rfl : (Tryz.prog.info? 36).map (·.size) = some 4)
theorem ent38 : Ent Tryz.prog 38 := ⟨_, _, Tryz.func38, by kernel_rfl, rfl⟩
theorem fo82_5 : fieldOff Tryz.prog 82 5 = some 15 := by kernel_rfl
theorem zv2 : zv Tryz.prog 2 (.int .i64 0) := (by kernel_rfl : (Tryz.prog.info? 2).bind (·.zero) = some (.int .i64 0))
theorem ent39 : Ent Tryz.prog 39 := ⟨_, _, Tryz.func39, by kernel_rfl, rfl⟩
theorem zv89 : zv Tryz.prog 89 (.nilFunc) := (by kernel_rfl : (Tryz.prog.info? 89).bind (·.zero) = some (.nilFunc))
theorem Fen.Tb.Is.seen1 {x : Tb} {t : T} (h : x.Is t) {g : Int} (hg : x.gen < g) {es : Array MapEntry} {ck : Nat} (hM : MapP (fun a : Int => Value.int .i64 a) es ck []) : ({ x with gen := g, es := es, ck := ck, mm := [] } : Tb).Is (Fen.seen t g) := by
  have hg2 : t.gen < g := by rw [← h.gn]; exact hg
  unfold Fen.seen
  rw [if_pos hg2]
  exact ⟨h.nu, h.nc, rfl, h.ou, h.oc, hM, fun s => rfl⟩
theorem Fen.Tb.Is.seen0 {x : Tb} {t : T} (h : x.Is t) {g : Int} (hg : ¬ x.gen < g) : x.Is (Fen.seen t g) := by
  have hg2 : ¬ t.gen < g := by rw [← h.gn]; exact hg
  unfold Fen.seen
  rw [if_neg hg2]
  exact h
theorem look_app1 {dn : List (Int × Int)} {s v q : Int} (h : Fen.look dn s = none) : Fen.look (dn ++ [(s, v)]) q = if s = q then some v else Fen.look dn q := by
  by_cases e : s = q
  · subst e; rw [if_pos rfl, look_new h]
  · rw [if_neg e]
    unfold Fen.look
    rw [List.find?_append]
    cases dn.find? fun p => decide (p.1 = q) with
    | none => simp [e]
    | some w => simp
theorem Fen.Tb.Is.done {x : Tb} {t : T} (h : x.Is t) {s v : Int} (hl : Fen.look t.dn s = none) {es : Array MapEntry} {ck : Nat} (hM : MapP (fun a : Int => Value.int .i64 a) es ck (mset x.mm s (.int .i64 v))) : ({ x with es := es, ck := ck, mm := mset x.mm s (.int .i64 v) } : Tb).Is { t with dn := t.dn ++ [(s, v)] } :=
  ⟨h.nu, h.nc, h.gn, h.ou, h.oc, hM, fun q => by
    show mget (mset x.mm s _) q = _
    rw [mget_mset, h.od q]
    show _ = (Fen.look (t.dn ++ [(s, v)]) q).map _
    rw [look_app1 hl]
    split <;> rfl⟩
theorem seen_ti {m : Md} {mach : Int} {t : T} (h : TI m mach t) (g : Int) : TI m mach (Fen.seen t g) := ⟨by rw [seen_us]; exact h.inv, by rw [seen_us]; exact h.rng⟩
set_option maxRecDepth 100000 in
set_option maxHeartbeats 3200000 in
theorem doG_ct (m : Md) (H1 : PH) (hM : m.In H1) (mach : Int) (b : Nat) (t : T) (x : Tb) (hx : x.Is t) (g s : Int) (c : Cm) (hv : MdV m) (hT : TI m mach t) (hrp : c.rp ≤ 9223372036854775807) (hb : t.us.length ≤ 1000000) (Fi : Nat) (hent : Ent Tryz.prog Fi) (hlk0 : mget effM c.kd = some (.func (.func Fi) [].toArray [].toArray)) (hcall : ∀ (t : T) (x : Tb) (hx : x.Is t) (hT : TI m mach t) (hf : Fits (kdOf m c.it) mach c) (hb : t.us.length ≤ 1000000), Ct Tryz.prog Fi [.pointer (some ⟨b, 0, none⟩), .agg [.int .i64 c.kd, .int .i64 c.it, .int .i64 c.rp, .int .i64 c.va].toArray] [H1, single b (.cells [.slice m.psi m.si.length m.csi, .slice m.pfe m.fe.length m.cfe, .slice m.prk m.rk.length m.crk, .slice m.pmc m.mc.length m.cmc, .slice m.pln m.ln.length m.cln, .slice m.pis m.is.length m.cis, .int .i64 m.da, .int .i64 m.sl, .int .i64 m.re, .int .i64 m.fa, .slice m.prl m.rl.length m.crl, .int .i64 mach, .slice x.pu x.nu x.cu, .slice x.pc x.nc x.cc, .int .i64 x.gen, .map (some x.d)].toArray 82 (0, 0)), x.HU, x.HC, single x.d (.map x.es x.ck)] (fun v Hs => ∃ y : Tb, v = .tuple [.int .i64 (execP (decide (kdOf m c.it = 2)) t.us t.cs c).2.1, .int .i64 (execP (decide (kdOf m c.it = 2)) t.us t.cs c).2.2].toArray ∧ y.Is { t with us := (execP (decide (kdOf m c.it = 2)) t.us t.cs c).1 } ∧ Hs = [H1, single b (.cells [.slice m.psi m.si.length m.csi, .slice m.pfe m.fe.length m.cfe, .slice m.prk m.rk.length m.crk, .slice m.pmc m.mc.length m.cmc, .slice m.pln m.ln.length m.cln, .slice m.pis m.is.length m.cis, .int .i64 m.da, .int .i64 m.sl, .int .i64 m.re, .int .i64 m.fa, .slice m.prl m.rl.length m.crl, .int .i64 mach, .slice y.pu y.nu y.cu, .slice y.pc y.nc y.cc, .int .i64 y.gen, .map (some y.d)].toArray 82 (0, 0)), y.HU, y.HC, single y.d (.map y.es y.ck)])) : Ct Tryz.prog 15 [.pointer (some ⟨b, 0, none⟩), .int .i64 g, .int .i64 s, .agg [.int .i64 c.kd, .int .i64 c.it, .int .i64 c.rp, .int .i64 c.va].toArray] [H1, single b (.cells [.slice m.psi m.si.length m.csi, .slice m.pfe m.fe.length m.cfe, .slice m.prk m.rk.length m.crk, .slice m.pmc m.mc.length m.cmc, .slice m.pln m.ln.length m.cln, .slice m.pis m.is.length m.cis, .int .i64 m.da, .int .i64 m.sl, .int .i64 m.re, .int .i64 m.fa, .slice m.prl m.rl.length m.crl, .int .i64 mach, .slice x.pu x.nu x.cu, .slice x.pc x.nc x.cc, .int .i64 x.gen, .map (some x.d)].toArray 82 (0, 0)), x.HU, x.HC, single x.d (.map x.es x.ck)] (fun v Hs => ∃ y : Tb, v = .tuple [.int .i64 (doP (kdOf m c.it) mach t g s c).2.1, .int .i64 (doP (kdOf m c.it) mach t g s c).2.2].toArray ∧ y.Is (doP (kdOf m c.it) mach t g s c).1 ∧ Hs = [H1, single b (.cells [.slice m.psi m.si.length m.csi, .slice m.pfe m.fe.length m.cfe, .slice m.prk m.rk.length m.crk, .slice m.pmc m.mc.length m.cmc, .slice m.pln m.ln.length m.cln, .slice m.pis m.is.length m.cis, .int .i64 m.da, .int .i64 m.sl, .int .i64 m.re, .int .i64 m.fa, .slice m.prl m.rl.length m.crl, .int .i64 mach, .slice y.pu y.nu y.cu, .slice y.pc y.nc y.cc, .int .i64 y.gen, .map (some y.d)].toArray 82 (0, 0)), y.HU, y.HC, single y.d (.map y.es y.ck)]) := by
  refine Ct.body Tryz.func15 rfl Tryz.ntmps15 rfl ?_
  intro E F
  have hgn0 := hx.gn
  refine W.seq (W.region ?_)
  refine RL.e (Eff.box 107 _ rfl rfl) rfl ?_
  rintro _ _ ⟨b7, rfl, rfl⟩
  refine RL.q (Yld.assign rfl) rfl (RL.q (Yld.assign rfl) rfl (RL.nil (N.next ?_)))
  refine W.cutK (ι := Tb) (fun y => (y.Is (Fen.seen t g) ∧ (1 ≤ g ∧ 1 ≤ s ∧ Fits (kdOf m c.it) mach c) ∧ ¬ g < t.gen)) (fun y => []) (fun y => [(2, single b (.cells [.slice m.psi m.si.length m.csi, .slice m.pfe m.fe.length m.cfe, .slice m.prk m.rk.length m.crk, .slice m.pmc m.mc.length m.cmc, .slice m.pln m.ln.length m.cln, .slice m.pis m.is.length m.cis, .int .i64 m.da, .int .i64 m.sl, .int .i64 m.re, .int .i64 m.fa, .slice m.prl m.rl.length m.crl, .int .i64 mach, .slice y.pu y.nu y.cu, .slice y.pc y.nc y.cc, .int .i64 y.gen, .map (some y.d)].toArray 82 (0, 0))), (3, y.HU), (4, y.HC), (5, single y.d (.map y.es y.ck))]) (.of [0, 2, 7] rfl) (.of [0, 1, 107] rfl) ?_ ?_
  ·
   refine W.block ?_
   refine W.seq (W.region ?_)
   refine RL.q (Yld.move rfl) rfl ?_
   refine RL.q (Yld.bin rfl rfl BinV.lss) rfl ?_
   refine RL.q (Yld.move rfl) rfl ?_
   refine' RL.or (t := 17) (d := 20) 3 rfl (.of [0, 1, 2, 3, 7, 8, 9, 15, 16] rfl) (.of [0, 1, 2, 3, 4, 5, 107] rfl) ?_ ?_ ?_
   rotate_left 1
   ·
    intro hg17
    refine RL.gq rfl rfl (Yld.move rfl) rfl ?_
    refine RL.gq rfl rfl (Yld.bin rfl rfl BinV.lss) rfl ?_
    refine RL.q Yld.pk rfl ?_
    exact RL.nil (N.meet (.to rfl) (.to rfl))
   ·
    intro hg17
    refine RL.gskip rfl rfl rfl rfl ?_
    refine RL.gskip rfl rfl rfl rfl ?_
    refine RL.q Yld.pk rfl ?_
    exact RL.nil (N.meet (.to rfl) (.to rfl))
   refine RL.q (Yld.move rfl) rfl ?_
   refine' RL.or (t := 21) (d := 26) 5 rfl (.of [0, 1, 2, 3, 7, 8, 9, 15, 16, 20] rfl) (.of [0, 1, 2, 3, 4, 5, 107] rfl) ?_ ?_ ?_
   rotate_left 1
   ·
    intro hg21
    refine RL.gq rfl rfl (Yld.move rfl) rfl ?_
    refine RL.gq rfl rfl (Yld.ldW 107 Tryz.underlying36 sz36 rfl rfl rfl rfl) rfl ?_
    refine RL.ge rfl rfl (Eff.call ent38 [1, 2] [1, 2] (.cons rfl (.cons rfl .nil)) (fits_ct m H1 hM mach b x c) rfl rfl rfl rfl (by rintro _ _ ⟨_, rfl⟩; rfl)) rfl ?_
    rintro _ _ ⟨_, ⟨rfl, rfl⟩, rfl⟩
    refine RL.gq rfl rfl Yld.nt rfl ?_
    refine RL.q Yld.pk rfl ?_
    exact RL.nil (N.meet (.to rfl) (.to rfl))
   ·
    intro hg21
    refine RL.gskip rfl rfl rfl rfl ?_
    refine RL.gskip rfl rfl rfl rfl ?_
    refine RL.gskip rfl rfl rfl rfl ?_
    refine RL.gskip rfl rfl rfl rfl ?_
    refine RL.q Yld.pk rfl ?_
    exact RL.nil (N.meet (.to rfl) (.to rfl))
   refine RL.q (Yld.assign rfl) rfl (RL.nil (N.next ?_))
   refine W.keep (.of [0, 1, 2, 7, 14] rfl) (.of [0, 1, 2, 3, 4, 5, 107] rfl) ?_
   refine W.cond rfl (fun hc14 => ?_) (fun hc14 => ?_)
   ·
    have hdp : (doP (kdOf m c.it) mach t g s c) = (t, 1, 0) := by
      unfold doP
      refine if_pos fun h => ?_
      simp only [Bool.or_eq_true, decide_eq_true_eq] at hc14
      rcases hc14 with (h2 | h2) | h2
      · omega
      · omega
      · exact h2 h.2.2
    refine W.seq (W.region ?_)
    refine RL.q (Yld.assign rfl) rfl (RL.q (Yld.assign rfl) rfl (RL.nil (N.next ?_)))
    refine W.keep (.of [8, 9] rfl) (.of [0, 1, 2, 3, 4, 5, 107] rfl) ?_
    refine W.ret ?_
    refine N.block_ret ?_
    refine N.then_ret ?_
    exact N.retBy [1, 2, 3, 4, 5] (.cons (.tmp rfl) (.cons (.tmp rfl) .nil)) rfl rfl rfl rfl ⟨x, by rw [hdp]; first | done | rfl, by rw [hdp]; exact hx, rfl⟩
   ·
    have hok : 1 ≤ g ∧ 1 ≤ s ∧ Fits (kdOf m c.it) mach c := by
      simp only [Bool.or_eq_false_iff, decide_eq_false_iff_not, Classical.not_not] at hc14
      exact ⟨by omega, by omega, hc14.2⟩
    skip
    refine W.seq (W.region ?_)
    refine RL.q (Yld.move rfl) rfl (RL.q (Yld.move rfl) rfl ?_)
    refine RL.q (Yld.nilP rfl) rfl ?_
    refine RL.q (Yld.fieldAddr fo82_4 rfl) rfl ?_
    refine RL.q (Yld.ld 2 Tryz.underlying3 rfl rfl rfl rfl) rfl ?_
    refine RL.q (Yld.bin rfl rfl BinV.lss) rfl ?_
    refine RL.q (Yld.assign rfl) rfl (RL.nil (N.next ?_))
    refine W.keep (.of [0, 1, 2, 7, 27] rfl) (.of [0, 1, 2, 3, 4, 5, 107] rfl) ?_
    first | refine W.condD rfl (fun hc27 => ?_) (fun hc27 => ?_) | (refine W.cond rfl (fun hc27 => ?_) (fun hc27 => ?_) <;> try simp only [Bool.or_eq_true, Bool.and_eq_true, Bool.not_eq_true', Bool.not_eq_false', decide_eq_true_eq, Bool.or_eq_false_iff, Bool.and_eq_false_iff, decide_eq_false_iff_not, beq_iff_eq, beq_eq_false_iff_ne, ne_eq, Decidable.not_not] at hc27)
    ·
     have hdp : (doP (kdOf m c.it) mach t g s c) = (t, 12, 0) := by
       unfold doP
       rw [if_neg (fun h => h hok)]; exact if_pos (by rw [← hx.gn]; exact hc27)
     refine W.seq (W.region ?_)
     refine RL.q (Yld.assign rfl) rfl (RL.q (Yld.assign rfl) rfl (RL.nil (N.next ?_)))
     refine W.keep (.of [8, 9] rfl) (.of [0, 1, 2, 3, 4, 5, 107] rfl) ?_
     refine W.ret ?_
     refine N.block_ret ?_
     refine N.then_ret ?_
     exact N.retBy [1, 2, 3, 4, 5] (.cons (.tmp rfl) (.cons (.tmp rfl) .nil)) rfl rfl rfl rfl ⟨x, by rw [hdp]; first | done | rfl, by rw [hdp]; exact hx, rfl⟩
    ·
     have hgn : ¬ g < t.gen := by rw [← hx.gn]; exact hc27
     refine W.seq (W.region ?_)
     refine RL.q (Yld.move rfl) rfl (RL.q (Yld.move rfl) rfl ?_)
     refine RL.q (Yld.nilP rfl) rfl ?_
     refine RL.q (Yld.fieldAddr fo82_4 rfl) rfl ?_
     refine RL.q (Yld.ld 2 Tryz.underlying3 rfl rfl rfl rfl) rfl ?_
     refine RL.q (Yld.bin rfl rfl BinV.gtr) rfl ?_
     refine RL.q (Yld.assign rfl) rfl (RL.nil (N.next ?_))
     refine W.keep (.of [0, 1, 2, 7, 34] rfl) (.of [0, 1, 2, 3, 4, 5, 107] rfl) ?_
     first | refine W.condD rfl (fun hc34 => ?_) (fun hc34 => ?_) | (refine W.cond rfl (fun hc34 => ?_) (fun hc34 => ?_) <;> try simp only [Bool.or_eq_true, Bool.and_eq_true, Bool.not_eq_true', Bool.not_eq_false', decide_eq_true_eq, Bool.or_eq_false_iff, Bool.and_eq_false_iff, decide_eq_false_iff_not, beq_iff_eq, beq_eq_false_iff_ne, ne_eq, Decidable.not_not] at hc34)
     ·
      refine W.seq (W.region ?_)
      refine RL.q (Yld.move rfl) rfl (RL.q (Yld.move rfl) rfl ?_)
      refine RL.q (Yld.nilP rfl) rfl ?_
      refine RL.q (Yld.fieldAddr fo82_4 rfl) rfl ?_
      refine RL.e0 (Eff.storeS (c := 2) _ sz3 rfl rfl rfl rfl rfl rfl rfl (by (try simp only [putAt, List.take, List.drop, List.nil_append, List.cons_append, List.append_nil, List.length_cons, List.length_nil, Nat.add_zero, Nat.zero_add, Nat.reduceAdd]); rfl)) ?_
      rintro _ _ rfl
      refine RL.nil (N.next ?_)
      refine W.keep (.of [0, 2, 7] rfl) (.of [0, 1, 2, 3, 4, 5, 107] rfl) ?_
      refine W.region ?_
      refine RL.q (Yld.move rfl) rfl ?_
      refine RL.q (Yld.nilP rfl) rfl ?_
      refine RL.q (Yld.fieldAddr fo82_5 rfl) rfl ?_
      refine RL.q (Yld.ld 2 Tryz.underlying80 rfl rfl rfl rfl) rfl ?_
      refine RL.e0 (Eff.clearM (c := 5) Tryz.underlying80 rfl rfl hx.om) ?_
      rintro _ _ ⟨rfl, esc, ckc, hMc, rfl⟩
      refine RL.nil ?_
      refine N.block_normal ?_
      exact N.famK { x with gen := g, es := esc, ck := ckc, mm := [] } ⟨hx.seen1 hc34 hMc, hok, hgn⟩ .nil (.to rfl) (.to rfl) (.to rfl)
     ·
      refine W.skip ?_
      refine N.block_normal ?_
      exact N.famK x ⟨hx.seen0 hc34, hok, hgn⟩ .nil (.to rfl) (.to rfl) (.to rfl)
  rintro y ⟨hy, hok, hgn⟩
  refine W.keep (.of [0, 2, 7] rfl) (.of [2, 3, 4, 5, 0, 1, 107] rfl) ?_
  have hMy := hy.om
  have hod := hy.od s
  refine W.seq ?_
  refine W.seq (W.region ?_)
  refine RL.q (Yld.move rfl) rfl ?_
  refine RL.q (Yld.nilP rfl) rfl ?_
  refine RL.q (Yld.fieldAddr fo82_5 rfl) rfl ?_
  refine RL.q (Yld.ld 2 Tryz.underlying80 rfl rfl rfl rfl) rfl ?_
  refine RL.q (Yld.move rfl) rfl ?_
  refine RL.q (Yld.eq (v' := .tuple [((Fen.look (Fen.seen t g).dn s).map fun v => Value.int .i64 v).getD (.int .i64 0), .bool (Fen.look (Fen.seen t g).dn s).isSome].toArray) (by first | exact Yld.lookupOk (c := 1) Tryz.underlying80 (keyInt Tryz.underlying3) zv2 rfl rfl rfl (by assumption) | exact Yld.lookupOk (c := 107) Tryz.underlying80 (keyInt Tryz.underlying3) zv2 rfl rfl rfl (by assumption) | exact Yld.lookupOk (c := 2) Tryz.underlying80 (keyInt Tryz.underlying3) zv2 rfl rfl rfl (by assumption) | exact Yld.lookupOk (c := 3) Tryz.underlying80 (keyInt Tryz.underlying3) zv2 rfl rfl rfl (by assumption) | exact Yld.lookupOk (c := 4) Tryz.underlying80 (keyInt Tryz.underlying3) zv2 rfl rfl rfl (by assumption) | exact Yld.lookupOk (c := 5) Tryz.underlying80 (keyInt Tryz.underlying3) zv2 rfl rfl rfl (by assumption)) (by rw [hod]; simp)) rfl ?_
  refine RL.q (Yld.move rfl) rfl ?_
  refine RL.q (Yld.extract rfl rfl) rfl ?_
  refine RL.q (Yld.extract rfl rfl) rfl ?_
  refine RL.q (Yld.assign rfl) rfl (RL.q (Yld.assign rfl) rfl (RL.nil (N.next ?_)))
  refine W.keep (.of [0, 2, 7, 10, 11] rfl) (.of [0, 1, 2, 3, 4, 5, 107] rfl) ?_
  refine W.seq (W.region ?_)
  refine RL.q (Yld.move rfl) rfl (RL.nil (N.next ?_))
  refine W.cond rfl (fun hc58 => ?_) (fun hc58 => ?_)
  ·
   obtain ⟨v, hlk⟩ := Option.isSome_iff_exists.1 hc58
   have hdp : (doP (kdOf m c.it) mach t g s c) = (Fen.seen t g, 0, v) := by
     unfold doP
     rw [if_neg (fun h => h hok), if_neg hgn, hlk]
   rw [hlk]
   refine W.seq (W.region ?_)
   refine RL.q (Yld.move rfl) rfl (RL.q (Yld.assign rfl) rfl (RL.q (Yld.assign rfl) rfl (RL.nil (N.next ?_))))
   refine W.keep (.of [8, 9] rfl) (.of [0, 1, 2, 3, 4, 5, 107] rfl) ?_
   refine W.ret ?_
   refine N.then_ret ?_
   exact N.retBy [1, 2, 3, 4, 5] (.cons (.tmp rfl) (.cons (.tmp rfl) .nil)) rfl rfl rfl rfl ⟨y, by rw [hdp]; first | done | rfl, by rw [hdp]; exact hy, rfl⟩
  ·
   have hlk : Fen.look (Fen.seen t g).dn s = none := by simpa using hc58
   have hT2 := seen_ti hT g
   have hb2 : (Fen.seen t g).us.length ≤ 1000000 := by rw [seen_us]; exact hb
   refine W.skip ?_
   refine N.next ?_
   refine W.seq ?_
   refine W.draw (.q 1 (.q 2 (.q 4 (.q 5 (.one 0 (.one 3 (.one 6 (.q 7 (.q 8 (.q 9 (.q 10 (.q 11 .done)))))))))))) (.of [0, 107] rfl) mix (by kernel_rfl) (by kernel_rfl) ?_
   refine DL.q rfl (Yld.fieldAddr fo36_0 rfl) rfl ?_
   refine DL.q rfl (Yld.ld 107 Tryz.underlying3 rfl rfl rfl rfl) rfl ?_
   refine DL.q rfl (Yld.move rfl) rfl ?_
   refine DL.q rfl (Yld.ldW 107 Tryz.underlying36 sz36 rfl rfl rfl rfl) rfl ?_
   refine DL.one rfl (Eff.call ent39 [] [140] .nil effects_ct rfl rfl rfl rfl (by rintro _ _ ⟨_, _, _, _, _, rfl⟩; rfl)) rfl (by rintro _ _ ⟨_, ⟨bm, esm, ckm, rfl, hMf, rfl⟩, rfl⟩; repeat (first | exact .nil | refine .cons rfl ?_)) ?_
   rintro _ _ ⟨_, ⟨bm, esm, ckm, rfl, hMf, rfl⟩, rfl⟩
   refine DL.one rfl (Yld.eff (Yld.eq (v' := .func (.func Fi) [].toArray [].toArray) (Yld.lookup (c := 140) Tryz.underlying90 (keyInt Tryz.underlying3) zv89 rfl rfl rfl (by assumption)) (by rw [hlk0]; rfl))) rfl (by rintro _ _ ⟨rfl, rfl⟩; repeat (first | exact .nil | refine .cons rfl ?_)) ?_
   rintro _ _ ⟨rfl, rfl⟩
   refine DL.one rfl (Eff.callV hent [1, 2, 3, 4, 5] [1, 2, 3, 4, 5] rfl (.cons rfl (.cons rfl .nil)) (hcall (Fen.seen t g) y hy hT2 hok.2.2 hb2) rfl rfl rfl rfl (by rintro _ _ ⟨_, _, _, rfl⟩; rfl)) rfl (by rintro _ _ ⟨_, ⟨z, rfl, hz, rfl⟩, rfl⟩; repeat (first | exact .nil | refine .cons rfl ?_)) ?_
   rintro _ _ ⟨_, ⟨z, rfl, hz, rfl⟩, rfl⟩
   have hMz := hz.om
   refine DL.q rfl (Yld.move rfl) rfl ?_
   refine DL.q rfl (Yld.extract rfl rfl) rfl ?_
   refine DL.q rfl (Yld.extract rfl rfl) rfl ?_
   refine DL.q rfl (Yld.assign rfl) rfl ?_
   refine DL.q rfl (Yld.assign rfl) rfl ?_
   refine DL.done ?_
   refine N.next ?_
   refine W.keep (.of [0, 2, 12, 13] rfl) (.of [0, 1, 2, 3, 4, 5, 107, 140] rfl) ?_
   refine W.seq ?_
   refine W.seq (W.region ?_)
   refine RL.q (Yld.move rfl) rfl ?_
   refine RL.q (Yld.bin rfl rfl BinV.neq) rfl ?_
   refine RL.nil (N.next ?_)
   first | refine W.condD rfl (fun hc71 => ?_) (fun hc71 => ?_) | (refine W.cond rfl (fun hc71 => ?_) (fun hc71 => ?_) <;> try simp only [Bool.or_eq_true, Bool.and_eq_true, Bool.not_eq_true', Bool.not_eq_false', decide_eq_true_eq, Bool.or_eq_false_iff, Bool.and_eq_false_iff, decide_eq_false_iff_not, beq_iff_eq, beq_eq_false_iff_ne, ne_eq, Decidable.not_not] at hc71)
   ·
    have hdp : (doP (kdOf m c.it) mach t g s c) = ({ Fen.seen t g with us := (execP (decide (kdOf m c.it = 2)) (Fen.seen t g).us (Fen.seen t g).cs c).1 }, (execP (decide (kdOf m c.it = 2)) (Fen.seen t g).us (Fen.seen t g).cs c).2.1, 0) := by
      unfold doP
      rw [if_neg (fun h => h hok), if_neg hgn, hlk]
      exact if_neg hc71
    refine W.seq (W.region ?_)
    refine RL.q (Yld.move rfl) rfl (RL.q (Yld.assign rfl) rfl (RL.q (Yld.assign rfl) rfl (RL.nil (N.next ?_))))
    refine W.keep (.of [8, 9] rfl) (.of [0, 1, 2, 3, 4, 5, 107, 140] rfl) ?_
    refine W.ret ?_
    refine N.then_ret ?_
    exact N.retBy [1, 2, 3, 4, 5] (.cons (.tmp rfl) (.cons (.tmp rfl) .nil)) rfl rfl rfl rfl ⟨z, by rw [hdp]; first | done | rfl, by rw [hdp]; exact hz, rfl⟩
   ·
    have hc71 : (execP (decide (kdOf m c.it = 2)) (Fen.seen t g).us (Fen.seen t g).cs c).2.1 = 0 := by simpa using hc71
    have hdp : (doP (kdOf m c.it) mach t g s c) = ({ Fen.seen t g with us := (execP (decide (kdOf m c.it = 2)) (Fen.seen t g).us (Fen.seen t g).cs c).1, dn := (Fen.seen t g).dn ++ [(s, (execP (decide (kdOf m c.it = 2)) (Fen.seen t g).us (Fen.seen t g).cs c).2.2)] }, 0, (execP (decide (kdOf m c.it = 2)) (Fen.seen t g).us (Fen.seen t g).cs c).2.2) := by
      unfold doP
      rw [if_neg (fun h => h hok), if_neg hgn, hlk]
      exact if_pos hc71
    refine W.skip ?_
    refine N.next ?_
    refine W.seq (W.region ?_)
    refine RL.q (Yld.move rfl) rfl ?_
    refine RL.q (Yld.nilP rfl) rfl ?_
    refine RL.q (Yld.fieldAddr fo82_5 rfl) rfl ?_
    refine RL.q (Yld.ld 2 Tryz.underlying80 rfl rfl rfl rfl) rfl ?_
    refine RL.q (Yld.move rfl) rfl (RL.q (Yld.move rfl) rfl ?_)
    refine RL.e0 (by first | exact Eff.mapUpdate (c := 1) Tryz.underlying80 (keyInt Tryz.underlying3) rfl rfl rfl rfl (by assumption) | exact Eff.mapUpdate (c := 2) Tryz.underlying80 (keyInt Tryz.underlying3) rfl rfl rfl rfl (by assumption) | exact Eff.mapUpdate (c := 3) Tryz.underlying80 (keyInt Tryz.underlying3) rfl rfl rfl rfl (by assumption) | exact Eff.mapUpdate (c := 4) Tryz.underlying80 (keyInt Tryz.underlying3) rfl rfl rfl rfl (by assumption) | exact Eff.mapUpdate (c := 5) Tryz.underlying80 (keyInt Tryz.underlying3) rfl rfl rfl rfl (by assumption) | exact Eff.mapUpdate (c := 140) Tryz.underlying80 (keyInt Tryz.underlying3) rfl rfl rfl rfl (by assumption) | exact Eff.mapUpdate (c := 107) Tryz.underlying80 (keyInt Tryz.underlying3) rfl rfl rfl rfl (by assumption)) ?_
    rintro _ _ ⟨es1, ck1, hM1, rfl⟩
    refine RL.nil (N.next ?_)
    refine W.keep (.of [13] rfl) (.of [0, 1, 2, 3, 4, 5, 107, 140] rfl) ?_
    refine W.seq (W.region ?_)
    refine RL.q (Yld.move rfl) rfl (RL.q (Yld.assign rfl) rfl (RL.q (Yld.assign rfl) rfl (RL.nil (N.next ?_))))
    refine W.ret ?_
    exact N.retBy [1, 2, 3, 4, 5] (.cons (.tmp rfl) (.cons (.tmp rfl) .nil)) rfl rfl rfl rfl ⟨_, by rw [hdp]; first | done | rfl, by rw [hdp]; exact hz.done hlk (by assumption), rfl⟩
set_option maxRecDepth 100000 in
set_option maxHeartbeats 3200000 in
theorem do6_ct (m : Md) (H1 : PH) (hM : m.In H1) (mach : Int) (b : Nat) (t : T) (x : Tb) (hx : x.Is t) (g s : Int) (c : Cm) (hv : MdV m) (hT : TI m mach t) (hrp : c.rp ≤ 9223372036854775807) (hb : t.us.length ≤ 1000000) (hk : ¬ (0 ≤ c.kd ∧ c.kd ≤ 5)) : Ct Tryz.prog 15 [.pointer (some ⟨b, 0, none⟩), .int .i64 g, .int .i64 s, .agg [.int .i64 c.kd, .int .i64 c.it, .int .i64 c.rp, .int .i64 c.va].toArray] [H1, single b (.cells [.slice m.psi m.si.length m.csi, .slice m.pfe m.fe.length m.cfe, .slice m.prk m.rk.length m.crk, .slice m.pmc m.mc.length m.cmc, .slice m.pln m.ln.length m.cln, .slice m.pis m.is.length m.cis, .int .i64 m.da, .int .i64 m.sl, .int .i64 m.re, .int .i64 m.fa, .slice m.prl m.rl.length m.crl, .int .i64 mach, .slice x.pu x.nu x.cu, .slice x.pc x.nc x.cc, .int .i64 x.gen, .map (some x.d)].toArray 82 (0, 0)), x.HU, x.HC, single x.d (.map x.es x.ck)] (fun v Hs => ∃ y : Tb, v = .tuple [.int .i64 (doP (kdOf m c.it) mach t g s c).2.1, .int .i64 (doP (kdOf m c.it) mach t g s c).2.2].toArray ∧ y.Is (doP (kdOf m c.it) mach t g s c).1 ∧ Hs = [H1, single b (.cells [.slice m.psi m.si.length m.csi, .slice m.pfe m.fe.length m.cfe, .slice m.prk m.rk.length m.crk, .slice m.pmc m.mc.length m.cmc, .slice m.pln m.ln.length m.cln, .slice m.pis m.is.length m.cis, .int .i64 m.da, .int .i64 m.sl, .int .i64 m.re, .int .i64 m.fa, .slice m.prl m.rl.length m.crl, .int .i64 mach, .slice y.pu y.nu y.cu, .slice y.pc y.nc y.cc, .int .i64 y.gen, .map (some y.d)].toArray 82 (0, 0)), y.HU, y.HC, single y.d (.map y.es y.ck)]) := by
  refine Ct.body Tryz.func15 rfl Tryz.ntmps15 rfl ?_
  intro E F
  have hgn0 := hx.gn
  refine W.seq (W.region ?_)
  refine RL.e (Eff.box 107 _ rfl rfl) rfl ?_
  rintro _ _ ⟨b7, rfl, rfl⟩
  refine RL.q (Yld.assign rfl) rfl (RL.q (Yld.assign rfl) rfl (RL.nil (N.next ?_)))
  refine W.seq ?_
  refine W.block ?_
  refine W.seq (W.region ?_)
  refine RL.q (Yld.move rfl) rfl ?_
  refine RL.q (Yld.bin rfl rfl BinV.lss) rfl ?_
  refine RL.q (Yld.move rfl) rfl ?_
  refine' RL.or (t := 17) (d := 20) 3 rfl (.of [0, 1, 2, 3, 7, 8, 9, 15, 16] rfl) (.of [0, 1, 2, 3, 4, 5, 107] rfl) ?_ ?_ ?_
  rotate_left 1
  ·
   intro hg17
   refine RL.gq rfl rfl (Yld.move rfl) rfl ?_
   refine RL.gq rfl rfl (Yld.bin rfl rfl BinV.lss) rfl ?_
   refine RL.q Yld.pk rfl ?_
   exact RL.nil (N.meet (.to rfl) (.to rfl))
  ·
   intro hg17
   refine RL.gskip rfl rfl rfl rfl ?_
   refine RL.gskip rfl rfl rfl rfl ?_
   refine RL.q Yld.pk rfl ?_
   exact RL.nil (N.meet (.to rfl) (.to rfl))
  refine RL.q (Yld.move rfl) rfl ?_
  refine' RL.or (t := 21) (d := 26) 5 rfl (.of [0, 1, 2, 3, 7, 8, 9, 15, 16, 20] rfl) (.of [0, 1, 2, 3, 4, 5, 107] rfl) ?_ ?_ ?_
  rotate_left 1
  ·
   intro hg21
   refine RL.gq rfl rfl (Yld.move rfl) rfl ?_
   refine RL.gq rfl rfl (Yld.ldW 107 Tryz.underlying36 sz36 rfl rfl rfl rfl) rfl ?_
   refine RL.ge rfl rfl (Eff.call ent38 [1, 2] [1, 2] (.cons rfl (.cons rfl .nil)) (fits_ct m H1 hM mach b x c) rfl rfl rfl rfl (by rintro _ _ ⟨_, rfl⟩; rfl)) rfl ?_
   rintro _ _ ⟨_, ⟨rfl, rfl⟩, rfl⟩
   refine RL.gq rfl rfl Yld.nt rfl ?_
   refine RL.q Yld.pk rfl ?_
   exact RL.nil (N.meet (.to rfl) (.to rfl))
  ·
   intro hg21
   refine RL.gskip rfl rfl rfl rfl ?_
   refine RL.gskip rfl rfl rfl rfl ?_
   refine RL.gskip rfl rfl rfl rfl ?_
   refine RL.gskip rfl rfl rfl rfl ?_
   refine RL.q Yld.pk rfl ?_
   exact RL.nil (N.meet (.to rfl) (.to rfl))
  refine RL.q (Yld.assign rfl) rfl (RL.nil (N.next ?_))
  refine W.keep (.of [0, 1, 2, 7, 14] rfl) (.of [0, 1, 2, 3, 4, 5, 107] rfl) ?_
  refine W.cond rfl (fun hc14 => ?_) (fun hc14 => ?_)
  ·
   have hdp : (doP (kdOf m c.it) mach t g s c) = (t, 1, 0) := by
     unfold doP
     refine if_pos fun h => ?_
     simp only [Bool.or_eq_true, decide_eq_true_eq] at hc14
     rcases hc14 with (h2 | h2) | h2
     · omega
     · omega
     · exact h2 h.2.2
   refine W.seq (W.region ?_)
   refine RL.q (Yld.assign rfl) rfl (RL.q (Yld.assign rfl) rfl (RL.nil (N.next ?_)))
   refine W.keep (.of [8, 9] rfl) (.of [0, 1, 2, 3, 4, 5, 107] rfl) ?_
   refine W.ret ?_
   refine N.block_ret ?_
   refine N.then_ret ?_
   exact N.retBy [1, 2, 3, 4, 5] (.cons (.tmp rfl) (.cons (.tmp rfl) .nil)) rfl rfl rfl rfl ⟨x, by rw [hdp]; first | done | rfl, by rw [hdp]; exact hx, rfl⟩
  ·
   have hok : 1 ≤ g ∧ 1 ≤ s ∧ Fits (kdOf m c.it) mach c := by
     simp only [Bool.or_eq_false_iff, decide_eq_false_iff_not, Classical.not_not] at hc14
     exact ⟨by omega, by omega, hc14.2⟩
   have hkf := hok.2.2.1
   unfold kdFit at hkf
   exact absurd hkf (by omega) --stop
theorem do_ct (m : Md) (H1 : PH) (hM : m.In H1) (mach : Int) (b : Nat) (t : T) (x : Tb) (hx : x.Is t) (g s : Int) (c : Cm) (hv : MdV m) (hT : TI m mach t) (hrp : c.rp ≤ 9223372036854775807) (hb : t.us.length ≤ 1000000) : Ct Tryz.prog 15 [.pointer (some ⟨b, 0, none⟩), .int .i64 g, .int .i64 s, .agg [.int .i64 c.kd, .int .i64 c.it, .int .i64 c.rp, .int .i64 c.va].toArray] [H1, single b (.cells [.slice m.psi m.si.length m.csi, .slice m.pfe m.fe.length m.cfe, .slice m.prk m.rk.length m.crk, .slice m.pmc m.mc.length m.cmc, .slice m.pln m.ln.length m.cln, .slice m.pis m.is.length m.cis, .int .i64 m.da, .int .i64 m.sl, .int .i64 m.re, .int .i64 m.fa, .slice m.prl m.rl.length m.crl, .int .i64 mach, .slice x.pu x.nu x.cu, .slice x.pc x.nc x.cc, .int .i64 x.gen, .map (some x.d)].toArray 82 (0, 0)), x.HU, x.HC, single x.d (.map x.es x.ck)] (fun v Hs => ∃ y : Tb, v = .tuple [.int .i64 (doP (kdOf m c.it) mach t g s c).2.1, .int .i64 (doP (kdOf m c.it) mach t g s c).2.2].toArray ∧ y.Is (doP (kdOf m c.it) mach t g s c).1 ∧ Hs = [H1, single b (.cells [.slice m.psi m.si.length m.csi, .slice m.pfe m.fe.length m.cfe, .slice m.prk m.rk.length m.crk, .slice m.pmc m.mc.length m.cmc, .slice m.pln m.ln.length m.cln, .slice m.pis m.is.length m.cis, .int .i64 m.da, .int .i64 m.sl, .int .i64 m.re, .int .i64 m.fa, .slice m.prl m.rl.length m.crl, .int .i64 mach, .slice y.pu y.nu y.cu, .slice y.pc y.nc y.cc, .int .i64 y.gen, .map (some y.d)].toArray 82 (0, 0)), y.HU, y.HC, single y.d (.map y.es y.ck)]) := by
  by_cases h0 : c.kd = 0
  · exact doG_ct m H1 hM mach b t x hx g s c hv hT hrp hb 77 ent77 (by unfold effM; rw [mget_mset, mget_mset, mget_mset, mget_mset, mget_mset, mget_mset]; simp [h0]) (fun t x hx hT hf hb => opens_ct m H1 hM mach b t x hx c hv hT hf hrp hb h0)
  by_cases h1 : c.kd = 1
  · exact doG_ct m H1 hM mach b t x hx g s c hv hT hrp hb 78 ent78 (by unfold effM; rw [mget_mset, mget_mset, mget_mset, mget_mset, mget_mset, mget_mset]; simp [h1]) (fun t x hx hT hf hb => closes_ct m H1 hM mach b t x hx c hv hT hf hrp hb h1)
  by_cases h2 : c.kd = 2
  · exact doG_ct m H1 hM mach b t x hx g s c hv hT hrp hb 79 ent79 (by unfold effM; rw [mget_mset, mget_mset, mget_mset, mget_mset, mget_mset, mget_mset]; simp [h2]) (fun t x hx hT hf hb => starts_ct m H1 hM mach b t x hx c hv hT hf hrp hb h2)
  by_cases h3 : c.kd = 3
  · exact doG_ct m H1 hM mach b t x hx g s c hv hT hrp hb 80 ent80 (by unfold effM; rw [mget_mset, mget_mset, mget_mset, mget_mset, mget_mset, mget_mset]; simp [h3]) (fun t x hx hT hf hb => drains_ct m H1 hM mach b t x hx c hv hT hf hrp hb h3)
  by_cases h4 : c.kd = 4
  · exact doG_ct m H1 hM mach b t x hx g s c hv hT hrp hb 81 ent81 (by unfold effM; rw [mget_mset, mget_mset, mget_mset, mget_mset, mget_mset, mget_mset]; simp [h4]) (fun t x hx hT hf hb => pauses_ct m H1 hM mach b t x hx c hv hT hf hrp hb h4)
  by_cases h5 : c.kd = 5
  · exact doG_ct m H1 hM mach b t x hx g s c hv hT hrp hb 82 ent82 (by unfold effM; rw [mget_mset, mget_mset, mget_mset, mget_mset, mget_mset, mget_mset]; simp [h5]) (fun t x hx hT hf hb => stops_ct m H1 hM mach b t x hx c hv hT hf hrp hb h5)
  exact do6_ct m H1 hM mach b t x hx g s c hv hT hrp hb (by omega)
end Go.Proofs.YtboapdcmaeojgaaGreatDoor
namespace Go.Proofs.YtboapdcmaeojgaaGreatDoor
open SL Cat Fen
set_option linter.unusedVariables false
set_option linter.unusedSimpArgs false
theorem ent36 : Ent Tryz.prog 36 := ⟨_, _, Tryz.func36, by kernel_rfl, rfl⟩
theorem fo48_4 : fieldOff Tryz.prog 48 4 = some 4 := by kernel_rfl
theorem ent14 : Ent Tryz.prog 14 := ⟨_, _, Tryz.func14, by kernel_rfl, rfl⟩
theorem sz57 : sz Tryz.prog 57 1 := (by kernel_rfl : (Tryz.prog.info? 57).map (·.size) = some 1)
theorem ent50 : Ent Tryz.prog 50 := ⟨_, _, Tryz.func50, by kernel_rfl, rfl⟩
theorem fo38_1 : fieldOff Tryz.prog 38 1 = some 1 := by kernel_rfl
theorem fo38_2 : fieldOff Tryz.prog 38 2 = some 2 := by kernel_rfl
theorem ent92 : Ent Tryz.prog 92 := ⟨_, _, Tryz.func92, by kernel_rfl, rfl⟩
theorem ent51 : Ent Tryz.prog 51 := ⟨_, _, Tryz.func51, by kernel_rfl, rfl⟩
theorem el38 : el Tryz.prog 38 4 32 := .mk (by kernel_rfl)
set_option maxRecDepth 100000 in
set_option maxHeartbeats 400000 in
theorem cloneU_ct (l : List U) (H1 : PH) (p : Option Addr) (c n : Nat) (hn : n = l.length) (hS : Sl H1 p c 5 (l.map U.c)) (hb : l.length ≤ 1000000) : Ct Tryz.prog 36 [.slice p n c] [H1] (fun v Hs => ∃ H' p' c', v = .slice p' l.length c' ∧ Own H' p' c' 48 5 (l.map U.c) ∧ Hs = [H1, H']) := by
  refine Ct.body Tryz.func36 rfl Tryz.ntmps36 rfl ?_
  intro E F
  have hmx := hS.len_le
  simp only [List.length_map, maxLen] at hmx
  refine W.seq ?_
  refine W.imp (Imp.empty _ 160) ?_
  refine W.region ?_
  refine RL.q (Yld.assign rfl) rfl (RL.nil (N.next ?_))
  refine W.seq ?_
  refine W.seq (W.region ?_)
  refine RL.q (Yld.move rfl) rfl ?_
  refine RL.q (Yld.bin rfl rfl (BinV.eqlSN Tryz.underlying41)) rfl ?_
  refine RL.nil (N.next ?_)
  refine W.cond rfl (fun hc4 => ?_) (fun hc4 => ?_)
  ·
   have hl0 : l = [] := by
     cases p with
     | some a => cases hc4
     | none => exact List.map_eq_nil_iff.1 hS.1
   refine W.seq (W.region ?_)
   refine RL.q (Yld.assign rfl) rfl (RL.nil (N.next ?_))
   refine W.ret ?_
   refine N.then_ret ?_
   exact N.retBy [1, 160] (.cons (.tmp rfl) .nil) rfl rfl rfl rfl ⟨emp, none, 0, by rw [hl0]; rfl, by rw [hl0]; exact Own.nil _ _, rfl⟩
  ·
   refine W.skip ?_
   refine N.next ?_
   refine W.seq (W.region ?_)
   refine RL.e (Eff.buildSlice 105 Tryz.underlying41 sz48 zc48 rfl rfl .nil rfl) rfl ?_
   rintro _ _ ⟨b5, rfl, rfl⟩
   refine RL.q (Yld.move rfl) rfl ?_
   refine RL.e (Eff.appendE (tc := 105) (sc := 1) (ms := l) (ls := ([] : List U)) U.c Tryz.underlying41 el48 rfl rfl rfl rfl (Own.none0 rfl : Own _ _ 0 48 5 (([] : List U).map U.c)) rfl hS hn (fun a _ => U.one a) (by decide) (by simp; omega) (by simp [maxLen]; omega)) rfl ?_
   rintro _ _ ⟨Ha, pa, ca, rfl, hOa, rfl⟩
   refine RL.q (Yld.assign rfl) rfl (RL.nil (N.next ?_))
   refine W.keep (.of [2] rfl) (.of [0, 1, 105, 160] rfl) ?_
   refine W.ret ?_
   exact N.retBy [1, 105] (.cons (.tmp rfl) .nil) rfl rfl rfl rfl ⟨Ha, pa, ca, rfl, hOa, rfl⟩
theorem fz_any {α : Type} {q : α → Bool} {l : List α} : decide (0 ≤ fz q l) = l.any q := by
  unfold fz
  cases h : l.findIdx? q with
  | none =>
    have h1 := List.findIdx?_eq_none_iff.1 h
    have : l.any q = false := List.any_eq_false.2 fun x hx => by rw [h1 x hx]; decide
    rw [this]; rfl
  | some i =>
    obtain ⟨hi, hq, _⟩ := List.findIdx?_eq_some_iff_getElem.1 h
    have : l.any q = true := List.any_eq_true.2 ⟨_, List.getElem_mem hi, hq⟩
    rw [this]
    exact decide_eq_true (by simp)
structure Fen.UI where
  j : Nat
  H : PH
structure Fen.EO2 where
  j : Nat
  H : PH
  p : Option Addr
  c : Nat
def Fen.blend (f : U → U) (us : List U) (j : Nat) : List U := (us.take j).map f ++ us.drop j
theorem blend_zero (f : U → U) (us : List U) : blend f us 0 = us := by simp [blend]
theorem blend_end (f : U → U) (us : List U) : blend f us us.length = us.map f := by simp [blend]
theorem blend_len (f : U → U) (us : List U) (j : Nat) : (blend f us j).length = us.length := by simp [blend]; omega
theorem blend_get {f : U → U} {us : List U} {j : Nat} {u : U} (h : us[j]? = some u) : (blend f us j)[j]? = some u := by
  have hlt := (List.getElem?_eq_some_iff.1 h).1
  unfold blend
  rw [List.getElem?_append_right (by simp; omega)]
  simp only [List.length_map, List.length_take, Nat.min_eq_left (Nat.le_of_lt hlt), Nat.sub_self, List.getElem?_drop, Nat.add_zero]
  exact h
theorem blend_set {f : U → U} {us : List U} {j : Nat} {u : U} (h : us[j]? = some u) : (blend f us j).set j (f u) = blend f us (j + 1) := by
  obtain ⟨hlt, rfl⟩ := List.getElem?_eq_some_iff.1 h
  unfold blend
  rw [List.set_append_right _ _ (by simp; omega)]
  simp only [List.length_map, List.length_take, Nat.min_eq_left (Nat.le_of_lt hlt), Nat.sub_self]
  rw [List.drop_eq_getElem_cons hlt, List.set_cons_zero, List.take_add_one, h]
  simp only [Option.toList_some, List.map_append, List.map_cons, List.map_nil, List.append_assoc, List.cons_append, List.nil_append]
theorem blend_same {f : U → U} {us : List U} {j : Nat} {u : U} (h : us[j]? = some u) (hf : f u = u) : blend f us (j + 1) = blend f us j := by
  rw [← blend_set h, hf]
  apply List.ext_getElem?
  intro i
  rw [List.getElem?_set]
  split
  · rename_i e; subst e
    rw [blend_get h, if_pos (by rw [blend_len]; exact (List.getElem?_eq_some_iff.1 h).1)]
  · rfl
def Fen.callsOf (cs : List Cl) (u : U) : U := { u with ca := (opens cs u.it : Int) }
set_option maxRecDepth 100000 in
set_option maxHeartbeats 1600000 in
theorem units_ct (m : Md) (H1 : PH) (hM : m.In H1) (mach : Int) (b : Nat) (t : T) (x : Tb) (hx : x.Is t) (hb : t.us.length ≤ 1000000) : Ct Tryz.prog 14 [.pointer (some ⟨b, 0, none⟩)] [H1, single b (.cells [.slice m.psi m.si.length m.csi, .slice m.pfe m.fe.length m.cfe, .slice m.prk m.rk.length m.crk, .slice m.pmc m.mc.length m.cmc, .slice m.pln m.ln.length m.cln, .slice m.pis m.is.length m.cis, .int .i64 m.da, .int .i64 m.sl, .int .i64 m.re, .int .i64 m.fa, .slice m.prl m.rl.length m.crl, .int .i64 mach, .slice x.pu x.nu x.cu, .slice x.pc x.nc x.cc, .int .i64 x.gen, .map (some x.d)].toArray 82 (0, 0)), x.HU, x.HC, single x.d (.map x.es x.ck)] (fun v Hs => ∃ H' p' c', v = .slice p' t.us.length c' ∧ Own H' p' c' 48 5 ((listP t.us t.cs).map U.c) ∧ Hs = [H1, single b (.cells [.slice m.psi m.si.length m.csi, .slice m.pfe m.fe.length m.cfe, .slice m.prk m.rk.length m.crk, .slice m.pmc m.mc.length m.cmc, .slice m.pln m.ln.length m.cln, .slice m.pis m.is.length m.cis, .int .i64 m.da, .int .i64 m.sl, .int .i64 m.re, .int .i64 m.fa, .slice m.prl m.rl.length m.crl, .int .i64 mach, .slice x.pu x.nu x.cu, .slice x.pc x.nc x.cc, .int .i64 x.gen, .map (some x.d)].toArray 82 (0, 0)), x.HU, x.HC, single x.d (.map x.es x.ck), H']) := by
  refine Ct.body Tryz.func14 rfl Tryz.ntmps14 rfl ?_
  intro E F
  obtain ⟨hnu, hnc, hgn, hOu, hOc, hMp, hdn⟩ := id hx
  have hSu := hOu.sl
  have hmu := hSu.len_le
  simp only [List.length_map, maxLen] at hmu
  refine W.seq (W.region ?_)
  refine RL.q (Yld.assign rfl) rfl (RL.nil (N.next ?_))
  refine W.seq (W.region ?_)
  refine RL.q (Yld.move rfl) rfl ?_
  refine RL.q (Yld.nilP rfl) rfl ?_
  refine RL.q (Yld.fieldAddr fo82_2 rfl) rfl ?_
  refine RL.q (Yld.ld 2 Tryz.underlying41 rfl rfl rfl rfl) rfl ?_
  refine RL.e (Eff.call ent36 [3] [3, 160] (.cons rfl .nil) (cloneU_ct t.us x.HU x.pu x.cu x.nu hnu hSu hb) rfl rfl rfl rfl (by rintro _ _ ⟨_, _, _, _, _, rfl⟩; rfl)) rfl ?_
  rintro _ _ ⟨_, ⟨Hn, pn, cn, rfl, hOn, rfl⟩, rfl⟩
  have hmn := hOn.sl.len_le
  simp only [List.length_map, maxLen] at hmn
  refine RL.q (Yld.assign rfl) rfl (RL.nil (N.next ?_))
  refine W.keep (.of [0, 3] rfl) (.of [0, 1, 2, 3, 4, 5, 160] rfl) ?_
  refine W.seq ?_
  refine W.seq (W.region ?_)
  refine RL.q (Yld.move rfl) rfl ?_
  refine RL.q (Yld.lenSl Tryz.underlying41 rfl) rfl ?_
  refine RL.q (Yld.move rfl) rfl (RL.nil (N.next ?_))
  refine W.block ?_
  refine W.loopK (ι := UI) (fun z => (z.j ≤ t.us.length ∧ Own z.H pn cn 48 5 ((blend (callsOf t.cs) t.us z.j).map U.c))) (fun z => [(12, .int .i64 (z.j : Nat))]) (fun z => [(160, z.H)]) (fun z => t.us.length - z.j) (.of [0, 3, 11] rfl) (.of [0, 1, 2, 3, 4, 5] rfl) ⟨0, Hn⟩ ?_ ?_ ?_ ?_
  · exact ⟨Nat.zero_le _, by rw [blend_zero]; exact hOn⟩
  · exact (.as rfl (by first | rfl | (simp; done) | (congr 1; simp; done) | (congr 1; omega)) .nil)
  · exact (.to rfl)
  rintro z ⟨hj, hO⟩
  refine W.keep (.of [12, 0, 3, 11] rfl) (.of [160, 0, 1, 2, 3, 4, 5] rfl) ?_
  refine W.seq (W.region ?_)
  refine RL.q (Yld.bin rfl rfl BinV.lss) rfl ?_
  refine RL.nil (N.next ?_)
  refine W.seq ?_
  first | refine W.condD rfl (fun hc13 => ?_) (fun hc13 => ?_) | (refine W.cond rfl (fun hc13 => ?_) (fun hc13 => ?_) <;> try simp only [Bool.or_eq_true, Bool.and_eq_true, Bool.not_eq_true', Bool.not_eq_false', decide_eq_true_eq, Bool.or_eq_false_iff, Bool.and_eq_false_iff, decide_eq_false_iff_not, beq_iff_eq, beq_eq_false_iff_ne, ne_eq, Decidable.not_not] at hc13)
  ·
   obtain ⟨u, hu⟩ : ∃ u, t.us[z.j]? = some u := ⟨_, List.getElem?_eq_getElem (by omega)⟩
   have hlu := uz_get (blend_get (f := callsOf t.cs) hu)
   have hbl := blend_len (callsOf t.cs) t.us z.j
   refine W.skip ?_
   refine N.next ?_
   refine W.seq ?_
   refine W.block ?_
   refine W.seq (W.region ?_)
   refine RL.q (Yld.move rfl) rfl (RL.q (Yld.assign rfl) rfl (RL.nil (N.next ?_)))
   refine W.region ?_
   refine RL.q (Yld.move rfl) rfl (RL.q (Yld.move rfl) rfl (RL.q (Yld.move rfl) rfl (RL.q (Yld.move rfl) rfl (RL.q (Yld.move rfl) rfl ?_))))
   refine RL.q (Yld.ixr Tryz.underlying41 sz48 rfl rfl) rfl ?_
   refine RL.q (Yld.fieldAddr fo48_0 rfl) rfl ?_
   refine RL.q (by first | exact (by first | exact Yld.loadRow1 (cl := 1) Tryz.underlying3 rfl rfl rfl (by first | assumption | exact Own.sl (by assumption)) (by assumption) | exact Yld.loadRow1 (cl := 2) Tryz.underlying3 rfl rfl rfl (by first | assumption | exact Own.sl (by assumption)) (by assumption) | exact Yld.loadRow1 (cl := 3) Tryz.underlying3 rfl rfl rfl (by first | assumption | exact Own.sl (by assumption)) (by assumption) | exact Yld.loadRow1 (cl := 4) Tryz.underlying3 rfl rfl rfl (by first | assumption | exact Own.sl (by assumption)) (by assumption) | exact Yld.loadRow1 (cl := 5) Tryz.underlying3 rfl rfl rfl (by first | assumption | exact Own.sl (by assumption)) (by assumption) | exact Yld.loadRow1 (cl := 160) Tryz.underlying3 rfl rfl rfl (by first | assumption | exact Own.sl (by assumption)) (by assumption)) | exact (by first | exact Yld.lrF 1 0 Tryz.underlying3 rfl rfl rfl rfl | exact Yld.lrF 2 0 Tryz.underlying3 rfl rfl rfl rfl | exact Yld.lrF 3 0 Tryz.underlying3 rfl rfl rfl rfl | exact Yld.lrF 4 0 Tryz.underlying3 rfl rfl rfl rfl | exact Yld.lrF 5 0 Tryz.underlying3 rfl rfl rfl rfl | exact Yld.lrF 160 0 Tryz.underlying3 rfl rfl rfl rfl)) rfl ?_
   refine RL.e (Eff.call ent37 [2, 4] [2, 4] (.cons rfl (.cons rfl .nil)) (open_ct m mach b t x hx u.it) rfl rfl rfl rfl (by rintro _ _ ⟨_, rfl⟩; rfl)) rfl ?_
   rintro _ _ ⟨_, ⟨rfl, rfl⟩, rfl⟩
   refine RL.q (Yld.ixr Tryz.underlying41 sz48 rfl rfl) rfl ?_
   refine RL.q (Yld.fieldAddr fo48_4 rfl) rfl ?_
   refine RL.e0 (Eff.storeRow (tc := 160) (j := 4) sz3 rfl rfl rfl hO hlu rfl rfl rfl rfl rfl) ?_
   rintro _ _ ⟨Hb, hOb, rfl⟩
   replace hOb : Own Hb pn cn 48 5 ((blend (callsOf t.cs) t.us (z.j + 1)).map U.c) := by rw [← blend_set hu, List.map_set]; exact hOb
   refine RL.nil ?_
   refine N.block_normal ?_
   refine N.next ?_
   refine W.keep (.of [0, 3, 11, 12] rfl) (.of [0, 1, 2, 3, 4, 5, 160] rfl) ?_
   refine W.region ?_
   refine RL.q (Yld.bin rfl rfl (by first | exact BinV.add (by omega) (by omega) | exact BinV.addW)) rfl ?_
   refine RL.q (Yld.move rfl) rfl (RL.nil ?_)
   exact N.famK ⟨z.j + 1, Hb⟩ ⟨⟨by dsimp only; omega, hOb⟩, by dsimp only; omega⟩ (.as rfl (by first | rfl | (simp; done) | (congr 1; simp; done) | (congr 1; omega)) .nil) (.to rfl) (.to rfl) (.to rfl)
  ·
   have hend : z.j = t.us.length := by omega
   rw [hend, blend_end] at hO
   refine W.exit ?_
   refine N.then_exit ?_
   refine N.then_exit ?_
   refine N.block_eq ?_
   refine N.next ?_
   refine W.keep (.of [3] rfl) (.of [0, 1, 2, 3, 4, 5, 160] rfl) ?_
   refine W.seq (W.region ?_)
   refine RL.q (Yld.move rfl) rfl (RL.q (Yld.assign rfl) rfl (RL.nil (N.next ?_)))
   refine W.ret ?_
   exact N.retBy [1, 2, 3, 4, 5, 160] (.cons (.tmp rfl) .nil) rfl rfl rfl rfl ⟨z.H, pn, cn, rfl, hO, rfl⟩
set_option maxRecDepth 100000 in
set_option maxHeartbeats 400000 in
theorem forget_ct (m : Md) (H1 : PH) (hM : m.In H1) (mach : Int) (b : Nat) (t : T) (x : Tb) (hx : x.Is t) : Ct Tryz.prog 28 [.pointer (some ⟨b, 0, none⟩)] [H1, single b (.cells [.slice m.psi m.si.length m.csi, .slice m.pfe m.fe.length m.cfe, .slice m.prk m.rk.length m.crk, .slice m.pmc m.mc.length m.cmc, .slice m.pln m.ln.length m.cln, .slice m.pis m.is.length m.cis, .int .i64 m.da, .int .i64 m.sl, .int .i64 m.re, .int .i64 m.fa, .slice m.prl m.rl.length m.crl, .int .i64 mach, .slice x.pu x.nu x.cu, .slice x.pc x.nc x.cc, .int .i64 x.gen, .map (some x.d)].toArray 82 (0, 0)), x.HU, x.HC, single x.d (.map x.es x.ck)] (fun v Hs => ∃ y : Tb, v = .tuple #[] ∧ y.Is { t with cs := [] } ∧ Hs = [H1, single b (.cells [.slice m.psi m.si.length m.csi, .slice m.pfe m.fe.length m.cfe, .slice m.prk m.rk.length m.crk, .slice m.pmc m.mc.length m.cmc, .slice m.pln m.ln.length m.cln, .slice m.pis m.is.length m.cis, .int .i64 m.da, .int .i64 m.sl, .int .i64 m.re, .int .i64 m.fa, .slice m.prl m.rl.length m.crl, .int .i64 mach, .slice y.pu y.nu y.cu, .slice y.pc y.nc y.cc, .int .i64 y.gen, .map (some y.d)].toArray 82 (0, 0)), y.HU, y.HC, single y.d (.map y.es y.ck)]) := by
  refine Ct.body Tryz.func28 rfl Tryz.ntmps28 rfl ?_
  intro E F
  refine W.imp (Imp.empty _ 160) ?_
  refine W.region ?_
  refine RL.q (Yld.move rfl) rfl ?_
  refine RL.q (Yld.nilP rfl) rfl ?_
  refine RL.q (Yld.fieldAddr fo82_3 rfl) rfl ?_
  refine RL.e0 (Eff.storeS (c := 2) _ sz57 rfl rfl rfl rfl rfl rfl rfl (by (try simp only [putAt, List.take, List.drop, List.nil_append, List.cons_append, List.append_nil, List.length_cons, List.length_nil, Nat.add_zero, Nat.zero_add, Nat.reduceAdd]); rfl)) ?_
  rintro _ _ rfl
  refine RL.nil ?_
  exact N.endBy [1, 2, 3, 160, 5] .nil rfl rfl rfl rfl ⟨{ x with pc := none, nc := 0, cc := 0, HC := emp }, rfl, ⟨hx.nu, rfl, hx.gn, hx.ou, Own.nil _ _, hx.om, hx.od⟩, rfl⟩
set_option maxRecDepth 100000 in
set_option maxHeartbeats 1600000 in
theorem tick_ct (m : Md) (H1 : PH) (hM : m.In H1) (mach : Int) (b : Nat) (t : T) (x : Tb) (hx : x.Is t) : Ct Tryz.prog 23 [.pointer (some ⟨b, 0, none⟩)] [H1, single b (.cells [.slice m.psi m.si.length m.csi, .slice m.pfe m.fe.length m.cfe, .slice m.prk m.rk.length m.crk, .slice m.pmc m.mc.length m.cmc, .slice m.pln m.ln.length m.cln, .slice m.pis m.is.length m.cis, .int .i64 m.da, .int .i64 m.sl, .int .i64 m.re, .int .i64 m.fa, .slice m.prl m.rl.length m.crl, .int .i64 mach, .slice x.pu x.nu x.cu, .slice x.pc x.nc x.cc, .int .i64 x.gen, .map (some x.d)].toArray 82 (0, 0)), x.HU, x.HC, single x.d (.map x.es x.ck)] (fun v Hs => ∃ y : Tb, v = .slice x.pc t.cs.length x.cc ∧ y.Is (tickP (kdOf m) t) ∧ Hs = [H1, single b (.cells [.slice m.psi m.si.length m.csi, .slice m.pfe m.fe.length m.cfe, .slice m.prk m.rk.length m.crk, .slice m.pmc m.mc.length m.cmc, .slice m.pln m.ln.length m.cln, .slice m.pis m.is.length m.cis, .int .i64 m.da, .int .i64 m.sl, .int .i64 m.re, .int .i64 m.fa, .slice m.prl m.rl.length m.crl, .int .i64 mach, .slice y.pu y.nu y.cu, .slice y.pc y.nc y.cc, .int .i64 y.gen, .map (some y.d)].toArray 82 (0, 0)), y.HU, y.HC, single y.d (.map y.es y.ck), x.HC]) := by
  refine Ct.body Tryz.func23 rfl Tryz.ntmps23 rfl ?_
  intro E F
  obtain ⟨hnu, hnc, hgn, hOu, hOc, hMp, hdn⟩ := id hx
  have hSu := hOu.sl
  have hmu := hSu.len_le
  simp only [List.length_map, maxLen] at hmu
  refine W.seq ?_
  refine W.imp (Imp.empty _ 160) ?_
  refine W.region ?_
  refine RL.q (Yld.assign rfl) rfl (RL.nil (N.next ?_))
  refine W.seq ?_
  refine W.seq (W.region ?_)
  refine RL.q (Yld.move rfl) rfl ?_
  refine RL.q (Yld.nilP rfl) rfl ?_
  refine RL.q (Yld.fieldAddr fo82_2 rfl) rfl ?_
  refine RL.q (Yld.ld 2 Tryz.underlying41 rfl rfl rfl rfl) rfl ?_
  refine RL.q (Yld.lenSl Tryz.underlying41 rfl) rfl ?_
  refine RL.q (Yld.move rfl) rfl (RL.nil (N.next ?_))
  refine W.keep (.of [0, 10, 11] rfl) (.of [0, 1, 2, 3, 4, 5, 160] rfl) ?_
  refine W.block ?_
  refine W.loopK (ι := UI) (fun z => (z.j ≤ t.us.length ∧ Own z.H x.pu x.cu 48 5 ((blend (tickU (kdOf m)) t.us z.j).map U.c))) (fun z => [(11, .int .i64 (z.j : Nat))]) (fun z => [(3, z.H)]) (fun z => t.us.length - z.j) (.of [0, 10] rfl) (.of [0, 1, 2, 4, 5, 160] rfl) ⟨0, x.HU⟩ ?_ ?_ ?_ ?_
  · exact ⟨Nat.zero_le _, by rw [blend_zero]; exact hOu⟩
  · exact (.as rfl (by first | rfl | (simp; done) | (congr 1; simp; done) | (congr 1; omega)) .nil)
  · exact (.to rfl)
  rintro z ⟨hj, hO⟩
  refine W.keep (.of [11, 0, 10] rfl) (.of [3, 0, 1, 2, 4, 5, 160] rfl) ?_
  refine W.seq (W.region ?_)
  refine RL.q (Yld.bin rfl rfl BinV.lss) rfl ?_
  refine RL.nil (N.next ?_)
  refine W.seq ?_
  first | refine W.condD rfl (fun hc12 => ?_) (fun hc12 => ?_) | (refine W.cond rfl (fun hc12 => ?_) (fun hc12 => ?_) <;> try simp only [Bool.or_eq_true, Bool.and_eq_true, Bool.not_eq_true', Bool.not_eq_false', decide_eq_true_eq, Bool.or_eq_false_iff, Bool.and_eq_false_iff, decide_eq_false_iff_not, beq_iff_eq, beq_eq_false_iff_ne, ne_eq, Decidable.not_not] at hc12)
  ·
   obtain ⟨u, hu⟩ : ∃ u, t.us[z.j]? = some u := ⟨_, List.getElem?_eq_getElem (by omega)⟩
   have hlu := uz_get (blend_get (f := tickU (kdOf m)) hu)
   refine W.skip ?_
   refine N.next ?_
   refine W.seq ?_
   refine W.block ?_
   refine W.seq (W.region ?_)
   refine RL.q (Yld.move rfl) rfl (RL.q (Yld.assign rfl) rfl (RL.nil (N.next ?_)))
   refine W.seq (W.region ?_)
   refine RL.q (Yld.move rfl) rfl ?_
   refine RL.q (Yld.nilP rfl) rfl ?_
   refine RL.q (Yld.fieldAddr fo82_2 rfl) rfl ?_
   refine RL.q (Yld.ld 2 Tryz.underlying41 rfl rfl rfl rfl) rfl ?_
   refine RL.q (Yld.move rfl) rfl ?_
   refine RL.q (Yld.ixr Tryz.underlying41 sz48 rfl rfl) rfl ?_
   refine RL.q (Yld.assign rfl) rfl (RL.nil (N.next ?_))
   refine W.keep (.of [0, 4, 10, 11] rfl) (.of [0, 1, 2, 3, 4, 5, 160] rfl) ?_
   refine W.seq (W.region ?_)
   refine RL.q (Yld.move rfl) rfl (RL.q (Yld.move rfl) rfl ?_)
   refine RL.q (Yld.nilP rfl) rfl ?_
   refine RL.q (Yld.fieldAddr fo48_0 rfl) rfl ?_
   refine RL.q (by first | exact (by first | exact Yld.loadRow1 (cl := 1) Tryz.underlying3 rfl rfl rfl (by first | assumption | exact Own.sl (by assumption)) (by assumption) | exact Yld.loadRow1 (cl := 2) Tryz.underlying3 rfl rfl rfl (by first | assumption | exact Own.sl (by assumption)) (by assumption) | exact Yld.loadRow1 (cl := 4) Tryz.underlying3 rfl rfl rfl (by first | assumption | exact Own.sl (by assumption)) (by assumption) | exact Yld.loadRow1 (cl := 5) Tryz.underlying3 rfl rfl rfl (by first | assumption | exact Own.sl (by assumption)) (by assumption) | exact Yld.loadRow1 (cl := 160) Tryz.underlying3 rfl rfl rfl (by first | assumption | exact Own.sl (by assumption)) (by assumption) | exact Yld.loadRow1 (cl := 3) Tryz.underlying3 rfl rfl rfl (by first | assumption | exact Own.sl (by assumption)) (by assumption)) | exact (by first | exact Yld.lrF 1 0 Tryz.underlying3 rfl rfl rfl rfl | exact Yld.lrF 2 0 Tryz.underlying3 rfl rfl rfl rfl | exact Yld.lrF 4 0 Tryz.underlying3 rfl rfl rfl rfl | exact Yld.lrF 5 0 Tryz.underlying3 rfl rfl rfl rfl | exact Yld.lrF 160 0 Tryz.underlying3 rfl rfl rfl rfl | exact Yld.lrF 3 0 Tryz.underlying3 rfl rfl rfl rfl)) rfl ?_
   refine RL.e (Eff.call ent48 [1, 2] [1, 2] (.cons rfl (.cons rfl .nil)) (kind_ct m H1 hM mach b x u.it) rfl rfl rfl rfl (by rintro _ _ ⟨_, rfl⟩; rfl)) rfl ?_
   rintro _ _ ⟨_, ⟨rfl, rfl⟩, rfl⟩
   refine RL.q (Yld.bin rfl rfl BinV.eql) rfl ?_
   refine RL.q (Yld.move rfl) rfl ?_
   refine' RL.and (t := 27) (d := 33) 6 rfl (.of [0, 4, 10, 11, 20, 21, 22, 23, 24, 25, 26] rfl) (.of [0, 1, 2, 3, 4, 5, 160] rfl) ?_ ?_ ?_
   rotate_left 1
   ·
    intro hg27
    refine RL.gq rfl rfl (Yld.move rfl) rfl ?_
    refine RL.gq rfl rfl (Yld.nilP rfl) rfl ?_
    refine RL.gq rfl rfl (Yld.fieldAddr fo48_2 rfl) rfl ?_
    refine RL.gq rfl rfl (by first | exact Yld.lrF 1 2 Tryz.underlying3 rfl rfl rfl rfl | exact Yld.lrF 2 2 Tryz.underlying3 rfl rfl rfl rfl | exact Yld.lrF 4 2 Tryz.underlying3 rfl rfl rfl rfl | exact Yld.lrF 5 2 Tryz.underlying3 rfl rfl rfl rfl | exact Yld.lrF 160 2 Tryz.underlying3 rfl rfl rfl rfl | exact Yld.lrF 3 2 Tryz.underlying3 rfl rfl rfl rfl) rfl ?_
    refine RL.gq rfl rfl (Yld.bin rfl rfl BinV.eql) rfl ?_
    refine RL.q Yld.pk rfl ?_
    exact RL.nil (N.meet (.to rfl) (.to rfl))
   ·
    intro hg27
    refine RL.gskip rfl rfl rfl rfl ?_
    refine RL.gskip rfl rfl rfl rfl ?_
    refine RL.gskip rfl rfl rfl rfl ?_
    refine RL.gskip rfl rfl rfl rfl ?_
    refine RL.gskip rfl rfl rfl rfl ?_
    refine RL.q Yld.pk rfl ?_
    exact RL.nil (N.meet (.to rfl) (.to rfl))
   refine RL.nil (N.next ?_)
   refine W.keep (.of [0, 4, 10, 11, 33] rfl) (.of [0, 1, 2, 3, 4, 5, 160] rfl) ?_
   refine W.cond rfl (fun hc33 => ?_) (fun hc33 => ?_)
   ·
    have htk : tickU (kdOf m) u = { u with va := w64 (u.va + 1) } := by
      simp only [Bool.and_eq_true, decide_eq_true_eq] at hc33
      unfold tickU; exact if_pos hc33
    refine W.region ?_
    refine RL.q (Yld.move rfl) rfl ?_
    refine RL.q (Yld.nilP rfl) rfl ?_
    refine RL.q (Yld.fieldAddr fo48_3 rfl) rfl ?_
    refine RL.q (by first | exact Yld.lrF 1 3 Tryz.underlying2 rfl rfl rfl rfl | exact Yld.lrF 2 3 Tryz.underlying2 rfl rfl rfl rfl | exact Yld.lrF 4 3 Tryz.underlying2 rfl rfl rfl rfl | exact Yld.lrF 5 3 Tryz.underlying2 rfl rfl rfl rfl | exact Yld.lrF 160 3 Tryz.underlying2 rfl rfl rfl rfl | exact Yld.lrF 3 3 Tryz.underlying2 rfl rfl rfl rfl) rfl ?_
    refine RL.q (Yld.bin rfl rfl (by first | exact BinV.add (by omega) (by omega) | exact BinV.addW)) rfl ?_
    refine RL.q (Yld.nilP rfl) rfl ?_
    refine RL.q (Yld.fieldAddr fo48_3 rfl) rfl ?_
    refine RL.e0 (Eff.storeRow (tc := 3) (j := 3) sz2 rfl rfl rfl hO hlu rfl rfl rfl rfl rfl) ?_
    rintro _ _ ⟨Hb, hOb, rfl⟩
    replace hOb : Own Hb x.pu x.cu 48 5 ((blend (tickU (kdOf m)) t.us (z.j + 1)).map U.c) := by rw [← blend_set hu, List.map_set, htk]; exact hOb
    refine RL.nil ?_
    refine N.block_normal ?_
    refine N.next ?_
    refine W.keep (.of [0, 10, 11] rfl) (.of [0, 1, 2, 3, 4, 5, 160] rfl) ?_
    refine W.region ?_
    refine RL.q (Yld.bin rfl rfl (by first | exact BinV.add (by omega) (by omega) | exact BinV.addW)) rfl ?_
    refine RL.q (Yld.move rfl) rfl (RL.nil ?_)
    exact N.famK ⟨z.j + 1, Hb⟩ ⟨⟨by dsimp only; omega, hOb⟩, by dsimp only; omega⟩ (.as rfl (by first | rfl | (simp; done) | (congr 1; simp; done) | (congr 1; omega)) .nil) (.to rfl) (.to rfl) (.to rfl)
   ·
    have htk : tickU (kdOf m) u = u := by
      unfold tickU
      refine if_neg fun h => ?_
      rw [decide_eq_true h.1, decide_eq_true h.2] at hc33; cases hc33
    refine W.skip ?_
    refine N.block_normal ?_
    refine N.next ?_
    refine W.region ?_
    refine RL.q (Yld.bin rfl rfl (by first | exact BinV.add (by omega) (by omega) | exact BinV.addW)) rfl ?_
    refine RL.q (Yld.move rfl) rfl (RL.nil ?_)
    exact N.famK ⟨z.j + 1, z.H⟩ ⟨⟨by dsimp only; omega, by dsimp only; rw [blend_same hu htk]; exact hO⟩, by dsimp only; omega⟩ (.as rfl (by first | rfl | (simp; done) | (congr 1; simp; done) | (congr 1; omega)) .nil) (.to rfl) (.to rfl) (.to rfl)
  ·
   have hend : z.j = t.us.length := by omega
   rw [hend, blend_end] at hO
   refine W.exit ?_
   refine N.then_exit ?_
   refine N.then_exit ?_
   refine N.block_eq ?_
   refine N.next ?_
   refine W.seq (W.region ?_)
   refine RL.q (Yld.move rfl) rfl ?_
   refine RL.q (Yld.nilP rfl) rfl ?_
   refine RL.q (Yld.fieldAddr fo82_3 rfl) rfl ?_
   refine RL.q (Yld.ld 2 Tryz.underlying57 rfl rfl rfl rfl) rfl ?_
   refine RL.q (Yld.assign rfl) rfl (RL.nil (N.next ?_))
   refine W.keep (.of [0, 5] rfl) (.of [0, 1, 2, 3, 4, 5, 160] rfl) ?_
   refine W.seq (W.region ?_)
   refine RL.q (Yld.move rfl) rfl ?_
   refine RL.q (Yld.nilP rfl) rfl ?_
   refine RL.q (Yld.fieldAddr fo82_3 rfl) rfl ?_
   refine RL.e0 (Eff.storeS (c := 2) _ sz57 rfl rfl rfl rfl rfl rfl rfl (by (try simp only [putAt, List.take, List.drop, List.nil_append, List.cons_append, List.append_nil, List.length_cons, List.length_nil, Nat.add_zero, Nat.zero_add, Nat.reduceAdd]); rfl)) ?_
   rintro _ _ rfl
   refine RL.nil (N.next ?_)
   refine W.keep (.of [5] rfl) (.of [0, 1, 2, 3, 4, 5, 160] rfl) ?_
   refine W.seq (W.region ?_)
   refine RL.q (Yld.move rfl) rfl (RL.q (Yld.assign rfl) rfl (RL.nil (N.next ?_)))
   refine W.ret ?_
   exact N.retBy [1, 2, 3, 160, 5, 4] (.cons (.tmp rfl) .nil) rfl rfl rfl rfl ⟨{ x with HU := z.H, pc := none, nc := 0, cc := 0, HC := emp }, by rw [← hnc]; rfl, ⟨by show x.nu = _; rw [hnu]; simp [tickP], rfl, hgn, hO, Own.nil _ _, hMp, hdn⟩, rfl⟩
set_option maxRecDepth 100000 in
set_option maxHeartbeats 400000 in
theorem beginC_ct (y c : Cl) (b : Nat) (H1 : PH) : Ct Tryz.prog 50 [.agg [.int .i64 y.it, .int .i64 y.cl, .int .i64 y.nu, .int .i64 y.va].toArray, .pointer (some ⟨b, 0, none⟩)] [H1, single b (.cells [.int .i64 c.it, .int .i64 c.cl, .int .i64 c.nu, .int .i64 c.va].toArray 38 (0, 0))] (fun v Hs => v = .bool (sameCl c y) ∧ Hs = [H1, single b (.cells [.int .i64 c.it, .int .i64 c.cl, .int .i64 c.nu, .int .i64 c.va].toArray 38 (0, 0))]) := by
  refine Ct.body Tryz.func50 rfl Tryz.ntmps50 rfl ?_
  intro E F
  refine W.seq (W.region ?_)
  refine RL.e (Eff.box 102 _ rfl rfl) rfl ?_
  rintro _ _ ⟨b2, rfl, rfl⟩
  refine RL.q (Yld.assign rfl) rfl (RL.nil (N.next ?_))
  refine W.seq (W.region ?_)
  refine RL.q (Yld.fieldAddr fo38_0 rfl) rfl ?_
  refine RL.q (Yld.ld 102 Tryz.underlying3 rfl rfl rfl rfl) rfl ?_
  refine RL.q (Yld.fieldAddr fo38_0 rfl) rfl ?_
  refine RL.q (Yld.ld 2 Tryz.underlying3 rfl rfl rfl rfl) rfl ?_
  refine RL.q (Yld.bin rfl rfl BinV.eql) rfl ?_
  refine RL.q (Yld.move rfl) rfl ?_
  refine' RL.and (t := 9) (d := 15) 6 rfl (.of [0, 1, 2, 3, 4, 5, 6, 7, 8] rfl) (.of [0, 1, 2, 102] rfl) ?_ ?_ ?_
  rotate_left 1
  ·
   intro hg9
   refine RL.gq rfl rfl (Yld.fieldAddr fo38_1 rfl) rfl ?_
   refine RL.gq rfl rfl (Yld.ld 102 Tryz.underlying3 rfl rfl rfl rfl) rfl ?_
   refine RL.gq rfl rfl (Yld.fieldAddr fo38_1 rfl) rfl ?_
   refine RL.gq rfl rfl (Yld.ld 2 Tryz.underlying3 rfl rfl rfl rfl) rfl ?_
   refine RL.gq rfl rfl (Yld.bin rfl rfl BinV.eql) rfl ?_
   refine RL.q Yld.pk rfl ?_
   exact RL.nil (N.meet (.to rfl) (.to rfl))
  ·
   intro hg9
   refine RL.gskip rfl rfl rfl rfl ?_
   refine RL.gskip rfl rfl rfl rfl ?_
   refine RL.gskip rfl rfl rfl rfl ?_
   refine RL.gskip rfl rfl rfl rfl ?_
   refine RL.gskip rfl rfl rfl rfl ?_
   refine RL.q Yld.pk rfl ?_
   exact RL.nil (N.meet (.to rfl) (.to rfl))
  refine RL.q (Yld.move rfl) rfl ?_
  refine' RL.and (t := 16) (d := 22) 6 rfl (.of [0, 1, 2, 3, 4, 5, 6, 7, 8, 15] rfl) (.of [0, 1, 2, 102] rfl) ?_ ?_ ?_
  rotate_left 1
  ·
   intro hg16
   refine RL.gq rfl rfl (Yld.fieldAddr fo38_2 rfl) rfl ?_
   refine RL.gq rfl rfl (Yld.ld 102 Tryz.underlying3 rfl rfl rfl rfl) rfl ?_
   refine RL.gq rfl rfl (Yld.fieldAddr fo38_2 rfl) rfl ?_
   refine RL.gq rfl rfl (Yld.ld 2 Tryz.underlying3 rfl rfl rfl rfl) rfl ?_
   refine RL.gq rfl rfl (Yld.bin rfl rfl BinV.eql) rfl ?_
   refine RL.q Yld.pk rfl ?_
   exact RL.nil (N.meet (.to rfl) (.to rfl))
  ·
   intro hg16
   refine RL.gskip rfl rfl rfl rfl ?_
   refine RL.gskip rfl rfl rfl rfl ?_
   refine RL.gskip rfl rfl rfl rfl ?_
   refine RL.gskip rfl rfl rfl rfl ?_
   refine RL.gskip rfl rfl rfl rfl ?_
   refine RL.q Yld.pk rfl ?_
   exact RL.nil (N.meet (.to rfl) (.to rfl))
  refine RL.q (Yld.assign rfl) rfl (RL.nil (N.next ?_))
  refine W.keep (.of [3] rfl) (.of [0, 1, 2, 102] rfl) ?_
  refine W.ret ?_
  exact N.retBy [1, 2] (.cons (.tmp rfl) .nil) rfl rfl rfl rfl ⟨by unfold sameCl; rw [← Bool.and_assoc]; rfl, rfl⟩
set_option maxRecDepth 100000 in
set_option maxHeartbeats 400000 in
theorem cfCl_ct (l : List Cl) (H1 : PH) (p : Option Addr) (c n : Nat) (hn : n = l.length) (hS : Sl H1 p c 4 (l.map Cl.c)) (f : Nat) (cap : List Value) (G1 : PH) (q : Cl → Bool) (hent : Ent Tryz.prog f) (hf : ∀ x ∈ l, Ct Tryz.prog f (.agg x.c.toArray :: cap) [H1, G1] (fun v Hs => v = .bool (q x) ∧ Hs = [H1, G1])) : Ct Tryz.prog 51 [.slice p n c, .func (.func f) [].toArray cap.toArray] [H1, G1] (fun v Hs => v = .bool (l.any q) ∧ Hs = [H1, G1]) := by
  refine Ct.body Tryz.func51 rfl Tryz.ntmps51 rfl ?_
  intro E F
  refine W.seq (W.region ?_)
  refine RL.q (Yld.assign rfl) rfl (RL.nil (N.next ?_))
  refine W.seq (W.region ?_)
  refine RL.q (Yld.move rfl) rfl (RL.q (Yld.move rfl) rfl ?_)
  refine RL.e (Eff.call ent92 [1, 2] [1, 2] (.cons rfl (.cons rfl .nil)) (ifCl_ct l H1 p c n hn hS f cap G1 q hent hf) rfl rfl rfl rfl (by rintro _ _ ⟨_, rfl⟩; rfl)) rfl ?_
  rintro _ _ ⟨_, ⟨rfl, rfl⟩, rfl⟩
  refine RL.q (Yld.bin rfl rfl BinV.geq) rfl ?_
  refine RL.q (Yld.assign rfl) rfl (RL.nil (N.next ?_))
  refine W.keep (.of [4] rfl) (.of [0, 1, 2] rfl) ?_
  refine W.ret ?_
  exact N.retBy [1, 2] (.cons (.tmp rfl) .nil) rfl rfl rfl rfl ⟨by rw [← fz_any]; rfl, rfl⟩
set_option maxRecDepth 100000 in
set_option maxHeartbeats 3200000 in
theorem begin_ct (m : Md) (H1 : PH) (hM : m.In H1) (mach : Int) (b : Nat) (t : T) (x : Tb) (hx : x.Is t) (c : Cl) (hb : t.cs.length ≤ 1000000) : Ct Tryz.prog 26 [.pointer (some ⟨b, 0, none⟩), .agg [.int .i64 c.it, .int .i64 c.cl, .int .i64 c.nu, .int .i64 c.va].toArray] [H1, single b (.cells [.slice m.psi m.si.length m.csi, .slice m.pfe m.fe.length m.cfe, .slice m.prk m.rk.length m.crk, .slice m.pmc m.mc.length m.cmc, .slice m.pln m.ln.length m.cln, .slice m.pis m.is.length m.cis, .int .i64 m.da, .int .i64 m.sl, .int .i64 m.re, .int .i64 m.fa, .slice m.prl m.rl.length m.crl, .int .i64 mach, .slice x.pu x.nu x.cu, .slice x.pc x.nc x.cc, .int .i64 x.gen, .map (some x.d)].toArray 82 (0, 0)), x.HU, x.HC, single x.d (.map x.es x.ck)] (fun v Hs => ∃ y : Tb, v = .int .i64 (beginP (kdOf m c.it) t c).2 ∧ y.Is (beginP (kdOf m c.it) t c).1 ∧ Hs = [H1, single b (.cells [.slice m.psi m.si.length m.csi, .slice m.pfe m.fe.length m.cfe, .slice m.prk m.rk.length m.crk, .slice m.pmc m.mc.length m.cmc, .slice m.pln m.ln.length m.cln, .slice m.pis m.is.length m.cis, .int .i64 m.da, .int .i64 m.sl, .int .i64 m.re, .int .i64 m.fa, .slice m.prl m.rl.length m.crl, .int .i64 mach, .slice y.pu y.nu y.cu, .slice y.pc y.nc y.cc, .int .i64 y.gen, .map (some y.d)].toArray 82 (0, 0)), y.HU, y.HC, single y.d (.map y.es y.ck)]) := by
  refine Ct.body Tryz.func26 rfl Tryz.ntmps26 rfl ?_
  intro E F
  obtain ⟨hnu, hnc, hgn, hOu, hOc, hMp, hdn⟩ := id hx
  have hSu := hOu.sl
  have hmu := hSu.len_le
  simp only [List.length_map, maxLen] at hmu
  have hSc := hOc.sl
  have hmc := hSc.len_le
  simp only [List.length_map, maxLen] at hmc
  have hlo := fz_lo (us := t.us) (it := c.it)
  refine W.seq (W.region ?_)
  refine RL.e (Eff.box 103 _ rfl rfl) rfl ?_
  rintro _ _ ⟨b3, rfl, rfl⟩
  refine RL.q (Yld.assign rfl) rfl (RL.nil (N.next ?_))
  refine W.seq ?_
  refine W.seq (W.region ?_)
  refine RL.q (Yld.fieldAddr fo38_1 rfl) rfl ?_
  refine RL.q (Yld.ld 103 Tryz.underlying3 rfl rfl rfl rfl) rfl ?_
  refine RL.q (Yld.bin rfl rfl BinV.lss) rfl ?_
  refine RL.q (Yld.move rfl) rfl ?_
  refine' RL.or (t := 10) (d := 14) 4 rfl (.of [0, 1, 3, 4, 7, 8, 9] rfl) (.of [0, 1, 2, 3, 4, 5, 103] rfl) ?_ ?_ ?_
  rotate_left 1
  ·
   intro hg10
   refine RL.gq rfl rfl (Yld.fieldAddr fo38_2 rfl) rfl ?_
   refine RL.gq rfl rfl (Yld.ld 103 Tryz.underlying3 rfl rfl rfl rfl) rfl ?_
   refine RL.gq rfl rfl (Yld.bin rfl rfl BinV.lss) rfl ?_
   refine RL.q Yld.pk rfl ?_
   exact RL.nil (N.meet (.to rfl) (.to rfl))
  ·
   intro hg10
   refine RL.gskip rfl rfl rfl rfl ?_
   refine RL.gskip rfl rfl rfl rfl ?_
   refine RL.gskip rfl rfl rfl rfl ?_
   refine RL.q Yld.pk rfl ?_
   exact RL.nil (N.meet (.to rfl) (.to rfl))
  refine RL.q (Yld.move rfl) rfl ?_
  refine' RL.or (t := 15) (d := 21) 6 rfl (.of [0, 1, 3, 4, 7, 8, 9, 14] rfl) (.of [0, 1, 2, 3, 4, 5, 103] rfl) ?_ ?_ ?_
  rotate_left 1
  ·
   intro hg15
   refine RL.gq rfl rfl (Yld.move rfl) rfl ?_
   refine RL.gq rfl rfl (Yld.fieldAddr fo38_0 rfl) rfl ?_
   refine RL.gq rfl rfl (Yld.ld 103 Tryz.underlying3 rfl rfl rfl rfl) rfl ?_
   refine RL.ge rfl rfl (Eff.call ent48 [1, 2] [1, 2] (.cons rfl (.cons rfl .nil)) (kind_ct m H1 hM mach b x c.it) rfl rfl rfl rfl (by rintro _ _ ⟨_, rfl⟩; rfl)) rfl ?_
   rintro _ _ ⟨_, ⟨rfl, rfl⟩, rfl⟩
   refine RL.gq rfl rfl (Yld.bin rfl rfl BinV.neq) rfl ?_
   refine RL.q Yld.pk rfl ?_
   exact RL.nil (N.meet (.to rfl) (.to rfl))
  ·
   intro hg15
   refine RL.gskip rfl rfl rfl rfl ?_
   refine RL.gskip rfl rfl rfl rfl ?_
   refine RL.gskip rfl rfl rfl rfl ?_
   refine RL.gskip rfl rfl rfl rfl ?_
   refine RL.gskip rfl rfl rfl rfl ?_
   refine RL.q Yld.pk rfl ?_
   exact RL.nil (N.meet (.to rfl) (.to rfl))
  refine RL.nil (N.next ?_)
  refine W.keep (.of [0, 3, 21] rfl) (.of [0, 1, 2, 3, 4, 5, 103] rfl) ?_
  refine W.cond rfl (fun hc21 => ?_) (fun hc21 => ?_)
  ·
   have hbp : (beginP (kdOf m c.it) t c) = (t, 1) := by
     unfold beginP
     refine if_pos fun h => ?_
     simp only [Bool.or_eq_true, decide_eq_true_eq] at hc21
     omega
   refine W.seq (W.region ?_)
   refine RL.q (Yld.assign rfl) rfl (RL.nil (N.next ?_))
   refine W.ret ?_
   refine N.then_ret ?_
   exact N.retBy [1, 2, 3, 4, 5] (.cons (.tmp rfl) .nil) rfl rfl rfl rfl ⟨x, by rw [hbp]; first | done | rfl, by rw [hbp]; exact hx, rfl⟩
  ·
   have hok : 1 ≤ c.cl ∧ 1 ≤ c.nu ∧ kdOf m c.it = 1 := by
     simp only [Bool.or_eq_false_iff, decide_eq_false_iff_not] at hc21
     omega
   refine W.skip ?_
   refine N.next ?_
   refine W.seq (W.region ?_)
   refine RL.q (Yld.move rfl) rfl ?_
   refine RL.q (Yld.fieldAddr fo38_0 rfl) rfl ?_
   refine RL.q (Yld.ld 103 Tryz.underlying3 rfl rfl rfl rfl) rfl ?_
   refine RL.e (Eff.call ent49 [2, 3] [2, 3] (.cons rfl (.cons rfl .nil)) (find_ct m mach b t x hx c.it) rfl rfl rfl rfl (by rintro _ _ ⟨_, rfl⟩; rfl)) rfl ?_
   rintro _ _ ⟨_, ⟨rfl, rfl⟩, rfl⟩
   refine RL.q (Yld.assign rfl) rfl (RL.nil (N.next ?_))
   refine W.keep (.of [0, 3, 5] rfl) (.of [0, 1, 2, 3, 4, 5, 103] rfl) ?_
   refine W.seq ?_
   refine W.block ?_
   refine W.seq (W.region ?_)
   refine RL.q (Yld.move rfl) rfl ?_
   refine RL.q (Yld.bin rfl rfl BinV.lss) rfl ?_
   refine RL.q (Yld.assign rfl) rfl (RL.nil (N.next ?_))
   first | refine W.condD rfl (fun hc26 => ?_) (fun hc26 => ?_) | (refine W.cond rfl (fun hc26 => ?_) (fun hc26 => ?_) <;> try simp only [Bool.or_eq_true, Bool.and_eq_true, Bool.not_eq_true', Bool.not_eq_false', decide_eq_true_eq, Bool.or_eq_false_iff, Bool.and_eq_false_iff, decide_eq_false_iff_not, beq_iff_eq, beq_eq_false_iff_ne, ne_eq, Decidable.not_not] at hc26)
   ·
    have hfn := fz_neg hc26
    have hbp : (beginP (kdOf m c.it) t c) = (t, 6) := by
      unfold beginP
      rw [if_neg (fun h => h hok), hfn]
    refine W.seq (W.region ?_)
    refine RL.q (Yld.assign rfl) rfl (RL.nil (N.next ?_))
    refine W.keep (.of [4] rfl) (.of [0, 1, 2, 3, 4, 5, 103] rfl) ?_
    refine W.ret ?_
    refine N.block_ret ?_
    refine N.then_ret ?_
    exact N.retBy [1, 2, 3, 4, 5] (.cons (.tmp rfl) .nil) rfl rfl rfl rfl ⟨x, by rw [hbp]; first | done | rfl, by rw [hbp]; exact hx, rfl⟩
   ·
    obtain ⟨i, u, hi, hfn, hu, hui, hus⟩ := fz_pos hc26
    have hlu := uz_get hu
    have hil := (List.getElem?_eq_some_iff.1 hu).1
    rw [hi]
    refine W.seq (W.region ?_)
    refine RL.q (Yld.move rfl) rfl ?_
    refine RL.q (Yld.nilP rfl) rfl ?_
    refine RL.q (Yld.fieldAddr fo82_2 rfl) rfl ?_
    refine RL.q (Yld.ld 2 Tryz.underlying41 rfl rfl rfl rfl) rfl ?_
    refine RL.q (Yld.move rfl) rfl ?_
    refine RL.q (Yld.ixr Tryz.underlying41 sz48 rfl rfl) rfl ?_
    refine RL.q (Yld.fieldAddr fo48_2 rfl) rfl ?_
    refine RL.q (by first | exact Yld.lrF 2 2 Tryz.underlying3 rfl rfl rfl rfl | exact Yld.lrF 3 2 Tryz.underlying3 rfl rfl rfl rfl | exact Yld.lrF 103 2 Tryz.underlying3 rfl rfl rfl rfl | exact Yld.lrF 1 2 Tryz.underlying3 rfl rfl rfl rfl | exact Yld.lrF 4 2 Tryz.underlying3 rfl rfl rfl rfl | exact Yld.lrF 5 2 Tryz.underlying3 rfl rfl rfl rfl) rfl ?_
    refine RL.q (Yld.bin rfl rfl BinV.eql) rfl ?_
    refine RL.q (Yld.assign rfl) rfl (RL.nil (N.next ?_))
    refine W.keep (.of [0, 3, 29] rfl) (.of [0, 1, 2, 3, 4, 5, 103] rfl) ?_
    first | refine W.condD rfl (fun hc29 => ?_) (fun hc29 => ?_) | (refine W.cond rfl (fun hc29 => ?_) (fun hc29 => ?_) <;> try simp only [Bool.or_eq_true, Bool.and_eq_true, Bool.not_eq_true', Bool.not_eq_false', decide_eq_true_eq, Bool.or_eq_false_iff, Bool.and_eq_false_iff, decide_eq_false_iff_not, beq_iff_eq, beq_eq_false_iff_ne, ne_eq, Decidable.not_not] at hc29)
    ·
     have hbp : (beginP (kdOf m c.it) t c) = (t, 9) := by
       unfold beginP
       rw [if_neg (fun h => h hok), hfn]
       show (if stOf t.us i = 1 then _ else _) = _
       rw [stOf_get hu, if_pos hc29]
     refine W.seq (W.region ?_)
     refine RL.q (Yld.assign rfl) rfl (RL.nil (N.next ?_))
     refine W.ret ?_
     refine N.block_ret ?_
     refine N.then_ret ?_
     exact N.retBy [1, 2, 3, 4, 5] (.cons (.tmp rfl) .nil) rfl rfl rfl rfl ⟨x, by rw [hbp]; first | done | rfl, by rw [hbp]; exact hx, rfl⟩
    ·
     refine W.skip ?_
     refine N.block_normal ?_
     refine N.next ?_
     refine W.seq (W.region ?_)
     refine RL.q (Yld.makeFunc eval0 (eval1 rfl)) rfl ?_
     refine RL.q (Yld.assign rfl) rfl (RL.nil (N.next ?_))
     refine W.seq ?_
     refine W.seq (W.region ?_)
     refine RL.q (Yld.move rfl) rfl ?_
     refine RL.q (Yld.nilP rfl) rfl ?_
     refine RL.q (Yld.fieldAddr fo82_3 rfl) rfl ?_
     refine RL.q (Yld.ld 2 Tryz.underlying57 rfl rfl rfl rfl) rfl ?_
     refine RL.q (Yld.move rfl) rfl ?_
     refine RL.e (Eff.call ent51 [4, 103] [4, 103] (.cons rfl (.cons rfl .nil)) (cfCl_ct t.cs x.HC x.pc x.cc x.nc hnc hSc 50 [.pointer (some ⟨b3, 0, none⟩)] _ (sameCl c) ent50 (fun y _ => beginC_ct y c b3 x.HC)) rfl rfl rfl rfl (by rintro _ _ ⟨_, rfl⟩; rfl)) rfl ?_
     rintro _ _ ⟨_, ⟨rfl, rfl⟩, rfl⟩
     refine RL.q Yld.nt rfl (RL.nil (N.next ?_))
     refine W.keep (.of [0, 3, 46] rfl) (.of [0, 1, 2, 3, 4, 5, 103] rfl) ?_
     refine W.cond rfl (fun hc46 => ?_) (fun hc46 => ?_)
     ·
      have hbp : (beginP (kdOf m c.it) t c) = ({ t with cs := t.cs ++ [c] }, 0) := by
        rw [Bool.not_eq_true'] at hc46
        unfold beginP
        rw [if_neg (fun h => h hok), hfn]
        show (if stOf t.us i = 1 then _ else _) = _
        rw [stOf_get hu, if_neg hc29, if_neg (by rw [hc46]; decide)]
      refine W.draw (.q 0 (.q 1 (.q 2 (.q 3 (.q 5 (.two 4 (.one 6 (.one 7 (.q 8 (.q 9 (.one 10 .done))))) 6 (.one 4 (.one 7 (.q 8 (.q 9 (.one 10 .done))))))))))) (.of [0, 1, 3, 5, 103] rfl) mix (by kernel_rfl) (by kernel_rfl) ?_
      refine DL.q rfl (Yld.move rfl) rfl ?_
      refine DL.q rfl (Yld.move rfl) rfl ?_
      refine DL.q rfl (Yld.nilP rfl) rfl ?_
      refine DL.q rfl (Yld.fieldAddr fo82_3 rfl) rfl ?_
      refine DL.q rfl (Yld.ldW 103 Tryz.underlying38 sz38 rfl rfl rfl rfl) rfl ?_
      refine DL.two ?_ ?_
      ·
       refine DL.one rfl (Yld.eff (Yld.ld 2 Tryz.underlying57 rfl rfl rfl rfl)) rfl (by rintro _ _ ⟨rfl, rfl⟩; repeat (first | exact .nil | refine .cons rfl ?_)) ?_
       rintro _ _ ⟨rfl, rfl⟩
       refine DL.one rfl (Eff.buildSlice 153 Tryz.underlying57 sz38 zc38 rfl rfl (.cons rfl rfl .nil) rfl) rfl (by rintro _ _ ⟨b53, rfl, rfl⟩; repeat (first | exact .nil | refine .cons rfl ?_)) ?_
       rintro _ _ ⟨b53, rfl, rfl⟩
       refine DL.one rfl (Eff.appendE (tc := 4) (sc := 153) (ms := [c]) Cl.c Tryz.underlying57 el38 rfl rfl rfl rfl hOc hnc (Own.one (l := c.c) rfl (Cl.one c) rfl).sl rfl (fun a _ => Cl.one a) (by decide) (by simp; omega) (by simp [maxLen]; omega)) rfl (by rintro _ _ ⟨Ha, pa, ca, rfl, hOa, rfl⟩; repeat (first | exact .nil | refine .cons rfl ?_)) ?_
       rintro _ _ ⟨Ha, pa, ca, rfl, hOa, rfl⟩
       refine DL.q rfl (Yld.nilP rfl) rfl ?_
       refine DL.q rfl (Yld.fieldAddr fo82_3 rfl) rfl ?_
       refine DL.one0 rfl (Eff.storeS (c := 2) _ sz57 rfl rfl rfl rfl rfl rfl rfl (by (try simp only [putAt, List.take, List.drop, List.nil_append, List.cons_append, List.append_nil, List.length_cons, List.length_nil, Nat.add_zero, Nat.zero_add, Nat.reduceAdd]); rfl)) (by rintro _ _ rfl; repeat (first | exact .nil | refine .cons rfl ?_)) ?_
       rintro _ _ rfl
       refine DL.done ?_
       refine N.next ?_
       refine W.keep .nil (.of [0, 1, 2, 3, 4, 5, 103, 153] rfl) ?_
       refine W.seq (W.region ?_)
       refine RL.q (Yld.assign rfl) rfl (RL.nil (N.next ?_))
       refine W.ret ?_
       exact N.retBy [1, 2, 3, 4, 5] (.cons (.tmp rfl) .nil) rfl rfl rfl rfl ⟨{ x with pc := pa, nc := _, cc := ca, HC := Ha }, by rw [hbp]; first | done | rfl, by rw [hbp]; exact ⟨hnu, rfl, hgn, hOu, hOa, hMp, hdn⟩, rfl⟩
      ·
       refine DL.one rfl (Eff.buildSlice 153 Tryz.underlying57 sz38 zc38 rfl rfl (.cons rfl rfl .nil) rfl) rfl (by rintro _ _ ⟨b53, rfl, rfl⟩; repeat (first | exact .nil | refine .cons rfl ?_)) ?_
       rintro _ _ ⟨b53, rfl, rfl⟩
       refine DL.one rfl (Yld.eff (Yld.ld 2 Tryz.underlying57 rfl rfl rfl rfl)) rfl (by rintro _ _ ⟨rfl, rfl⟩; repeat (first | exact .nil | refine .cons rfl ?_)) ?_
       rintro _ _ ⟨rfl, rfl⟩
       refine DL.one rfl (Eff.appendE (tc := 4) (sc := 153) (ms := [c]) Cl.c Tryz.underlying57 el38 rfl rfl rfl rfl hOc hnc (Own.one (l := c.c) rfl (Cl.one c) rfl).sl rfl (fun a _ => Cl.one a) (by decide) (by simp; omega) (by simp [maxLen]; omega)) rfl (by rintro _ _ ⟨Ha, pa, ca, rfl, hOa, rfl⟩; repeat (first | exact .nil | refine .cons rfl ?_)) ?_
       rintro _ _ ⟨Ha, pa, ca, rfl, hOa, rfl⟩
       refine DL.q rfl (Yld.nilP rfl) rfl ?_
       refine DL.q rfl (Yld.fieldAddr fo82_3 rfl) rfl ?_
       refine DL.one0 rfl (Eff.storeS (c := 2) _ sz57 rfl rfl rfl rfl rfl rfl rfl (by (try simp only [putAt, List.take, List.drop, List.nil_append, List.cons_append, List.append_nil, List.length_cons, List.length_nil, Nat.add_zero, Nat.zero_add, Nat.reduceAdd]); rfl)) (by rintro _ _ rfl; repeat (first | exact .nil | refine .cons rfl ?_)) ?_
       rintro _ _ rfl
       refine DL.done ?_
       refine N.next ?_
       refine W.keep .nil (.of [0, 1, 2, 3, 4, 5, 103, 153] rfl) ?_
       refine W.seq (W.region ?_)
       refine RL.q (Yld.assign rfl) rfl (RL.nil (N.next ?_))
       refine W.ret ?_
       exact N.retBy [1, 2, 3, 4, 5] (.cons (.tmp rfl) .nil) rfl rfl rfl rfl ⟨{ x with pc := pa, nc := _, cc := ca, HC := Ha }, by rw [hbp]; first | done | rfl, by rw [hbp]; exact ⟨hnu, rfl, hgn, hOu, hOa, hMp, hdn⟩, rfl⟩
     ·
      have hbp : (beginP (kdOf m c.it) t c) = (t, 0) := by
        rw [Bool.not_eq_false'] at hc46
        unfold beginP
        rw [if_neg (fun h => h hok), hfn]
        show (if stOf t.us i = 1 then _ else _) = _
        rw [stOf_get hu, if_neg hc29, if_pos hc46]
      refine W.skip ?_
      refine N.next ?_
      refine W.seq (W.region ?_)
      refine RL.q (Yld.assign rfl) rfl (RL.nil (N.next ?_))
      refine W.ret ?_
      exact N.retBy [1, 2, 3, 4, 5] (.cons (.tmp rfl) .nil) rfl rfl rfl rfl ⟨x, by rw [hbp]; first | done | rfl, by rw [hbp]; exact hx, rfl⟩
end Go.Proofs.YtboapdcmaeojgaaGreatDoor
namespace Go.Proofs.YtboapdcmaeojgaaGreatDoor
open SL Cat Fen
set_option linter.unusedVariables false
set_option linter.unusedSimpArgs false
theorem ent34 : Ent Tryz.prog 34 := ⟨_, _, Tryz.func34, by kernel_rfl, rfl⟩
theorem lay82 : layS Tryz.prog 82 = some ([.slice none 0 0, .slice none 0 0, .slice none 0 0, .slice none 0 0, .slice none 0 0, .slice none 0 0, .int .i64 0, .int .i64 0, .int .i64 0, .int .i64 0, .slice none 0 0, .int .i64 0, .slice none 0 0, .slice none 0 0, .int .i64 0, .map none], [(0, 11), (11, 1), (12, 1), (13, 1), (14, 1), (15, 1)]) := by kernel_rfl
theorem zc64 : zc Tryz.prog 64 [.string .empty, .int .i64 0, .int .i64 0, .int .i64 0, .int .i64 0, .int .i64 0, .slice none 0 0] := (by kernel_rfl : ((Tryz.prog.info? 64).bind (·.zero)).map (fun v => v.cells.toList) = some [.string .empty, .int .i64 0, .int .i64 0, .int .i64 0, .int .i64 0, .int .i64 0, .slice none 0 0])
set_option maxRecDepth 100000 in
set_option maxHeartbeats 3200000 in
theorem new_ct (m : Md) (H1 : PH) (hM : m.In H1) (hT : TabS H1) (mach : Int) (hv : MdV m) (h1 : 1 ≤ mach) (h2 : mach ≤ m.mc.length) : Ct Tryz.prog 13 [.agg [.slice m.psi m.si.length m.csi, .slice m.pfe m.fe.length m.cfe, .slice m.prk m.rk.length m.crk, .slice m.pmc m.mc.length m.cmc, .slice m.pln m.ln.length m.cln, .slice m.pis m.is.length m.cis, .int .i64 m.da, .int .i64 m.sl, .int .i64 m.re, .int .i64 m.fa, .slice m.prl m.rl.length m.crl].toArray, .int .i64 mach] [H1] (fun v Hs => ∃ (b : Nat) (x : Tb), v = .pointer (some ⟨b, 0, none⟩) ∧ x.Is (newT m mach) ∧ Hs = [H1, single b (.cells [.slice m.psi m.si.length m.csi, .slice m.pfe m.fe.length m.cfe, .slice m.prk m.rk.length m.crk, .slice m.pmc m.mc.length m.cmc, .slice m.pln m.ln.length m.cln, .slice m.pis m.is.length m.cis, .int .i64 m.da, .int .i64 m.sl, .int .i64 m.re, .int .i64 m.fa, .slice m.prl m.rl.length m.crl, .int .i64 mach, .slice x.pu x.nu x.cu, .slice x.pc x.nc x.cc, .int .i64 x.gen, .map (some x.d)].toArray 82 (0, 0)), x.HU, x.HC, single x.d (.map x.es x.ck)]) := by
  refine Ct.body Tryz.func13 rfl Tryz.ntmps13 rfl ?_
  intro E F
  have hMis := hM.is
  have hmi := hMis.len_le
  simp only [List.length_map, maxLen] at hmi
  have hn5 := hv.n5
  refine W.seq (W.region ?_)
  refine RL.e (Eff.box 102 _ rfl rfl) rfl ?_
  rintro _ _ ⟨b2, rfl, rfl⟩
  refine RL.q (Yld.assign rfl) rfl (RL.nil (N.next ?_))
  refine W.seq ?_
  refine W.seq (W.region ?_)
  refine RL.q (Yld.ldW 102 Tryz.underlying29 sz29 rfl rfl rfl rfl) rfl ?_
  refine RL.e (Eff.call ent34 [1] [1] (.cons rfl .nil) (valid_ct m H1 hM hT) rfl rfl rfl rfl (by rintro _ _ ⟨_, rfl⟩; rfl)) rfl ?_
  rintro _ _ ⟨_, ⟨rfl, rfl⟩, rfl⟩
  refine RL.q Yld.nt rfl (RL.q (Yld.move rfl) rfl ?_)
  refine' RL.or (t := 12) (d := 15) 3 rfl (.of [0, 1, 2, 4, 9, 10, 11] rfl) (.of [0, 1, 102] rfl) ?_ ?_ ?_
  rotate_left 1
  ·
   intro hg12
   refine RL.gq rfl rfl (Yld.move rfl) rfl ?_
   refine RL.gq rfl rfl (Yld.bin rfl rfl BinV.lss) rfl ?_
   refine RL.q Yld.pk rfl ?_
   exact RL.nil (N.meet (.to rfl) (.to rfl))
  ·
   intro hg12
   refine RL.gskip rfl rfl rfl rfl ?_
   refine RL.gskip rfl rfl rfl rfl ?_
   refine RL.q Yld.pk rfl ?_
   exact RL.nil (N.meet (.to rfl) (.to rfl))
  refine RL.q (Yld.move rfl) rfl ?_
  refine' RL.or (t := 16) (d := 22) 6 rfl (.of [0, 1, 2, 4, 9, 10, 11, 15] rfl) (.of [0, 1, 102] rfl) ?_ ?_ ?_
  rotate_left 1
  ·
   intro hg16
   refine RL.gq rfl rfl (Yld.move rfl) rfl ?_
   refine RL.gq rfl rfl (Yld.fieldAddr fo29_3 rfl) rfl ?_
   refine RL.gq rfl rfl (Yld.ld 102 Tryz.underlying24 rfl rfl rfl rfl) rfl ?_
   refine RL.gq rfl rfl (Yld.lenSl Tryz.underlying24 rfl) rfl ?_
   refine RL.gq rfl rfl (Yld.bin rfl rfl BinV.gtr) rfl ?_
   refine RL.q Yld.pk rfl ?_
   exact RL.nil (N.meet (.to rfl) (.to rfl))
  ·
   intro hg16
   refine RL.gskip rfl rfl rfl rfl ?_
   refine RL.gskip rfl rfl rfl rfl ?_
   refine RL.gskip rfl rfl rfl rfl ?_
   refine RL.gskip rfl rfl rfl rfl ?_
   refine RL.gskip rfl rfl rfl rfl ?_
   refine RL.q Yld.pk rfl ?_
   exact RL.nil (N.meet (.to rfl) (.to rfl))
  refine RL.nil (N.next ?_)
  refine W.keep (.of [1, 2, 22] rfl) (.of [0, 1, 102] rfl) ?_
  refine W.cond rfl (fun hc22 => ?_) (fun hc22 => ?_)
  ·
   have hno : ¬ (MdV m ∧ 1 ≤ mach ∧ mach ≤ m.mc.length) := fun h => by
     simp only [Bool.or_eq_true, Bool.not_eq_true', pB_f, decide_eq_true_eq] at hc22
     rcases hc22 with (h1 | h1) | h1
     · exact h1 h.1
     · omega
     · omega
   exact absurd ⟨hv, h1, h2⟩ hno --stop
  ·
   refine W.skip ?_
   refine N.next ?_
   refine W.seq ?_
   refine W.imp (Imp.empty _ 160) ?_
   refine W.imp (Imp.empty _ 161) ?_
   refine W.region ?_
   refine RL.q (Yld.ldW 102 Tryz.underlying29 sz29 rfl rfl rfl rfl) rfl ?_
   refine RL.q (Yld.move rfl) rfl ?_
   refine RL.e (Eff.makeMap 125) rfl ?_
   rintro _ _ ⟨b25, rfl, rfl⟩
   refine RL.q (Yld.buildP lay82 (.cons rfl rfl (.cons rfl rfl (.cons rfl rfl .nil))) rfl) rfl ?_
   refine RL.e (Eff.box 127 _ rfl rfl) rfl ?_
   rintro _ _ ⟨b27, rfl, rfl⟩
   refine RL.q (Yld.assign rfl) rfl (RL.nil (N.next ?_))
   refine W.keep (.of [1, 2, 5] rfl) (.of [0, 1, 102, 125, 127, 160, 161] rfl) ?_
   refine W.seq ?_
   refine W.seq (W.region ?_)
   refine RL.q (Yld.fieldAddr fo29_5 rfl) rfl ?_
   refine RL.q (Yld.ld 102 Tryz.underlying26 rfl rfl rfl rfl) rfl ?_
   refine RL.q (Yld.lenSl Tryz.underlying26 rfl) rfl ?_
   refine RL.q (Yld.move rfl) rfl (RL.nil (N.next ?_))
   refine W.block ?_
   refine W.loopK (ι := EO2) (fun z => (z.j ≤ m.is.length ∧ Own z.H z.p z.c 48 5 ((newN m.is mach z.j).map U.c))) (fun z => [(31, .int .i64 (z.j : Nat))]) (fun z => [(127, single b27 (.cells [.slice m.psi m.si.length m.csi, .slice m.pfe m.fe.length m.cfe, .slice m.prk m.rk.length m.crk, .slice m.pmc m.mc.length m.cmc, .slice m.pln m.ln.length m.cln, .slice m.pis m.is.length m.cis, .int .i64 m.da, .int .i64 m.sl, .int .i64 m.re, .int .i64 m.fa, .slice m.prl m.rl.length m.crl, .int .i64 mach, .slice z.p (newN m.is mach z.j).length z.c, .slice none 0 0, .int .i64 0, .map (some b25)].toArray 82 (0, 0))), (160, z.H)]) (fun z => m.is.length - z.j) (.of [1, 5, 29, 30] rfl) (.of [0, 1, 102, 125, 161] rfl) ⟨0, emp, none, 0⟩ ?_ ?_ ?_ ?_
   · exact ⟨Nat.zero_le _, Own.nil _ _⟩
   · exact (.as rfl (by first | rfl | (simp; done) | (congr 1; simp; done) | (congr 1; omega)) .nil)
   · exact (.to rfl)
   rintro z ⟨hj, hO⟩
   refine W.keep (.of [31, 1, 5, 29, 30] rfl) (.of [127, 160, 0, 1, 102, 125, 161] rfl) ?_
   refine W.seq (W.region ?_)
   refine RL.q (Yld.bin rfl rfl BinV.lss) rfl ?_
   refine RL.nil (N.next ?_)
   refine W.seq ?_
   first | refine W.condD rfl (fun hc32 => ?_) (fun hc32 => ?_) | (refine W.cond rfl (fun hc32 => ?_) (fun hc32 => ?_) <;> try simp only [Bool.or_eq_true, Bool.and_eq_true, Bool.not_eq_true', Bool.not_eq_false', decide_eq_true_eq, Bool.or_eq_false_iff, Bool.and_eq_false_iff, decide_eq_false_iff_not, beq_iff_eq, beq_eq_false_iff_ne, ne_eq, Decidable.not_not] at hc32)
   ·
    obtain ⟨x, hx⟩ : ∃ x, m.is[z.j]? = some x := ⟨_, List.getElem?_eq_getElem (show z.j < m.is.length by first | omega | (simp only [List.length_map] at *; omega))⟩
    have hlx : (m.is.map It.c)[z.j]? = some x.c := by simp [hx]
    have hnl := newN_le (is := m.is) (mach := mach) z.j
    refine W.skip ?_
    refine N.next ?_
    refine W.seq ?_
    refine W.block ?_
    refine W.seq (W.region ?_)
    refine RL.q (Yld.move rfl) rfl ?_
    refine RL.q (Yld.ixr Tryz.underlying26 sz64 rfl rfl) rfl ?_
    refine RL.q (by first | exact Yld.lrA 1 Tryz.underlying64 sz64 rfl rfl rfl | exact Yld.lrA 102 Tryz.underlying64 sz64 rfl rfl rfl | exact Yld.lrA 125 Tryz.underlying64 sz64 rfl rfl rfl | exact Yld.lrA 161 Tryz.underlying64 sz64 rfl rfl rfl | exact Yld.lrA 127 Tryz.underlying64 sz64 rfl rfl rfl | exact Yld.lrA 160 Tryz.underlying64 sz64 rfl rfl rfl) rfl ?_
    refine RL.e (Eff.alloc 107 zc64) rfl ?_
    rintro _ _ ⟨b7, rfl, rfl⟩
    refine RL.q (Yld.assign rfl) rfl ?_
    refine RL.e0 (Eff.storeS (c := 107) _ sz64 rfl rfl rfl rfl rfl rfl rfl (by (try simp only [putAt, List.take, List.drop, List.nil_append, List.cons_append, List.append_nil, List.length_cons, List.length_nil, Nat.add_zero, Nat.zero_add, Nat.reduceAdd]); rfl)) ?_
    rintro _ _ rfl
    refine RL.nil (N.next ?_)
    refine W.keep (.of [1, 5, 6, 7, 29, 30, 31] rfl) (.of [0, 1, 102, 107, 125, 127, 160, 161] rfl) ?_
    refine W.seq ?_
    refine W.seq (W.region ?_)
    refine RL.q (Yld.fieldAddr fo64_6 rfl) rfl ?_
    refine RL.q (Yld.ld 107 Tryz.underlying55 rfl rfl rfl rfl) rfl ?_
    refine RL.q (Yld.move rfl) rfl ?_
    refine RL.e (Eff.call ent35 [1] [1] (.cons rfl (.cons rfl .nil)) (contains_ct x.on _ _ _ (hM.on x (List.mem_of_getElem? hx)) mach) rfl rfl rfl rfl (by rintro _ _ ⟨_, rfl⟩; rfl)) rfl ?_
    rintro _ _ ⟨_, ⟨rfl, rfl⟩, rfl⟩
    refine RL.q Yld.nt rfl (RL.nil (N.next ?_))
    refine W.keep (.of [1, 5, 6, 7, 29, 30, 31, 40] rfl) (.of [0, 1, 102, 107, 125, 127, 160, 161] rfl) ?_
    first | refine W.condD rfl (fun hc40 => ?_) (fun hc40 => ?_) | (refine W.cond rfl (fun hc40 => ?_) (fun hc40 => ?_) <;> try simp only [Bool.or_eq_true, Bool.and_eq_true, Bool.not_eq_true', Bool.not_eq_false', decide_eq_true_eq, Bool.or_eq_false_iff, Bool.and_eq_false_iff, decide_eq_false_iff_not, beq_iff_eq, beq_eq_false_iff_ne, ne_eq, Decidable.not_not] at hc40)
    ·
     refine W.exit ?_
     refine N.then_exit ?_
     refine N.block_eq ?_
     refine N.next ?_
     refine W.region ?_
     refine RL.q (Yld.bin rfl rfl (by first | exact BinV.add (by omega) (by omega) | exact BinV.addW)) rfl ?_
     refine RL.q (Yld.move rfl) rfl (RL.nil ?_)
     exact N.famK ⟨z.j + 1, z.H, z.p, z.c⟩ ⟨⟨by dsimp only; omega, by dsimp only; rw [newN_out hx hc40]; exact hO⟩, by dsimp only; omega⟩ (.as rfl (by first | rfl | (simp; done) | (congr 1; simp; done) | (congr 1; omega)) .nil) (.to rfl) (.as rfl (by rw [newN_out hx hc40]) (.to rfl)) (.to rfl)
    ·
     refine W.skip ?_
     refine N.next ?_
     refine W.seq (W.region ?_)
     refine RL.q (Yld.move rfl) rfl ?_
     refine RL.q (Yld.bin rfl rfl (by first | exact BinV.add (by omega) (by omega) | exact BinV.addW)) rfl ?_
     refine RL.q (Yld.buildP lay48 (.cons rfl rfl .nil) rfl) rfl ?_
     refine RL.e (Eff.alloc 108 zc48) rfl ?_
     rintro _ _ ⟨b8, rfl, rfl⟩
     refine RL.e0 (Eff.storeS (c := 108) _ sz48 rfl rfl rfl rfl rfl rfl rfl (by (try simp only [putAt, List.take, List.drop, List.nil_append, List.cons_append, List.append_nil, List.length_cons, List.length_nil, Nat.add_zero, Nat.zero_add, Nat.reduceAdd]); rfl)) ?_
     rintro _ _ rfl
     refine RL.nil (N.next ?_)
     refine W.keep (.of [1, 5, 7, 8, 29, 30, 31] rfl) (.of [0, 1, 102, 107, 108, 125, 127, 160, 161] rfl) ?_
     refine W.seq ?_
     refine W.seq (W.region ?_)
     refine RL.q (Yld.fieldAddr fo64_1 rfl) rfl ?_
     refine RL.q (Yld.ld 107 Tryz.underlying3 rfl rfl rfl rfl) rfl ?_
     refine RL.q (Yld.bin rfl rfl BinV.eql) rfl ?_
     refine RL.nil (N.next ?_)
     first | refine W.condD rfl (fun hc46 => ?_) (fun hc46 => ?_) | (refine W.cond rfl (fun hc46 => ?_) (fun hc46 => ?_) <;> try simp only [Bool.or_eq_true, Bool.and_eq_true, Bool.not_eq_true', Bool.not_eq_false', decide_eq_true_eq, Bool.or_eq_false_iff, Bool.and_eq_false_iff, decide_eq_false_iff_not, beq_iff_eq, beq_eq_false_iff_ne, ne_eq, Decidable.not_not] at hc46)
     ·
      refine W.region ?_
      refine RL.q (Yld.move rfl) rfl ?_
      refine RL.q (Yld.fieldAddr fo48_1 rfl) rfl ?_
      refine RL.e0 (Eff.storeS (c := 108) _ sz3 rfl rfl rfl rfl rfl rfl rfl (by (try simp only [putAt, List.take, List.drop, List.nil_append, List.cons_append, List.append_nil, List.length_cons, List.length_nil, Nat.add_zero, Nat.zero_add, Nat.reduceAdd]); rfl)) ?_
      rintro _ _ rfl
      refine RL.nil (N.next ?_)
      refine W.keep (.of [1, 5, 8, 29, 30, 31] rfl) (.of [0, 1, 102, 107, 108, 125, 127, 160, 161] rfl) ?_
      refine W.draw (.q 0 (.q 1 (.q 2 (.q 3 (.q 5 (.two 4 (.one 6 (.one 7 (.q 8 (.q 9 (.one 10 .done))))) 6 (.one 4 (.one 7 (.q 8 (.q 9 (.one 10 .done))))))))))) (.of [0, 1, 102, 107, 108, 125, 161] rfl) mix (by kernel_rfl) (by kernel_rfl) ?_
      refine DL.q rfl (Yld.move rfl) rfl ?_
      refine DL.q rfl (Yld.move rfl) rfl ?_
      refine DL.q rfl (Yld.nilP rfl) rfl ?_
      refine DL.q rfl (Yld.fieldAddr fo82_2 rfl) rfl ?_
      refine DL.q rfl (Yld.ldW 108 Tryz.underlying48 sz48 rfl rfl rfl rfl) rfl ?_
      refine DL.two ?_ ?_
      ·
       refine DL.one rfl (Yld.eff (Yld.ld 127 Tryz.underlying41 rfl rfl rfl rfl)) rfl (by rintro _ _ ⟨rfl, rfl⟩; repeat (first | exact .nil | refine .cons rfl ?_)) ?_
       rintro _ _ ⟨rfl, rfl⟩
       refine DL.one rfl (Eff.buildSlice 155 Tryz.underlying41 sz48 zc48 rfl rfl (.cons rfl rfl .nil) rfl) rfl (by rintro _ _ ⟨b55, rfl, rfl⟩; repeat (first | exact .nil | refine .cons rfl ?_)) ?_
       rintro _ _ ⟨b55, rfl, rfl⟩
       refine DL.one rfl (Eff.appendE (tc := 160) (sc := 155) (ms := [newU mach z.j x]) U.c Tryz.underlying41 el48 rfl rfl rfl rfl hO rfl (Own.one (l := (newU mach z.j x).c) rfl (U.one _) (by unfold newU U.c; first | (rw [if_pos hc46]; rfl) | (rw [if_neg hc46]; rfl))).sl rfl (fun a _ => U.one a) (by decide) (by simp; omega) (by simp [maxLen]; omega)) rfl (by rintro _ _ ⟨Ha, pa, ca, rfl, hOa, rfl⟩; repeat (first | exact .nil | refine .cons rfl ?_)) ?_
       rintro _ _ ⟨Ha, pa, ca, rfl, hOa, rfl⟩
       refine DL.q rfl (Yld.nilP rfl) rfl ?_
       refine DL.q rfl (Yld.fieldAddr fo82_2 rfl) rfl ?_
       refine DL.one0 rfl (Eff.storeS (c := 127) _ sz41 rfl rfl rfl rfl rfl rfl rfl (by (try simp only [putAt, List.take, List.drop, List.nil_append, List.cons_append, List.append_nil, List.length_cons, List.length_nil, Nat.add_zero, Nat.zero_add, Nat.reduceAdd]); rfl)) (by rintro _ _ rfl; repeat (first | exact .nil | refine .cons rfl ?_)) ?_
       rintro _ _ rfl
       refine DL.done ?_
       refine N.block_normal ?_
       refine N.next ?_
       refine W.keep (.of [1, 5, 29, 30, 31] rfl) (.of [0, 1, 102, 107, 108, 125, 127, 155, 160, 161] rfl) ?_
       refine W.region ?_
       refine RL.q (Yld.bin rfl rfl (by first | exact BinV.add (by omega) (by omega) | exact BinV.addW)) rfl ?_
       refine RL.q (Yld.move rfl) rfl (RL.nil ?_)
       exact N.famK ⟨z.j + 1, Ha, pa, ca⟩ ⟨⟨by dsimp only; omega, by dsimp only; rw [newN_in hx (Classical.not_not.1 hc40)]; exact hOa⟩, by dsimp only; omega⟩ (.as rfl (by first | rfl | (simp; done) | (congr 1; simp; done) | (congr 1; omega)) .nil) (.to rfl) (.as rfl (by rw [newN_in hx (Classical.not_not.1 hc40)]) (.to rfl)) (.to rfl)
      ·
       refine DL.one rfl (Eff.buildSlice 155 Tryz.underlying41 sz48 zc48 rfl rfl (.cons rfl rfl .nil) rfl) rfl (by rintro _ _ ⟨b55, rfl, rfl⟩; repeat (first | exact .nil | refine .cons rfl ?_)) ?_
       rintro _ _ ⟨b55, rfl, rfl⟩
       refine DL.one rfl (Yld.eff (Yld.ld 127 Tryz.underlying41 rfl rfl rfl rfl)) rfl (by rintro _ _ ⟨rfl, rfl⟩; repeat (first | exact .nil | refine .cons rfl ?_)) ?_
       rintro _ _ ⟨rfl, rfl⟩
       refine DL.one rfl (Eff.appendE (tc := 160) (sc := 155) (ms := [newU mach z.j x]) U.c Tryz.underlying41 el48 rfl rfl rfl rfl hO rfl (Own.one (l := (newU mach z.j x).c) rfl (U.one _) (by unfold newU U.c; first | (rw [if_pos hc46]; rfl) | (rw [if_neg hc46]; rfl))).sl rfl (fun a _ => U.one a) (by decide) (by simp; omega) (by simp [maxLen]; omega)) rfl (by rintro _ _ ⟨Ha, pa, ca, rfl, hOa, rfl⟩; repeat (first | exact .nil | refine .cons rfl ?_)) ?_
       rintro _ _ ⟨Ha, pa, ca, rfl, hOa, rfl⟩
       refine DL.q rfl (Yld.nilP rfl) rfl ?_
       refine DL.q rfl (Yld.fieldAddr fo82_2 rfl) rfl ?_
       refine DL.one0 rfl (Eff.storeS (c := 127) _ sz41 rfl rfl rfl rfl rfl rfl rfl (by (try simp only [putAt, List.take, List.drop, List.nil_append, List.cons_append, List.append_nil, List.length_cons, List.length_nil, Nat.add_zero, Nat.zero_add, Nat.reduceAdd]); rfl)) (by rintro _ _ rfl; repeat (first | exact .nil | refine .cons rfl ?_)) ?_
       rintro _ _ rfl
       refine DL.done ?_
       refine N.block_normal ?_
       refine N.next ?_
       refine W.keep (.of [1, 5, 29, 30, 31] rfl) (.of [0, 1, 102, 107, 108, 125, 127, 155, 160, 161] rfl) ?_
       refine W.region ?_
       refine RL.q (Yld.bin rfl rfl (by first | exact BinV.add (by omega) (by omega) | exact BinV.addW)) rfl ?_
       refine RL.q (Yld.move rfl) rfl (RL.nil ?_)
       exact N.famK ⟨z.j + 1, Ha, pa, ca⟩ ⟨⟨by dsimp only; omega, by dsimp only; rw [newN_in hx (Classical.not_not.1 hc40)]; exact hOa⟩, by dsimp only; omega⟩ (.as rfl (by first | rfl | (simp; done) | (congr 1; simp; done) | (congr 1; omega)) .nil) (.to rfl) (.as rfl (by rw [newN_in hx (Classical.not_not.1 hc40)]) (.to rfl)) (.to rfl)
     ·
      refine W.skip ?_
      refine N.next ?_
      refine W.keep (.of [1, 5, 8, 29, 30, 31] rfl) (.of [0, 1, 102, 107, 108, 125, 127, 160, 161] rfl) ?_
      refine W.draw (.q 0 (.q 1 (.q 2 (.q 3 (.q 5 (.two 4 (.one 6 (.one 7 (.q 8 (.q 9 (.one 10 .done))))) 6 (.one 4 (.one 7 (.q 8 (.q 9 (.one 10 .done))))))))))) (.of [0, 1, 102, 107, 108, 125, 161] rfl) mix (by kernel_rfl) (by kernel_rfl) ?_
      refine DL.q rfl (Yld.move rfl) rfl ?_
      refine DL.q rfl (Yld.move rfl) rfl ?_
      refine DL.q rfl (Yld.nilP rfl) rfl ?_
      refine DL.q rfl (Yld.fieldAddr fo82_2 rfl) rfl ?_
      refine DL.q rfl (Yld.ldW 108 Tryz.underlying48 sz48 rfl rfl rfl rfl) rfl ?_
      refine DL.two ?_ ?_
      ·
       refine DL.one rfl (Yld.eff (Yld.ld 127 Tryz.underlying41 rfl rfl rfl rfl)) rfl (by rintro _ _ ⟨rfl, rfl⟩; repeat (first | exact .nil | refine .cons rfl ?_)) ?_
       rintro _ _ ⟨rfl, rfl⟩
       refine DL.one rfl (Eff.buildSlice 155 Tryz.underlying41 sz48 zc48 rfl rfl (.cons rfl rfl .nil) rfl) rfl (by rintro _ _ ⟨b55, rfl, rfl⟩; repeat (first | exact .nil | refine .cons rfl ?_)) ?_
       rintro _ _ ⟨b55, rfl, rfl⟩
       refine DL.one rfl (Eff.appendE (tc := 160) (sc := 155) (ms := [newU mach z.j x]) U.c Tryz.underlying41 el48 rfl rfl rfl rfl hO rfl (Own.one (l := (newU mach z.j x).c) rfl (U.one _) (by unfold newU U.c; first | (rw [if_pos hc46]; rfl) | (rw [if_neg hc46]; rfl))).sl rfl (fun a _ => U.one a) (by decide) (by simp; omega) (by simp [maxLen]; omega)) rfl (by rintro _ _ ⟨Ha, pa, ca, rfl, hOa, rfl⟩; repeat (first | exact .nil | refine .cons rfl ?_)) ?_
       rintro _ _ ⟨Ha, pa, ca, rfl, hOa, rfl⟩
       refine DL.q rfl (Yld.nilP rfl) rfl ?_
       refine DL.q rfl (Yld.fieldAddr fo82_2 rfl) rfl ?_
       refine DL.one0 rfl (Eff.storeS (c := 127) _ sz41 rfl rfl rfl rfl rfl rfl rfl (by (try simp only [putAt, List.take, List.drop, List.nil_append, List.cons_append, List.append_nil, List.length_cons, List.length_nil, Nat.add_zero, Nat.zero_add, Nat.reduceAdd]); rfl)) (by rintro _ _ rfl; repeat (first | exact .nil | refine .cons rfl ?_)) ?_
       rintro _ _ rfl
       refine DL.done ?_
       refine N.block_normal ?_
       refine N.next ?_
       refine W.keep (.of [1, 5, 29, 30, 31] rfl) (.of [0, 1, 102, 107, 108, 125, 127, 155, 160, 161] rfl) ?_
       refine W.region ?_
       refine RL.q (Yld.bin rfl rfl (by first | exact BinV.add (by omega) (by omega) | exact BinV.addW)) rfl ?_
       refine RL.q (Yld.move rfl) rfl (RL.nil ?_)
       exact N.famK ⟨z.j + 1, Ha, pa, ca⟩ ⟨⟨by dsimp only; omega, by dsimp only; rw [newN_in hx (Classical.not_not.1 hc40)]; exact hOa⟩, by dsimp only; omega⟩ (.as rfl (by first | rfl | (simp; done) | (congr 1; simp; done) | (congr 1; omega)) .nil) (.to rfl) (.as rfl (by rw [newN_in hx (Classical.not_not.1 hc40)]) (.to rfl)) (.to rfl)
      ·
       refine DL.one rfl (Eff.buildSlice 155 Tryz.underlying41 sz48 zc48 rfl rfl (.cons rfl rfl .nil) rfl) rfl (by rintro _ _ ⟨b55, rfl, rfl⟩; repeat (first | exact .nil | refine .cons rfl ?_)) ?_
       rintro _ _ ⟨b55, rfl, rfl⟩
       refine DL.one rfl (Yld.eff (Yld.ld 127 Tryz.underlying41 rfl rfl rfl rfl)) rfl (by rintro _ _ ⟨rfl, rfl⟩; repeat (first | exact .nil | refine .cons rfl ?_)) ?_
       rintro _ _ ⟨rfl, rfl⟩
       refine DL.one rfl (Eff.appendE (tc := 160) (sc := 155) (ms := [newU mach z.j x]) U.c Tryz.underlying41 el48 rfl rfl rfl rfl hO rfl (Own.one (l := (newU mach z.j x).c) rfl (U.one _) (by unfold newU U.c; first | (rw [if_pos hc46]; rfl) | (rw [if_neg hc46]; rfl))).sl rfl (fun a _ => U.one a) (by decide) (by simp; omega) (by simp [maxLen]; omega)) rfl (by rintro _ _ ⟨Ha, pa, ca, rfl, hOa, rfl⟩; repeat (first | exact .nil | refine .cons rfl ?_)) ?_
       rintro _ _ ⟨Ha, pa, ca, rfl, hOa, rfl⟩
       refine DL.q rfl (Yld.nilP rfl) rfl ?_
       refine DL.q rfl (Yld.fieldAddr fo82_2 rfl) rfl ?_
       refine DL.one0 rfl (Eff.storeS (c := 127) _ sz41 rfl rfl rfl rfl rfl rfl rfl (by (try simp only [putAt, List.take, List.drop, List.nil_append, List.cons_append, List.append_nil, List.length_cons, List.length_nil, Nat.add_zero, Nat.zero_add, Nat.reduceAdd]); rfl)) (by rintro _ _ rfl; repeat (first | exact .nil | refine .cons rfl ?_)) ?_
       rintro _ _ rfl
       refine DL.done ?_
       refine N.block_normal ?_
       refine N.next ?_
       refine W.keep (.of [1, 5, 29, 30, 31] rfl) (.of [0, 1, 102, 107, 108, 125, 127, 155, 160, 161] rfl) ?_
       refine W.region ?_
       refine RL.q (Yld.bin rfl rfl (by first | exact BinV.add (by omega) (by omega) | exact BinV.addW)) rfl ?_
       refine RL.q (Yld.move rfl) rfl (RL.nil ?_)
       exact N.famK ⟨z.j + 1, Ha, pa, ca⟩ ⟨⟨by dsimp only; omega, by dsimp only; rw [newN_in hx (Classical.not_not.1 hc40)]; exact hOa⟩, by dsimp only; omega⟩ (.as rfl (by first | rfl | (simp; done) | (congr 1; simp; done) | (congr 1; omega)) .nil) (.to rfl) (.as rfl (by rw [newN_in hx (Classical.not_not.1 hc40)]) (.to rfl)) (.to rfl)
   ·
    have hend : z.j = m.is.length := by omega
    rw [hend] at hO ⊢
    refine W.exit ?_
    refine N.then_exit ?_
    refine N.then_exit ?_
    refine N.block_eq ?_
    refine N.next ?_
    refine W.keep (.of [5] rfl) (.of [0, 1, 102, 125, 127, 160, 161] rfl) ?_
    refine W.seq (W.region ?_)
    refine RL.q (Yld.move rfl) rfl (RL.q (Yld.assign rfl) rfl (RL.nil (N.next ?_)))
    refine W.ret ?_
    exact N.retBy [1, 127, 160, 161, 125] (.cons (.tmp rfl) .nil) rfl rfl rfl rfl ⟨b27, ⟨z.p, _, z.c, z.H, none, 0, 0, emp, 0, b25, #[], 0, []⟩, rfl, ⟨rfl, rfl, rfl, hO, Own.nil _ _, MapP.empty _, fun s => rfl⟩, rfl⟩
end Go.Proofs.YtboapdcmaeojgaaGreatDoor
namespace Go.Proofs.YtboapdcmaeojgaaGreatDoor.Fen
open Cat SL
set_option linter.unusedVariables false
set_option linter.unusedSimpArgs false
structure Opn where
  kd : Int
  g : Int
  s : Int
  c : Cm
  cl : Cl
def Opn.cs (o : Opn) : List Value := [.int .i64 o.kd, .int .i64 o.g, .int .i64 o.s, .int .i64 o.c.kd, .int .i64 o.c.it, .int .i64 o.c.rp, .int .i64 o.c.va, .int .i64 o.cl.it, .int .i64 o.cl.cl, .int .i64 o.cl.nu, .int .i64 o.cl.va]
theorem kws_size : ∀ k ∈ kws, 2 ≤ k.size := by decide +kernel
theorem name1 (c : UInt8) (h1 : 97 ≤ c.toNat) (h2 : c.toNat ≤ 122) : NameOK ⟨#[c]⟩ := by
  have h0 : at_ ⟨#[c]⟩ 0 = c.toNat := rfl
  refine ⟨Nat.le_refl _, show 1 ≤ 31 by decide, ⟨by rw [h0]; omega, by rw [h0]; omega⟩, fun h => ?_, fun i hi => ?_⟩
  · have := kws_size _ h
    exact absurd this (show ¬ 2 ≤ 1 by decide)
  · have hi0 : i = 0 := Nat.lt_one_iff.1 hi
    subst hi0
    rw [h0]
    exact .inl ⟨by omega, by omega⟩
def exIt (nm : UInt8) (kd : Int) (p : Option Addr) : It := ⟨⟨#[nm]⟩, kd, 1, 0, 0, 1, p, [1], 1⟩
def exM (p1 p2 p3 p4 p5 q1 q2 q3 : Option Addr) : Md := ⟨p1, [⟨#[97]⟩], 1, p2, [⟨#[102]⟩], 1, p3, [⟨⟨#[114]⟩, 1, 1⟩], 1, p4, [⟨⟨#[109]⟩, 1, 0⟩], 1, none, [], 0, p5, [exIt 106 2 q1, exIt 112 1 q2, exIt 103 0 q3], 3, 1, 1, 0, 0, none, [], 0⟩
theorem exM_valid (p1 p2 p3 p4 p5 q1 q2 q3 : Option Addr) : MdV (exM p1 p2 p3 p4 p5 q1 q2 q3) where
  site := ⟨by simp [InR, exM, exIt], by simp [InR, exM, exIt], by simp [InR, exM, exIt], by simp [InR, exM, exIt], by simp [InR, exM, exIt],
    fun i x h => by
      rcases i with _ | i
      · simp [exM] at h; subst h
        exact ⟨by simp [InR, exM, exIt], by simp [InR, exM, exIt], fun k y hk => absurd hk (Nat.not_lt_zero _)⟩
      · simp [exM] at h,
    fun i x h => by
      rcases i with _ | i
      · simp [exM] at h; subst h
        exact ⟨by simp [InR, exM, exIt], by simp [InR, exM, exIt]⟩
      · simp [exM] at h,
    fun i x h => by simp [exM] at h⟩
  n5 := by simp [InR, exM, exIt]
  n6 := by simp [InR, exM, exIt]
  da := by simp [InR, exM, exIt]
  sl := by simp [InR, exM, exIt]
  re := by simp [InR, exM, exIt]
  fa := by simp [InR, exM, exIt]
  ns := by
    have e : namesOf (exM p1 p2 p3 p4 p5 q1 q2 q3) = [⟨#[97]⟩, ⟨#[102]⟩, ⟨#[114]⟩, ⟨#[109]⟩, ⟨#[106]⟩, ⟨#[112]⟩, ⟨#[103]⟩] := rfl
    unfold NsV
    rw [e]
    intro i s hi h
    rcases i with _ | _ | _ | _ | _ | _ | _ | i
    · cases h; exact ⟨name1 _ (by decide) (by decide), by simp⟩
    · cases h; exact ⟨name1 _ (by decide) (by decide), by simp⟩
    · cases h; exact ⟨name1 _ (by decide) (by decide), by simp⟩
    · cases h; exact ⟨name1 _ (by decide) (by decide), by simp⟩
    · cases h; exact ⟨name1 _ (by decide) (by decide), by simp⟩
    · cases h; exact ⟨name1 _ (by decide) (by decide), by simp⟩
    · cases h; exact ⟨name1 _ (by decide) (by decide), by simp⟩
    · cases h
  it := fun x hx => by
    have hms : MsV (exM p1 p2 p3 p4 p5 q1 q2 q3).mc.length [1] := ⟨show 0 < 1 by decide, fun i z hi h => by
      rcases i with _ | i
      · cases h; exact ⟨by simp [InR, exM, exIt], fun h => absurd h (Nat.lt_irrefl _)⟩
      · cases h⟩
    simp only [exM, List.mem_cons, List.not_mem_nil, or_false] at hx
    rcases hx with rfl | rfl | rfl
    · exact ⟨.inr (.inr ⟨rfl, rfl, rfl⟩), hms, by simp [InR, exM, exIt], by simp [InR, exM, exIt], by simp [InR, exM, exIt]⟩
    · exact ⟨.inr (.inl ⟨rfl, by simp [InR, exM, exIt]⟩), hms, by simp [InR, exM, exIt], by simp [InR, exM, exIt], by simp [InR, exM, exIt]⟩
    · exact ⟨.inl ⟨rfl, .inl rfl, rfl⟩, hms, by simp [InR, exM, exIt], by simp [InR, exM, exIt], by simp [InR, exM, exIt]⟩
  rl := fun x hx => by cases hx
section
variable {p1 p2 p3 p4 p5 q1 q2 q3 : Option Addr}
def exT (v s g : Int) (dn : List (Int × Int)) : T := ⟨[⟨1, 0, s, v, 0⟩, ⟨2, 0, 0, 0, 0⟩, ⟨3, 1, 0, 0, 0⟩], [], g, dn⟩
theorem ex_d1 : doP 2 1 (exT 2 0 0 []) 1 5 ⟨4, 1, 0, 0⟩ = (exT 2 2 1 [(5, 2)], 0, 2) := by decide +kernel
theorem ex_d2 : doP 2 1 (exT 2 2 1 [(5, 2)]) 1 5 ⟨4, 1, 0, 0⟩ = (exT 2 2 1 [(5, 2)], 0, 2) := by decide +kernel
theorem ex_d3 : doP 2 1 (exT 2 2 1 [(5, 2)]) 2 1 ⟨2, 1, 0, 0⟩ = (exT 2 0 2 [(1, 0)], 0, 0) := by decide +kernel
theorem ex_d4 : doP 2 1 (exT 2 0 2 [(1, 0)]) 1 6 ⟨5, 1, 0, 0⟩ = (exT 2 0 2 [(1, 0)], 12, 0) := by decide +kernel
end
end Go.Proofs.YtboapdcmaeojgaaGreatDoor.Fen
namespace Go.Proofs.YtboapdcmaeojgaaGreatDoor
open SL Cat Fen
set_option linter.unusedVariables false
set_option linter.unusedSimpArgs false
theorem eqg48 : Program.eqGuardType Tryz.prog (Program.depth Tryz.prog) 48 = false := by kernel_rfl
theorem sih48 : Program.stoodInHeld Tryz.prog 48 = false := by kernel_rfl
theorem eqg38 : Program.eqGuardType Tryz.prog (Program.depth Tryz.prog) 38 = false := by kernel_rfl
theorem sih38 : Program.stoodInHeld Tryz.prog 38 = false := by kernel_rfl
theorem ent19 : Ent Tryz.prog 19 := ⟨_, _, Tryz.func19, by kernel_rfl, rfl⟩
theorem lay64 : layS Tryz.prog 64 = some ([.string .empty, .int .i64 0, .int .i64 0, .int .i64 0, .int .i64 0, .int .i64 0, .slice none 0 0], [(0, 1), (1, 1), (2, 1), (3, 1), (4, 1), (5, 1), (6, 1)]) := by kernel_rfl
theorem ent65 : Ent Tryz.prog 65 := ⟨_, _, Tryz.func65, by kernel_rfl, rfl⟩
theorem zc29 : zc Tryz.prog 29 [.slice none 0 0, .slice none 0 0, .slice none 0 0, .slice none 0 0, .slice none 0 0, .slice none 0 0, .int .i64 0, .int .i64 0, .int .i64 0, .int .i64 0, .slice none 0 0] := (by kernel_rfl : ((Tryz.prog.info? 29).bind (·.zero)).map (fun v => v.cells.toList) = some [.slice none 0 0, .slice none 0 0, .slice none 0 0, .slice none 0 0, .slice none 0 0, .slice none 0 0, .int .i64 0, .int .i64 0, .int .i64 0, .int .i64 0, .slice none 0 0])
theorem lay93 : layS Tryz.prog 93 = some ([.string .empty, .int .i64 0, .int .i64 0], [(0, 1), (1, 1), (2, 1)]) := by kernel_rfl
theorem lay95 : layS Tryz.prog 95 = some ([.string .empty, .int .i64 0, .int .i64 0], [(0, 1), (1, 1), (2, 1)]) := by kernel_rfl
theorem lay29 : layS Tryz.prog 29 = some ([.slice none 0 0, .slice none 0 0, .slice none 0 0, .slice none 0 0, .slice none 0 0, .slice none 0 0, .int .i64 0, .int .i64 0, .int .i64 0, .int .i64 0, .slice none 0 0], [(0, 1), (1, 1), (2, 1), (3, 1), (4, 1), (5, 1), (6, 1), (7, 1), (8, 1), (9, 1), (10, 1)]) := by kernel_rfl
set_option maxRecDepth 100000 in
set_option maxHeartbeats 1600000 in
theorem sameU_ct (l k : List U) (H1 H2 : PH) (p q : Option Addr) (c d n1 n2 : Nat) (hn1 : n1 = l.length) (hn2 : n2 = k.length) (h1 : Sl H1 p c 5 (l.map U.c)) (h2 : Sl H2 q d 5 (k.map U.c)) : Ct Tryz.prog 17 [.slice p n1 c, .slice q n2 d] [H1, H2] (fun v Hs => v = .bool (decide (l = k)) ∧ Hs = [H1, H2]) := by
  refine Ct.body Tryz.func17 rfl Tryz.ntmps17 rfl ?_
  intro E F
  subst hn1; subst hn2
  have hmx1 := h1.len_le
  simp only [List.length_map, maxLen] at hmx1
  have hmx2 := h2.len_le
  simp only [List.length_map, maxLen] at hmx2
  refine W.seq (W.region ?_)
  refine RL.q (Yld.assign rfl) rfl (RL.nil (N.next ?_))
  refine W.seq ?_
  refine W.seq (W.region ?_)
  refine RL.q (Yld.move rfl) rfl ?_
  refine RL.q (Yld.lenSl Tryz.underlying41 rfl) rfl ?_
  refine RL.q (Yld.move rfl) rfl ?_
  refine RL.q (Yld.lenSl Tryz.underlying41 rfl) rfl ?_
  refine RL.q (Yld.bin rfl rfl BinV.neq) rfl ?_
  refine RL.nil (N.next ?_)
  refine W.keep (.of [0, 1, 10] rfl) (.of [0, 1, 2] rfl) ?_
  first | refine W.condD rfl (fun hc10 => ?_) (fun hc10 => ?_) | (refine W.cond rfl (fun hc10 => ?_) (fun hc10 => ?_) <;> try simp only [Bool.or_eq_true, Bool.and_eq_true, Bool.not_eq_true', Bool.not_eq_false', decide_eq_true_eq, Bool.or_eq_false_iff, Bool.and_eq_false_iff, decide_eq_false_iff_not, beq_iff_eq, beq_eq_false_iff_ne, ne_eq, Decidable.not_not] at hc10)
  ·
   refine W.seq (W.region ?_)
   refine RL.q (Yld.assign rfl) rfl (RL.nil (N.next ?_))
   refine W.ret ?_
   refine N.then_ret ?_
   exact N.retBy [1, 2] (.cons (.tmp rfl) .nil) rfl rfl rfl rfl ⟨by rw [decide_eq_false (fun e => by subst e; exact hc10 rfl)]; rfl, rfl⟩
  ·
   refine W.skip ?_
   refine N.next ?_
   refine W.seq ?_
   refine W.seq (W.region ?_)
   refine RL.q (Yld.assign rfl) rfl (RL.nil (N.next ?_))
   refine W.block ?_
   refine W.loopK (ι := Nat) (fun j => (j ≤ l.length ∧ ∀ (i : Nat), i < j → l[i]? = k[i]?)) (fun j => [(5, .int .i64 (j : Nat))]) (fun j => []) (fun j => l.length - j) (.of [0, 1] rfl) (.of [0, 1, 2] rfl) 0 ?_ ?_ ?_ ?_
   · exact ⟨Nat.zero_le _, fun _ h => absurd h (Nat.not_lt_zero _)⟩
   · exact (.as rfl (by first | rfl | (simp; done) | (congr 1; simp; done) | (congr 1; omega)) .nil)
   · exact .nil
   rintro j ⟨hj, hI⟩
   refine W.keep (.of [5, 0, 1] rfl) (.of [0, 1, 2] rfl) ?_
   refine W.seq ?_
   refine W.seq (W.region ?_)
   refine RL.q (Yld.move rfl) rfl (RL.q (Yld.move rfl) rfl ?_)
   refine RL.q (Yld.lenSl Tryz.underlying41 rfl) rfl ?_
   refine RL.q (Yld.bin rfl rfl BinV.lss) rfl ?_
   refine RL.nil (N.next ?_)
   first | refine W.condD rfl (fun hc14 => ?_) (fun hc14 => ?_) | (refine W.cond rfl (fun hc14 => ?_) (fun hc14 => ?_) <;> try simp only [Bool.or_eq_true, Bool.and_eq_true, Bool.not_eq_true', Bool.not_eq_false', decide_eq_true_eq, Bool.or_eq_false_iff, Bool.and_eq_false_iff, decide_eq_false_iff_not, beq_iff_eq, beq_eq_false_iff_ne, ne_eq, Decidable.not_not] at hc14)
   ·
    obtain ⟨x, hx⟩ : ∃ x, l[j]? = some x := ⟨_, List.getElem?_eq_getElem (show j < l.length by first | omega | (simp only [List.length_map] at *; omega))⟩
    have hlx : (l.map U.c)[j]? = some x.c := by simp [hx]
    obtain ⟨y, hy⟩ : ∃ y, k[j]? = some y := ⟨_, List.getElem?_eq_getElem (show j < k.length by first | omega | (simp only [List.length_map] at *; omega))⟩
    have hly : (k.map U.c)[j]? = some y.c := by simp [hy]
    refine W.skip ?_
    refine N.next ?_
    refine W.keep (.of [0, 1, 5] rfl) (.of [0, 1, 2] rfl) ?_
    refine W.seq ?_
    refine W.block ?_
    refine W.seq ?_
    refine W.draw (.q 0 (.q 1 (.q 2 (.q 3 (.q 4 (.q 5 (.q 6 (.q 7 (.q 8 .done))))))))) (.of [0, 1, 2] rfl) mix (by kernel_rfl) (by kernel_rfl) ?_
    refine DL.q rfl (Yld.move rfl) rfl ?_
    refine DL.q rfl (Yld.move rfl) rfl ?_
    refine DL.q rfl (Yld.ixr Tryz.underlying41 sz48 rfl rfl) rfl ?_
    refine DL.q rfl (by first | exact Yld.lrA 1 Tryz.underlying48 sz48 rfl rfl rfl | exact Yld.lrA 2 Tryz.underlying48 sz48 rfl rfl rfl) rfl ?_
    refine DL.q rfl (Yld.move rfl) rfl ?_
    refine DL.q rfl (Yld.move rfl) rfl ?_
    refine DL.q rfl (Yld.ixr Tryz.underlying41 sz48 rfl rfl) rfl ?_
    refine DL.q rfl (by first | exact Yld.lrA 1 Tryz.underlying48 sz48 rfl rfl rfl | exact Yld.lrA 2 Tryz.underlying48 sz48 rfl rfl rfl) rfl ?_
    refine DL.q rfl (Yld.bin rfl rfl (BinV.neqT eqg48 (EqV.struct Tryz.underlying48 sih48 (EqF.cons rfl (PartV.one Tryz.underlying3 rfl rfl) (PartV.one Tryz.underlying3 rfl rfl) (EqV.int Tryz.underlying3) (EqF.cons rfl (PartV.one Tryz.underlying3 rfl rfl) (PartV.one Tryz.underlying3 rfl rfl) (EqV.int Tryz.underlying3) (EqF.cons rfl (PartV.one Tryz.underlying3 rfl rfl) (PartV.one Tryz.underlying3 rfl rfl) (EqV.int Tryz.underlying3) (EqF.cons rfl (PartV.one Tryz.underlying2 rfl rfl) (PartV.one Tryz.underlying2 rfl rfl) (EqV.int Tryz.underlying2) (EqF.cons rfl (PartV.one Tryz.underlying3 rfl rfl) (PartV.one Tryz.underlying3 rfl rfl) (EqV.int Tryz.underlying3) EqF.nil)))))))) rfl ?_
    refine DL.done ?_
    refine N.next ?_
    refine W.keep (.of [0, 1, 5, 25] rfl) (.of [0, 1, 2] rfl) ?_
    refine W.cond rfl (fun hc25 => ?_) (fun hc25 => ?_)
    ·
     have hxy : x ≠ y := fun e => by subst e; simp at hc25
     refine W.seq (W.region ?_)
     refine RL.q (Yld.assign rfl) rfl (RL.nil (N.next ?_))
     refine W.keep (.of [4] rfl) (.of [0, 1, 2] rfl) ?_
     refine W.ret ?_
     refine N.block_ret ?_
     refine N.then_ret ?_
     refine N.then_ret ?_
     refine N.block_ret ?_
     refine N.then_ret ?_
     exact N.retBy [1, 2] (.cons (.tmp rfl) .nil) rfl rfl rfl rfl ⟨by rw [decide_eq_false (fun e => by subst e; rw [hx] at hy; cases hy; exact hxy rfl)]; rfl, rfl⟩
    ·
     have hxy : x = y := by
       cases x; cases y
       simp at hc25
       simp [hc25]
     refine W.skip ?_
     refine N.block_normal ?_
     refine N.next ?_
     refine W.region ?_
     refine RL.q (Yld.move rfl) rfl ?_
     refine RL.q (Yld.bin rfl rfl (by first | exact BinV.add (by omega) (by omega) | exact BinV.addW)) rfl ?_
     refine RL.q (Yld.assign rfl) rfl (RL.nil ?_)
     exact N.famK (j + 1) ⟨⟨by omega, fun i hi => (Nat.lt_succ_iff_lt_or_eq.1 hi).elim (fun h => hI i h) (fun e => by subst e; rw [hx, hy, hxy])⟩, by omega⟩ (.as rfl (by first | rfl | (simp; done) | (congr 1; simp; done) | (congr 1; omega)) .nil) (.to rfl) .nil (.to rfl)
   ·
    refine W.exit ?_
    refine N.then_exit ?_
    refine N.then_exit ?_
    refine N.block_eq ?_
    refine N.next ?_
    refine W.keep .nil (.of [0, 1, 2] rfl) ?_
    refine W.seq (W.region ?_)
    refine RL.q (Yld.assign rfl) rfl (RL.nil (N.next ?_))
    refine W.ret ?_
    exact N.retBy [1, 2] (.cons (.tmp rfl) .nil) rfl rfl rfl rfl ⟨by rw [decide_eq_true (List.ext_getElem? fun i => by by_cases h : i < l.length; exact hI i (by omega); rw [List.getElem?_eq_none (by omega), List.getElem?_eq_none (by omega)])]; rfl, rfl⟩
set_option maxRecDepth 100000 in
set_option maxHeartbeats 1600000 in
theorem sameC_ct (l k : List Cl) (H1 H2 : PH) (p q : Option Addr) (c d n1 n2 : Nat) (hn1 : n1 = l.length) (hn2 : n2 = k.length) (h1 : Sl H1 p c 4 (l.map Cl.c)) (h2 : Sl H2 q d 4 (k.map Cl.c)) : Ct Tryz.prog 27 [.slice p n1 c, .slice q n2 d] [H1, H2] (fun v Hs => v = .bool (decide (l = k)) ∧ Hs = [H1, H2]) := by
  refine Ct.body Tryz.func27 rfl Tryz.ntmps27 rfl ?_
  intro E F
  subst hn1; subst hn2
  have hmx1 := h1.len_le
  simp only [List.length_map, maxLen] at hmx1
  have hmx2 := h2.len_le
  simp only [List.length_map, maxLen] at hmx2
  refine W.seq (W.region ?_)
  refine RL.q (Yld.assign rfl) rfl (RL.nil (N.next ?_))
  refine W.seq ?_
  refine W.seq (W.region ?_)
  refine RL.q (Yld.move rfl) rfl ?_
  refine RL.q (Yld.lenSl Tryz.underlying57 rfl) rfl ?_
  refine RL.q (Yld.move rfl) rfl ?_
  refine RL.q (Yld.lenSl Tryz.underlying57 rfl) rfl ?_
  refine RL.q (Yld.bin rfl rfl BinV.neq) rfl ?_
  refine RL.nil (N.next ?_)
  refine W.keep (.of [0, 1, 10] rfl) (.of [0, 1, 2] rfl) ?_
  first | refine W.condD rfl (fun hc10 => ?_) (fun hc10 => ?_) | (refine W.cond rfl (fun hc10 => ?_) (fun hc10 => ?_) <;> try simp only [Bool.or_eq_true, Bool.and_eq_true, Bool.not_eq_true', Bool.not_eq_false', decide_eq_true_eq, Bool.or_eq_false_iff, Bool.and_eq_false_iff, decide_eq_false_iff_not, beq_iff_eq, beq_eq_false_iff_ne, ne_eq, Decidable.not_not] at hc10)
  ·
   refine W.seq (W.region ?_)
   refine RL.q (Yld.assign rfl) rfl (RL.nil (N.next ?_))
   refine W.ret ?_
   refine N.then_ret ?_
   exact N.retBy [1, 2] (.cons (.tmp rfl) .nil) rfl rfl rfl rfl ⟨by rw [decide_eq_false (fun e => by subst e; exact hc10 rfl)]; rfl, rfl⟩
  ·
   refine W.skip ?_
   refine N.next ?_
   refine W.seq ?_
   refine W.seq (W.region ?_)
   refine RL.q (Yld.assign rfl) rfl (RL.nil (N.next ?_))
   refine W.block ?_
   refine W.loopK (ι := Nat) (fun j => (j ≤ l.length ∧ ∀ (i : Nat), i < j → l[i]? = k[i]?)) (fun j => [(5, .int .i64 (j : Nat))]) (fun j => []) (fun j => l.length - j) (.of [0, 1] rfl) (.of [0, 1, 2] rfl) 0 ?_ ?_ ?_ ?_
   · exact ⟨Nat.zero_le _, fun _ h => absurd h (Nat.not_lt_zero _)⟩
   · exact (.as rfl (by first | rfl | (simp; done) | (congr 1; simp; done) | (congr 1; omega)) .nil)
   · exact .nil
   rintro j ⟨hj, hI⟩
   refine W.keep (.of [5, 0, 1] rfl) (.of [0, 1, 2] rfl) ?_
   refine W.seq ?_
   refine W.seq (W.region ?_)
   refine RL.q (Yld.move rfl) rfl (RL.q (Yld.move rfl) rfl ?_)
   refine RL.q (Yld.lenSl Tryz.underlying57 rfl) rfl ?_
   refine RL.q (Yld.bin rfl rfl BinV.lss) rfl ?_
   refine RL.nil (N.next ?_)
   first | refine W.condD rfl (fun hc14 => ?_) (fun hc14 => ?_) | (refine W.cond rfl (fun hc14 => ?_) (fun hc14 => ?_) <;> try simp only [Bool.or_eq_true, Bool.and_eq_true, Bool.not_eq_true', Bool.not_eq_false', decide_eq_true_eq, Bool.or_eq_false_iff, Bool.and_eq_false_iff, decide_eq_false_iff_not, beq_iff_eq, beq_eq_false_iff_ne, ne_eq, Decidable.not_not] at hc14)
   ·
    obtain ⟨x, hx⟩ : ∃ x, l[j]? = some x := ⟨_, List.getElem?_eq_getElem (show j < l.length by first | omega | (simp only [List.length_map] at *; omega))⟩
    have hlx : (l.map Cl.c)[j]? = some x.c := by simp [hx]
    obtain ⟨y, hy⟩ : ∃ y, k[j]? = some y := ⟨_, List.getElem?_eq_getElem (show j < k.length by first | omega | (simp only [List.length_map] at *; omega))⟩
    have hly : (k.map Cl.c)[j]? = some y.c := by simp [hy]
    refine W.skip ?_
    refine N.next ?_
    refine W.keep (.of [0, 1, 5] rfl) (.of [0, 1, 2] rfl) ?_
    refine W.seq ?_
    refine W.block ?_
    refine W.seq ?_
    refine W.draw (.q 0 (.q 1 (.q 2 (.q 3 (.q 4 (.q 5 (.q 6 (.q 7 (.q 8 .done))))))))) (.of [0, 1, 2] rfl) mix (by kernel_rfl) (by kernel_rfl) ?_
    refine DL.q rfl (Yld.move rfl) rfl ?_
    refine DL.q rfl (Yld.move rfl) rfl ?_
    refine DL.q rfl (Yld.ixr Tryz.underlying57 sz38 rfl rfl) rfl ?_
    refine DL.q rfl (by first | exact Yld.lrA 1 Tryz.underlying38 sz38 rfl rfl rfl | exact Yld.lrA 2 Tryz.underlying38 sz38 rfl rfl rfl) rfl ?_
    refine DL.q rfl (Yld.move rfl) rfl ?_
    refine DL.q rfl (Yld.move rfl) rfl ?_
    refine DL.q rfl (Yld.ixr Tryz.underlying57 sz38 rfl rfl) rfl ?_
    refine DL.q rfl (by first | exact Yld.lrA 1 Tryz.underlying38 sz38 rfl rfl rfl | exact Yld.lrA 2 Tryz.underlying38 sz38 rfl rfl rfl) rfl ?_
    refine DL.q rfl (Yld.bin rfl rfl (BinV.neqT eqg38 (EqV.struct Tryz.underlying38 sih38 (EqF.cons rfl (PartV.one Tryz.underlying3 rfl rfl) (PartV.one Tryz.underlying3 rfl rfl) (EqV.int Tryz.underlying3) (EqF.cons rfl (PartV.one Tryz.underlying3 rfl rfl) (PartV.one Tryz.underlying3 rfl rfl) (EqV.int Tryz.underlying3) (EqF.cons rfl (PartV.one Tryz.underlying3 rfl rfl) (PartV.one Tryz.underlying3 rfl rfl) (EqV.int Tryz.underlying3) (EqF.cons rfl (PartV.one Tryz.underlying2 rfl rfl) (PartV.one Tryz.underlying2 rfl rfl) (EqV.int Tryz.underlying2) EqF.nil))))))) rfl ?_
    refine DL.done ?_
    refine N.next ?_
    refine W.keep (.of [0, 1, 5, 25] rfl) (.of [0, 1, 2] rfl) ?_
    refine W.cond rfl (fun hc25 => ?_) (fun hc25 => ?_)
    ·
     have hxy : x ≠ y := fun e => by subst e; simp at hc25
     refine W.seq (W.region ?_)
     refine RL.q (Yld.assign rfl) rfl (RL.nil (N.next ?_))
     refine W.keep (.of [4] rfl) (.of [0, 1, 2] rfl) ?_
     refine W.ret ?_
     refine N.block_ret ?_
     refine N.then_ret ?_
     refine N.then_ret ?_
     refine N.block_ret ?_
     refine N.then_ret ?_
     exact N.retBy [1, 2] (.cons (.tmp rfl) .nil) rfl rfl rfl rfl ⟨by rw [decide_eq_false (fun e => by subst e; rw [hx] at hy; cases hy; exact hxy rfl)]; rfl, rfl⟩
    ·
     have hxy : x = y := by
       cases x; cases y
       simp at hc25
       simp [hc25]
     refine W.skip ?_
     refine N.block_normal ?_
     refine N.next ?_
     refine W.region ?_
     refine RL.q (Yld.move rfl) rfl ?_
     refine RL.q (Yld.bin rfl rfl (by first | exact BinV.add (by omega) (by omega) | exact BinV.addW)) rfl ?_
     refine RL.q (Yld.assign rfl) rfl (RL.nil ?_)
     exact N.famK (j + 1) ⟨⟨by omega, fun i hi => (Nat.lt_succ_iff_lt_or_eq.1 hi).elim (fun h => hI i h) (fun e => by subst e; rw [hx, hy, hxy])⟩, by omega⟩ (.as rfl (by first | rfl | (simp; done) | (congr 1; simp; done) | (congr 1; omega)) .nil) (.to rfl) .nil (.to rfl)
   ·
    refine W.exit ?_
    refine N.then_exit ?_
    refine N.then_exit ?_
    refine N.block_eq ?_
    refine N.next ?_
    refine W.keep .nil (.of [0, 1, 2] rfl) ?_
    refine W.seq (W.region ?_)
    refine RL.q (Yld.assign rfl) rfl (RL.nil (N.next ?_))
    refine W.ret ?_
    exact N.retBy [1, 2] (.cons (.tmp rfl) .nil) rfl rfl rfl rfl ⟨by rw [decide_eq_true (List.ext_getElem? fun i => by by_cases h : i < l.length; exact hI i (by omega); rw [List.getElem?_eq_none (by omega), List.getElem?_eq_none (by omega)])]; rfl, rfl⟩
set_option maxRecDepth 100000 in
set_option maxHeartbeats 1600000 in
theorem few_ct (m : Md) (H1 : PH) (hM : m.In H1) (mach most : Int) (q : Option Addr) (n d : Nat) : Ct Tryz.prog 11 [.agg [.slice m.psi m.si.length m.csi, .slice m.pfe m.fe.length m.cfe, .slice m.prk m.rk.length m.crk, .slice m.pmc m.mc.length m.cmc, .slice m.pln m.ln.length m.cln, .slice m.pis m.is.length m.cis, .int .i64 m.da, .int .i64 m.sl, .int .i64 m.re, .int .i64 m.fa, .slice m.prl m.rl.length m.crl].toArray, .int .i64 mach, .slice q n d, .int .i64 most] [H1] (fun v Hs => v = .bool (pB (MdV m) && decide (1 ≤ mach) && decide (mach ≤ m.mc.length) && decide ((n : Int) ≤ most)) ∧ Hs = [H1]) := by
  refine Ct.body Tryz.func11 rfl Tryz.ntmps11 rfl ?_
  intro E F
  refine W.seq (W.region ?_)
  refine RL.e (Eff.box 104 _ rfl rfl) rfl ?_
  rintro _ _ ⟨b4, rfl, rfl⟩
  refine RL.q (Yld.assign rfl) rfl (RL.nil (N.next ?_))
  refine W.seq (W.region ?_)
  refine RL.q (Yld.ldW 104 Tryz.underlying29 sz29 rfl rfl rfl rfl) rfl ?_
  refine RL.e (Eff.call ent19 [1] [1] (.cons rfl .nil) (rvalid_ct m H1 hM) rfl rfl rfl rfl (by rintro _ _ ⟨_, rfl⟩; rfl)) rfl ?_
  rintro _ _ ⟨_, ⟨rfl, rfl⟩, rfl⟩
  refine RL.q (Yld.move rfl) rfl ?_
  refine' RL.and (t := 11) (d := 14) 3 rfl (.of [0, 1, 2, 3, 4, 8, 9, 10] rfl) (.of [0, 1, 104] rfl) ?_ ?_ ?_
  rotate_left 1
  ·
   intro hg11
   refine RL.gq rfl rfl (Yld.move rfl) rfl ?_
   refine RL.gq rfl rfl (Yld.bin rfl rfl BinV.geq) rfl ?_
   refine RL.q Yld.pk rfl ?_
   exact RL.nil (N.meet (.to rfl) (.to rfl))
  ·
   intro hg11
   refine RL.gskip rfl rfl rfl rfl ?_
   refine RL.gskip rfl rfl rfl rfl ?_
   refine RL.q Yld.pk rfl ?_
   exact RL.nil (N.meet (.to rfl) (.to rfl))
  refine RL.q (Yld.move rfl) rfl ?_
  refine' RL.and (t := 15) (d := 21) 6 rfl (.of [0, 1, 2, 3, 4, 8, 9, 10, 14] rfl) (.of [0, 1, 104] rfl) ?_ ?_ ?_
  rotate_left 1
  ·
   intro hg15
   refine RL.gq rfl rfl (Yld.move rfl) rfl ?_
   refine RL.gq rfl rfl (Yld.fieldAddr fo29_3 rfl) rfl ?_
   refine RL.gq rfl rfl (Yld.ld 104 Tryz.underlying24 rfl rfl rfl rfl) rfl ?_
   refine RL.gq rfl rfl (Yld.lenSl Tryz.underlying24 rfl) rfl ?_
   refine RL.gq rfl rfl (Yld.bin rfl rfl BinV.leq) rfl ?_
   refine RL.q Yld.pk rfl ?_
   exact RL.nil (N.meet (.to rfl) (.to rfl))
  ·
   intro hg15
   refine RL.gskip rfl rfl rfl rfl ?_
   refine RL.gskip rfl rfl rfl rfl ?_
   refine RL.gskip rfl rfl rfl rfl ?_
   refine RL.gskip rfl rfl rfl rfl ?_
   refine RL.gskip rfl rfl rfl rfl ?_
   refine RL.q Yld.pk rfl ?_
   exact RL.nil (N.meet (.to rfl) (.to rfl))
  refine RL.q (Yld.move rfl) rfl ?_
  refine' RL.and (t := 22) (d := 27) 5 rfl (.of [0, 1, 2, 3, 4, 8, 9, 10, 14, 21] rfl) (.of [0, 1, 104] rfl) ?_ ?_ ?_
  rotate_left 1
  ·
   intro hg22
   refine RL.gq rfl rfl (Yld.move rfl) rfl ?_
   refine RL.gq rfl rfl (Yld.lenSl Tryz.underlying30 rfl) rfl ?_
   refine RL.gq rfl rfl (Yld.move rfl) rfl ?_
   refine RL.gq rfl rfl (Yld.bin rfl rfl BinV.leq) rfl ?_
   refine RL.q Yld.pk rfl ?_
   exact RL.nil (N.meet (.to rfl) (.to rfl))
  ·
   intro hg22
   refine RL.gskip rfl rfl rfl rfl ?_
   refine RL.gskip rfl rfl rfl rfl ?_
   refine RL.gskip rfl rfl rfl rfl ?_
   refine RL.gskip rfl rfl rfl rfl ?_
   refine RL.q Yld.pk rfl ?_
   exact RL.nil (N.meet (.to rfl) (.to rfl))
  refine RL.q (Yld.assign rfl) rfl (RL.nil (N.next ?_))
  refine W.keep (.of [8] rfl) (.of [0, 1, 104] rfl) ?_
  refine W.ret ?_
  exact N.retBy [1] (.cons (.tmp rfl) .nil) rfl rfl rfl rfl ⟨rfl, rfl⟩
set_option maxRecDepth 100000 in
set_option maxHeartbeats 400000 in
theorem exampleC_ct (nm : Ky) (kd : Int) : Ct Tryz.prog 65 [.string nm, .int .i64 kd] [] (fun v Hs => ∃ b, v = .agg [.string nm, .int .i64 kd, .int .i64 1, .int .i64 0, .int .i64 0, .int .i64 1, .slice (some ⟨b, 0, none⟩) 1 1].toArray ∧ Hs = [single b (.cells [.int .i64 1].toArray 3 (0, 0))]) := by
  refine Ct.body Tryz.func65 rfl Tryz.ntmps65 rfl ?_
  intro E F
  refine W.seq (W.region ?_)
  refine RL.e (Eff.alloc 104 zc64) rfl ?_
  rintro _ _ ⟨b4, rfl, rfl⟩
  refine RL.nil (N.next ?_)
  refine W.seq (W.region ?_)
  refine RL.q (Yld.move rfl) rfl (RL.q (Yld.move rfl) rfl ?_)
  refine RL.e (Eff.buildSlice 107 Tryz.underlying55 sz3 zc3 rfl rfl (.cons rfl rfl .nil) rfl) rfl ?_
  rintro _ _ ⟨b7, rfl, rfl⟩
  refine RL.q (Yld.buildP lay64 (.cons rfl rfl (.cons rfl rfl (.cons rfl rfl (.cons rfl rfl (.cons rfl rfl .nil))))) rfl) rfl ?_
  refine RL.e0 (Eff.storeS (c := 104) _ sz64 rfl rfl rfl rfl rfl rfl rfl (by (try simp only [putAt, List.take, List.drop, List.nil_append, List.cons_append, List.append_nil, List.length_cons, List.length_nil, Nat.add_zero, Nat.zero_add, Nat.reduceAdd]); rfl)) ?_
  rintro _ _ rfl
  refine RL.nil (N.next ?_)
  refine W.keep (.of [4] rfl) (.of [0, 104, 107] rfl) ?_
  refine W.ret ?_
  exact N.retBy [107] (.cons (by first | exact .cell (c := 104) rfl rfl (fun w hs => run_loadVarA Tryz.underlying64 rfl sz64 rfl (fun j u hj => by rw [Nat.zero_add, PH.sub.cell hs (by first | exact single_self _ _ | exact pset_self _ _ _ | assumption)]; exact hj))) .nil) rfl rfl rfl rfl ⟨_, rfl, rfl⟩
set_option maxRecDepth 100000 in
set_option maxHeartbeats 3200000 in
theorem example_ct  : Ct Tryz.prog 33 [] [] (fun v Hs => ∃ p1 p2 p3 p4 p5 q1 q2 q3 H', v = .agg (exM p1 p2 p3 p4 p5 q1 q2 q3).c.toArray ∧ (exM p1 p2 p3 p4 p5 q1 q2 q3).In H' ∧ Hs = [H']) := by
  refine Ct.body Tryz.func33 rfl Tryz.ntmps33 rfl ?_
  intro E F
  refine W.seq (W.region ?_)
  refine RL.e (Eff.alloc 100 zc29) rfl ?_
  rintro _ _ ⟨b0, rfl, rfl⟩
  refine RL.nil (N.next ?_)
  refine W.seq (W.region ?_)
  refine RL.q (Yld.assign rfl) rfl (RL.nil (N.next ?_))
  refine W.seq (W.region ?_)
  refine RL.e (Eff.buildSlice 102 Tryz.underlying22 sz9 zc9 rfl rfl (.cons rfl rfl .nil) rfl) rfl ?_
  rintro _ _ ⟨b2, rfl, rfl⟩
  refine RL.e (Eff.buildSlice 103 Tryz.underlying22 sz9 zc9 rfl rfl (.cons rfl rfl .nil) rfl) rfl ?_
  rintro _ _ ⟨b3, rfl, rfl⟩
  refine RL.q (Yld.buildP lay93 (.cons rfl rfl (.cons rfl rfl (.cons rfl rfl .nil))) rfl) rfl ?_
  refine RL.e (Eff.buildSlice 105 Tryz.underlying23 sz93 zc93 rfl rfl (.cons rfl rfl .nil) rfl) rfl ?_
  rintro _ _ ⟨b5, rfl, rfl⟩
  refine RL.q (Yld.buildP lay95 (.cons rfl rfl (.cons rfl rfl .nil)) rfl) rfl ?_
  refine RL.e (Eff.buildSlice 107 Tryz.underlying24 sz95 zc95 rfl rfl (.cons rfl rfl .nil) rfl) rfl ?_
  rintro _ _ ⟨b7, rfl, rfl⟩
  refine RL.q (Yld.move rfl) rfl ?_
  refine RL.e (Eff.callV ent65 [] [151] rfl (.cons rfl (.cons rfl .nil)) (exampleC_ct ⟨#[106]⟩ 2) rfl rfl rfl rfl (by rintro _ _ ⟨_, _, rfl⟩; rfl)) rfl ?_
  rintro _ _ ⟨_, ⟨e1, rfl, rfl⟩, rfl⟩
  refine RL.q (Yld.move rfl) rfl ?_
  refine RL.e (Eff.callV ent65 [] [152] rfl (.cons rfl (.cons rfl .nil)) (exampleC_ct ⟨#[112]⟩ 1) rfl rfl rfl rfl (by rintro _ _ ⟨_, _, rfl⟩; rfl)) rfl ?_
  rintro _ _ ⟨_, ⟨e2, rfl, rfl⟩, rfl⟩
  refine RL.q (Yld.move rfl) rfl ?_
  refine RL.e (Eff.callV ent65 [] [153] rfl (.cons rfl (.cons rfl .nil)) (exampleC_ct ⟨#[103]⟩ 0) rfl rfl rfl rfl (by rintro _ _ ⟨_, _, rfl⟩; rfl)) rfl ?_
  rintro _ _ ⟨_, ⟨e3, rfl, rfl⟩, rfl⟩
  refine RL.e (Eff.buildSlice 114 Tryz.underlying26 sz64 zc64 rfl rfl (.cons rfl rfl (.cons rfl rfl (.cons rfl rfl .nil))) rfl) rfl ?_
  rintro _ _ ⟨b14, rfl, rfl⟩
  refine RL.q (Yld.buildP lay29 (.cons rfl rfl (.cons rfl rfl (.cons rfl rfl (.cons rfl rfl (.cons rfl rfl (.cons rfl rfl (.cons rfl rfl .nil))))))) rfl) rfl ?_
  refine RL.e0 (Eff.storeS (c := 100) _ sz29 rfl rfl rfl rfl rfl rfl rfl (by (try simp only [putAt, List.take, List.drop, List.nil_append, List.cons_append, List.append_nil, List.length_cons, List.length_nil, Nat.add_zero, Nat.zero_add, Nat.reduceAdd]); rfl)) ?_
  rintro _ _ rfl
  refine RL.nil (N.next ?_)
  refine W.keep (.of [0] rfl) (.of [0, 100, 102, 103, 105, 107, 114, 151, 152, 153] rfl) ?_
  refine W.ret ?_
  refine N.merge 102 103 rfl rfl rfl fun ha0 => ?_
  refine N.merge 102 105 rfl rfl rfl fun ha1 => ?_
  refine N.merge 102 107 rfl rfl rfl fun ha2 => ?_
  refine N.merge 102 114 rfl rfl rfl fun ha3 => ?_
  refine N.merge 102 151 rfl rfl rfl fun ha4 => ?_
  refine N.merge 102 152 rfl rfl rfl fun ha5 => ?_
  refine N.merge 102 153 rfl rfl rfl fun ha6 => ?_
  exact N.retBy [102] (.cons (by first | exact .cell (c := 100) rfl rfl (fun w hs => run_loadVarA Tryz.underlying29 rfl sz29 rfl (fun j u hj => by rw [Nat.zero_add, PH.sub.cell hs (by first | exact single_self _ _ | exact pset_self _ _ _ | assumption)]; exact hj))) .nil) rfl rfl rfl rfl ⟨(some ⟨b2, 0, none⟩), (some ⟨b3, 0, none⟩), (some ⟨b5, 0, none⟩), (some ⟨b7, 0, none⟩), (some ⟨b14, 0, none⟩), (some ⟨e1, 0, none⟩), (some ⟨e2, 0, none⟩), (some ⟨e3, 0, none⟩), _, rfl, ⟨((((((((Own.one (e := 9) (l := [Value.string ⟨#[97]⟩]) rfl (by simp [Value.oneCell']) rfl).sl).mono hjoin_l).mono hjoin_l).mono hjoin_l).mono hjoin_l).mono hjoin_l).mono hjoin_l).mono hjoin_l, ((((((((Own.one (e := 9) (l := [Value.string ⟨#[102]⟩]) rfl (by simp [Value.oneCell']) rfl).sl).mono ha0).mono hjoin_l).mono hjoin_l).mono hjoin_l).mono hjoin_l).mono hjoin_l).mono hjoin_l, (((((((Own.one (e := 93) (l := [Value.string ⟨#[114]⟩, .int .i64 1, .int .i64 1]) rfl (by simp [Value.oneCell']) rfl).sl).mono ha1).mono hjoin_l).mono hjoin_l).mono hjoin_l).mono hjoin_l).mono hjoin_l, ((((((Own.one (e := 95) (l := [Value.string ⟨#[109]⟩, .int .i64 1, .int .i64 0]) rfl (by simp [Value.oneCell']) rfl).sl).mono ha2).mono hjoin_l).mono hjoin_l).mono hjoin_l).mono hjoin_l, (Own.nil 162 3).sl.mono (fun _ _ h => nomatch h), (((((Own.mk (e := 64) (n := 7) (c := 3) (ls := [exIt 106 2 (some ⟨e1, 0, none⟩), exIt 112 1 (some ⟨e2, 0, none⟩), exIt 103 0 (some ⟨e3, 0, none⟩)].map It.c) [] (by intro l hl; obtain ⟨x, hx, rfl⟩ := List.mem_map.1 hl; simp only [List.mem_cons, List.not_mem_nil, or_false] at hx; rcases hx with rfl | rfl | rfl <;> exact ⟨rfl, by simp [It.c, exIt, Value.oneCell']⟩) (by simp) (by simp [maxLen]) (by rfl) (by rfl)).sl).mono ha3).mono hjoin_l).mono hjoin_l).mono hjoin_l, (Own.nil 97 7).sl.mono (fun _ _ h => nomatch h), fun x hx => by
    simp only [exM, List.mem_cons, List.not_mem_nil, or_false] at hx
    rcases hx with rfl | rfl | rfl
    · exact ((((Own.one (e := 3) (l := [Value.int .i64 1]) rfl (by simp [Value.oneCell']) rfl).sl).mono ha4).mono hjoin_l).mono hjoin_l
    · exact (((Own.one (e := 3) (l := [Value.int .i64 1]) rfl (by simp [Value.oneCell']) rfl).sl).mono ha5).mono hjoin_l
    · exact ((Own.one (e := 3) (l := [Value.int .i64 1]) rfl (by simp [Value.oneCell']) rfl).sl).mono ha6, fun x hx => nomatch hx⟩, rfl⟩
end Go.Proofs.YtboapdcmaeojgaaGreatDoor
namespace Go.Proofs.YtboapdcmaeojgaaGreatDoor
open SL Cat Fen
set_option linter.unusedVariables false
set_option linter.unusedSimpArgs false
theorem ent33 : Ent Tryz.prog 33 := ⟨_, _, Tryz.func33, by kernel_rfl, rfl⟩
theorem ent13 : Ent Tryz.prog 13 := ⟨_, _, Tryz.func13, by kernel_rfl, rfl⟩
theorem ent23 : Ent Tryz.prog 23 := ⟨_, _, Tryz.func23, by kernel_rfl, rfl⟩
theorem lay36 : layS Tryz.prog 36 = some ([.int .i64 0, .int .i64 0, .int .i64 0, .int .i64 0], [(0, 1), (1, 1), (2, 1), (3, 1)]) := by kernel_rfl
theorem ent15 : Ent Tryz.prog 15 := ⟨_, _, Tryz.func15, by kernel_rfl, rfl⟩
theorem exTI {p1 p2 p3 p4 p5 q1 q2 q3 : Option Addr} (v s g : Int) (dn : List (Int × Int)) (hs : s = 0 ∨ s = 2) : TI (exM p1 p2 p3 p4 p5 q1 q2 q3) 1 (exT v s g dn) := by
  refine ⟨⟨fun u hu => ?_, ?_⟩, fun u hu => ?_⟩
  · simp only [exT, List.mem_cons, List.not_mem_nil, or_false] at hu
    rcases hu with rfl | rfl | rfl
    · exact ⟨rfl, .inr (.inr ⟨rfl, rfl, hs⟩)⟩
    · exact ⟨rfl, .inr (.inl ⟨rfl, rfl, .inl rfl, rfl⟩)⟩
    · exact ⟨rfl, .inl ⟨rfl, Int.le_refl _, rfl, .inl rfl, rfl⟩⟩
  · simp [exT, R]
  · simp only [exT, List.mem_cons, List.not_mem_nil, or_false] at hu
    rcases hu with rfl | rfl | rfl <;> simp only <;> omega
set_option maxRecDepth 100000 in
set_option maxHeartbeats 6400000 in
theorem awake_ct (H1 : PH) (hT : TabS H1) : Ct Tryz.prog 12 [] [H1] (fun v Hs => v = .bool true ∧ Hs = [H1]) := by
  refine Ct.body Tryz.func12 rfl Tryz.ntmps12 rfl ?_
  intro E F
  refine W.seq (W.region ?_)
  refine RL.q (Yld.assign rfl) rfl (RL.nil (N.next ?_))
  refine W.seq (W.region ?_)
  refine RL.e (Eff.call ent33 [] [150] .nil example_ct rfl rfl rfl rfl (by rintro _ _ ⟨_, _, _, _, _, _, _, _, _, _, _, rfl⟩; rfl)) rfl ?_
  rintro _ _ ⟨_, ⟨p1, p2, p3, p4, p5, q1, q2, q3, K0, rfl, hME, rfl⟩, rfl⟩
  refine RL.merge 1 150 rfl rfl rfl fun ha0 => ?_
  have hM2 : (exM p1 p2 p3 p4 p5 q1 q2 q3).In (hjoin H1 K0) := hME.mono ha0
  have hT2 : TabS (hjoin H1 K0) := hT.mono hjoin_l
  have hV := exM_valid p1 p2 p3 p4 p5 q1 q2 q3
  refine RL.e (Eff.call ent13 [1] [1, 171, 172, 173, 174] (.cons rfl (.cons rfl .nil)) (new_ct (exM p1 p2 p3 p4 p5 q1 q2 q3) (hjoin H1 K0) hM2 hT2 1 hV (by decide) (by simp [exM])) rfl rfl rfl rfl (by rintro _ _ ⟨_, _, _, _, rfl⟩; rfl)) rfl ?_
  rintro _ _ ⟨_, ⟨bt, x0, rfl, hx0, rfl⟩, rfl⟩
  replace hx0 : x0.Is (exT 0 0 0 []) := hx0
  refine RL.q (Yld.assign rfl) rfl (RL.nil (N.next ?_))
  refine W.seq ?_
  refine W.seq (W.region ?_)
  refine RL.q (Yld.move rfl) rfl ?_
  refine RL.q (Yld.bin rfl rfl (BinV.eqlPN Tryz.underlying33)) rfl ?_
  refine RL.nil (N.next ?_)
  refine W.keep (.of [1, 13] rfl) (.of [0, 1, 150, 171, 172, 173, 174] rfl) ?_
  first | (refine W.as (t := 13) rfl (boolF (by first | assumption | omega | (simp; done))) ?_; refine W.condF rfl ?_) | refine W.condF rfl ?_
  refine W.skip ?_
  refine N.next ?_
  refine W.seq (W.region ?_)
  refine RL.q (Yld.move rfl) rfl ?_
  refine RL.e (Eff.call ent23 [1, 171, 172, 173, 174] [1, 171, 172, 173, 174, 175] (.cons rfl .nil) (tick_ct (exM p1 p2 p3 p4 p5 q1 q2 q3) (hjoin H1 K0) hM2 1 bt (exT 0 0 0 []) x0 hx0) rfl rfl rfl rfl (by rintro _ _ ⟨_, _, _, rfl⟩; rfl)) rfl ?_
  rintro _ _ ⟨_, ⟨x1, rfl, hx1, rfl⟩, rfl⟩
  replace hx1 : x1.Is (exT 1 0 0 []) := hx1
  refine RL.nil (N.next ?_)
  refine W.seq (W.region ?_)
  refine RL.q (Yld.move rfl) rfl ?_
  refine RL.e (Eff.call ent23 [1, 171, 172, 173, 174] [1, 171, 172, 173, 174, 175] (.cons rfl .nil) (tick_ct (exM p1 p2 p3 p4 p5 q1 q2 q3) (hjoin H1 K0) hM2 1 bt (exT 1 0 0 []) x1 hx1) rfl rfl rfl rfl (by rintro _ _ ⟨_, _, _, rfl⟩; rfl)) rfl ?_
  rintro _ _ ⟨_, ⟨x2, rfl, hx2, rfl⟩, rfl⟩
  replace hx2 : x2.Is (exT 2 0 0 []) := hx2
  refine RL.nil (N.next ?_)
  refine W.keep (.of [1] rfl) (.of [0, 1, 150, 171, 172, 173, 174, 175] rfl) ?_
  refine W.seq (W.region ?_)
  refine RL.q (Yld.move rfl) rfl ?_
  refine RL.q (Yld.buildP lay36 (.cons rfl rfl (.cons rfl rfl .nil)) rfl) rfl ?_
  refine RL.e (Eff.call ent15 [1, 171, 172, 173, 174] [1, 171, 172, 173, 174] (.cons rfl (.cons rfl (.cons rfl (.cons rfl .nil)))) (do_ct (exM p1 p2 p3 p4 p5 q1 q2 q3) (hjoin H1 K0) hM2 1 bt (exT 2 0 0 []) x2 hx2 1 5 ⟨4, 1, 0, 0⟩ hV (exTI 2 0 0 [] (.inl rfl)) (by decide) (by decide)) rfl rfl rfl rfl (by rintro _ _ ⟨_, _, _, rfl⟩; rfl)) rfl ?_
  rintro _ _ ⟨_, ⟨x3, rfl, hx3, rfl⟩, rfl⟩
  have hdx3 : doP (kdOf (exM p1 p2 p3 p4 p5 q1 q2 q3) (Cm.it ⟨4, 1, 0, 0⟩)) 1 (exT 2 0 0 []) 1 5 ⟨4, 1, 0, 0⟩ = (exT 2 2 1 [(5, 2)], 0, 2) := ex_d1
  rw [hdx3] at hx3 ⊢
  replace hx3 : x3.Is (exT 2 2 1 [(5, 2)]) := hx3
  refine RL.q (Yld.move rfl) rfl ?_
  refine RL.q (Yld.extract rfl rfl) rfl ?_
  refine RL.q (Yld.extract rfl rfl) rfl ?_
  refine RL.q (Yld.assign rfl) rfl (RL.q (Yld.assign rfl) rfl (RL.nil (N.next ?_)))
  refine W.keep (.of [1, 2, 3] rfl) (.of [0, 1, 150, 171, 172, 173, 174, 175] rfl) ?_
  refine W.seq (W.region ?_)
  refine RL.q (Yld.move rfl) rfl ?_
  refine RL.e (Eff.call ent23 [1, 171, 172, 173, 174] [1, 171, 172, 173, 174, 175] (.cons rfl .nil) (tick_ct (exM p1 p2 p3 p4 p5 q1 q2 q3) (hjoin H1 K0) hM2 1 bt (exT 2 2 1 [(5, 2)]) x3 hx3) rfl rfl rfl rfl (by rintro _ _ ⟨_, _, _, rfl⟩; rfl)) rfl ?_
  rintro _ _ ⟨_, ⟨x4, rfl, hx4, rfl⟩, rfl⟩
  replace hx4 : x4.Is (exT 2 2 1 [(5, 2)]) := hx4
  refine RL.nil (N.next ?_)
  refine W.seq (W.region ?_)
  refine RL.q (Yld.move rfl) rfl ?_
  refine RL.q (Yld.buildP lay36 (.cons rfl rfl (.cons rfl rfl .nil)) rfl) rfl ?_
  refine RL.e (Eff.call ent15 [1, 171, 172, 173, 174] [1, 171, 172, 173, 174] (.cons rfl (.cons rfl (.cons rfl (.cons rfl .nil)))) (do_ct (exM p1 p2 p3 p4 p5 q1 q2 q3) (hjoin H1 K0) hM2 1 bt (exT 2 2 1 [(5, 2)]) x4 hx4 1 5 ⟨4, 1, 0, 0⟩ hV (exTI 2 2 1 [(5, 2)] (.inr rfl)) (by decide) (by decide)) rfl rfl rfl rfl (by rintro _ _ ⟨_, _, _, rfl⟩; rfl)) rfl ?_
  rintro _ _ ⟨_, ⟨x5, rfl, hx5, rfl⟩, rfl⟩
  have hdx5 : doP (kdOf (exM p1 p2 p3 p4 p5 q1 q2 q3) (Cm.it ⟨4, 1, 0, 0⟩)) 1 (exT 2 2 1 [(5, 2)]) 1 5 ⟨4, 1, 0, 0⟩ = (exT 2 2 1 [(5, 2)], 0, 2) := ex_d2
  rw [hdx5] at hx5 ⊢
  replace hx5 : x5.Is (exT 2 2 1 [(5, 2)]) := hx5
  refine RL.q (Yld.move rfl) rfl ?_
  refine RL.q (Yld.extract rfl rfl) rfl ?_
  refine RL.q (Yld.extract rfl rfl) rfl ?_
  refine RL.q (Yld.assign rfl) rfl (RL.q (Yld.assign rfl) rfl (RL.nil (N.next ?_)))
  refine W.keep (.of [1, 2, 3, 4, 5] rfl) (.of [0, 1, 150, 171, 172, 173, 174, 175] rfl) ?_
  refine W.seq (W.region ?_)
  refine RL.q (Yld.move rfl) rfl ?_
  refine RL.q (Yld.buildP lay36 (.cons rfl rfl (.cons rfl rfl .nil)) rfl) rfl ?_
  refine RL.e (Eff.call ent15 [1, 171, 172, 173, 174] [1, 171, 172, 173, 174] (.cons rfl (.cons rfl (.cons rfl (.cons rfl .nil)))) (do_ct (exM p1 p2 p3 p4 p5 q1 q2 q3) (hjoin H1 K0) hM2 1 bt (exT 2 2 1 [(5, 2)]) x5 hx5 2 1 ⟨2, 1, 0, 0⟩ hV (exTI 2 2 1 [(5, 2)] (.inr rfl)) (by decide) (by decide)) rfl rfl rfl rfl (by rintro _ _ ⟨_, _, _, rfl⟩; rfl)) rfl ?_
  rintro _ _ ⟨_, ⟨x6, rfl, hx6, rfl⟩, rfl⟩
  have hdx6 : doP (kdOf (exM p1 p2 p3 p4 p5 q1 q2 q3) (Cm.it ⟨2, 1, 0, 0⟩)) 1 (exT 2 2 1 [(5, 2)]) 2 1 ⟨2, 1, 0, 0⟩ = (exT 2 0 2 [(1, 0)], 0, 0) := ex_d3
  rw [hdx6] at hx6 ⊢
  replace hx6 : x6.Is (exT 2 0 2 [(1, 0)]) := hx6
  refine RL.q (Yld.move rfl) rfl ?_
  refine RL.q (Yld.extract rfl rfl) rfl ?_
  refine RL.q (Yld.extract rfl rfl) rfl ?_
  refine RL.q (Yld.assign rfl) rfl (RL.q (Yld.assign rfl) rfl (RL.nil (N.next ?_)))
  refine W.keep (.of [1, 2, 3, 4, 5, 6] rfl) (.of [0, 1, 150, 171, 172, 173, 174, 175] rfl) ?_
  refine W.seq (W.region ?_)
  refine RL.q (Yld.move rfl) rfl ?_
  refine RL.q (Yld.buildP lay36 (.cons rfl rfl (.cons rfl rfl .nil)) rfl) rfl ?_
  refine RL.e (Eff.call ent15 [1, 171, 172, 173, 174] [1, 171, 172, 173, 174] (.cons rfl (.cons rfl (.cons rfl (.cons rfl .nil)))) (do_ct (exM p1 p2 p3 p4 p5 q1 q2 q3) (hjoin H1 K0) hM2 1 bt (exT 2 0 2 [(1, 0)]) x6 hx6 1 6 ⟨5, 1, 0, 0⟩ hV (exTI 2 0 2 [(1, 0)] (.inl rfl)) (by decide) (by decide)) rfl rfl rfl rfl (by rintro _ _ ⟨_, _, _, rfl⟩; rfl)) rfl ?_
  rintro _ _ ⟨_, ⟨x7, rfl, hx7, rfl⟩, rfl⟩
  have hdx7 : doP (kdOf (exM p1 p2 p3 p4 p5 q1 q2 q3) (Cm.it ⟨5, 1, 0, 0⟩)) 1 (exT 2 0 2 [(1, 0)]) 1 6 ⟨5, 1, 0, 0⟩ = (exT 2 0 2 [(1, 0)], 12, 0) := ex_d4
  rw [hdx7] at hx7 ⊢
  replace hx7 : x7.Is (exT 2 0 2 [(1, 0)]) := hx7
  refine RL.q (Yld.move rfl) rfl ?_
  refine RL.q (Yld.extract rfl rfl) rfl ?_
  refine RL.q (Yld.extract rfl rfl) rfl ?_
  refine RL.q (Yld.assign rfl) rfl (RL.q (Yld.assign rfl) rfl (RL.nil (N.next ?_)))
  refine W.keep (.of [2, 3, 4, 5, 6, 8] rfl) (.of [0, 1, 150, 171, 172, 173, 174, 175] rfl) ?_
  refine W.seq (W.region ?_)
  refine RL.q (Yld.move rfl) rfl ?_
  refine RL.q (Yld.bin rfl rfl BinV.eql) rfl ?_
  refine RL.q (Yld.move rfl) rfl ?_
  refine' RL.and (t := 46) (d := 49) 3 rfl (.of [2, 3, 4, 5, 6, 8, 44, 45] rfl) (.of [0, 1, 150, 171, 172, 173, 174, 175] rfl) ?_ ?_ ?_
  rotate_left 1
  ·
   intro hg46
   refine RL.gq rfl rfl (Yld.move rfl) rfl ?_
   refine RL.gq rfl rfl (Yld.bin rfl rfl BinV.eql) rfl ?_
   refine RL.q Yld.pk rfl ?_
   exact RL.nil (N.meet (.to rfl) (.to rfl))
  ·
   intro hg46
   refine RL.gskip rfl rfl rfl rfl ?_
   refine RL.gskip rfl rfl rfl rfl ?_
   refine RL.q Yld.pk rfl ?_
   exact RL.nil (N.meet (.to rfl) (.to rfl))
  refine RL.q (Yld.move rfl) rfl ?_
  refine' RL.and (t := 50) (d := 53) 3 rfl (.of [2, 3, 4, 5, 6, 8, 44, 45, 49] rfl) (.of [0, 1, 150, 171, 172, 173, 174, 175] rfl) ?_ ?_ ?_
  rotate_left 1
  ·
   intro hg50
   refine RL.gq rfl rfl (Yld.move rfl) rfl ?_
   refine RL.gq rfl rfl (Yld.bin rfl rfl BinV.eql) rfl ?_
   refine RL.q Yld.pk rfl ?_
   exact RL.nil (N.meet (.to rfl) (.to rfl))
  ·
   intro hg50
   refine RL.gskip rfl rfl rfl rfl ?_
   refine RL.gskip rfl rfl rfl rfl ?_
   refine RL.q Yld.pk rfl ?_
   exact RL.nil (N.meet (.to rfl) (.to rfl))
  refine RL.q (Yld.move rfl) rfl ?_
  refine' RL.and (t := 54) (d := 57) 3 rfl (.of [2, 3, 4, 5, 6, 8, 44, 45, 49, 53] rfl) (.of [0, 1, 150, 171, 172, 173, 174, 175] rfl) ?_ ?_ ?_
  rotate_left 1
  ·
   intro hg54
   refine RL.gq rfl rfl (Yld.move rfl) rfl ?_
   refine RL.gq rfl rfl (Yld.bin rfl rfl BinV.eql) rfl ?_
   refine RL.q Yld.pk rfl ?_
   exact RL.nil (N.meet (.to rfl) (.to rfl))
  ·
   intro hg54
   refine RL.gskip rfl rfl rfl rfl ?_
   refine RL.gskip rfl rfl rfl rfl ?_
   refine RL.q Yld.pk rfl ?_
   exact RL.nil (N.meet (.to rfl) (.to rfl))
  refine RL.q (Yld.move rfl) rfl ?_
  refine' RL.and (t := 58) (d := 61) 3 rfl (.of [2, 3, 4, 5, 6, 8, 44, 45, 49, 53, 57] rfl) (.of [0, 1, 150, 171, 172, 173, 174, 175] rfl) ?_ ?_ ?_
  rotate_left 1
  ·
   intro hg58
   refine RL.gq rfl rfl (Yld.move rfl) rfl ?_
   refine RL.gq rfl rfl (Yld.bin rfl rfl BinV.eql) rfl ?_
   refine RL.q Yld.pk rfl ?_
   exact RL.nil (N.meet (.to rfl) (.to rfl))
  ·
   intro hg58
   refine RL.gskip rfl rfl rfl rfl ?_
   refine RL.gskip rfl rfl rfl rfl ?_
   refine RL.q Yld.pk rfl ?_
   exact RL.nil (N.meet (.to rfl) (.to rfl))
  refine RL.q (Yld.move rfl) rfl ?_
  refine' RL.and (t := 62) (d := 65) 3 rfl (.of [2, 3, 4, 5, 6, 8, 44, 45, 49, 53, 57, 61] rfl) (.of [0, 1, 150, 171, 172, 173, 174, 175] rfl) ?_ ?_ ?_
  rotate_left 1
  ·
   intro hg62
   refine RL.gq rfl rfl (Yld.move rfl) rfl ?_
   refine RL.gq rfl rfl (Yld.bin rfl rfl BinV.eql) rfl ?_
   refine RL.q Yld.pk rfl ?_
   exact RL.nil (N.meet (.to rfl) (.to rfl))
  ·
   intro hg62
   refine RL.gskip rfl rfl rfl rfl ?_
   refine RL.gskip rfl rfl rfl rfl ?_
   refine RL.q Yld.pk rfl ?_
   exact RL.nil (N.meet (.to rfl) (.to rfl))
  refine RL.q (Yld.assign rfl) rfl (RL.nil (N.next ?_))
  refine W.keep (.of [0] rfl) (.of [0, 1, 150, 171, 172, 173, 174, 175] rfl) ?_
  refine W.ret ?_
  refine N.shrink 1 rfl hjoin_l ?_
  exact N.retBy [1] (.cons (.tmp rfl) .nil) rfl rfl rfl rfl ⟨rfl, rfl⟩
end Go.Proofs.YtboapdcmaeojgaaGreatDoor
namespace Go.Proofs.YtboapdcmaeojgaaGreatDoor.SL
open Go Go.ChangeShapes Go.WideShapes Go.RowKit
set_option linter.unusedVariables false
def oldH (W : World) : PH := fun b => W.heap[b]?
theorem mem_old (W : World) : Mem (W.os, W.output) ((0, emp) :: lab 1 [oldH W]) W where
  os := rfl
  out := rfl
  sub c H h := by
    match c, h with
    | 0, h => cases h; intro b o hb; cases hb
    | 1, h => cases h; intro b o hb; exact hb
    | n + 2, h => cases (show none = some H from h)
  dis c d G H hne hc hd := by
    match c, d, hc, hd with
    | 0, _, hc, _ => cases hc; intro b x y hx; cases hx
    | 1, 0, _, hd => cases hd; intro b x y _ hy; cases hy
    | 1, 1, _, _ => exact absurd rfl hne
    | 1, n + 2, _, hd => cases (show none = some H from hd)
    | n + 2, _, hc, _ => cases (show none = some G from hc)
theorem old_block {E : Env} {L : Sh} {W W' : World} {c : Nat} (hm : Mem E L W') (hc : lk L c = some (oldH W)) {i : Nat} (hi : i < W.heap.size) : W'.heap[i]? = W.heap[i]? := by
  have h2 : W.heap[i]? = some W.heap[i] := Array.getElem?_eq_getElem hi
  rw [h2]
  exact hm.sub c _ hc i _ h2
theorem old_frame {L : Sh} {W W' : World} {c : Nat} (hm : Mem (W.os, W.output) L W') (hc : lk L c = some (oldH W)) (may : MemPlace → Prop) : W.keptBut W' may :=
  ⟨hm.os, hm.out, fun i hi => by rw [old_block hm hc hi]; split <;> simp_all⟩
theorem old_same {E : Env} {L : Sh} {W W' : World} {c : Nat} (hm : Mem E L W') (hc : lk L c = some (oldH W)) {p : MemPlace} (hp : p.block < W.heap.size) : W.sameAt W' p := by
  cases p with
  | cell b o => exact World.cell?_of_block (w := W) (old_block hm hc hp)
  | map b => exact old_block hm hc hp
section
variable {H : Type} {enc : TypeId × Value → H} {P : Program}
def readsB (P : Program) : List TypeId → Bool
  | [] => true
  | t :: r => P.readableRec t && Nat.blt t P.types.size && readsB P r
theorem trodAll_stays (hl : laidOutB P = true) {L : Sh} {W W' : World} {c : Nat} {E : Env} (hm : Mem E L W') (hc : lk L c = some (oldH W)) :
    ∀ (ts : List TypeId) (vs : List Value) (ds : List (DataW H)) (ps : List MemPlace), readsB P ts = true → DataW.TrodAll enc P W 0 (fun _ => true) true ts vs ds ps → (∀ p ∈ ps, p.block < W.heap.size) →
      DataW.TrodAll enc P W' 0 (fun b => decide (b < W.heap.size)) true ts vs ds ps
  | [], [], [], ps, _, h, _ => h
  | t :: ts, v :: vs, d :: ds, ps, hr, h, hp => by
    obtain ⟨p, q, h1, h2, rfl⟩ := h
    simp only [readsB, Bool.and_eq_true] at hr
    refine ⟨p, q, ?_, trodAll_stays hl hm hc ts vs ds q hr.2 h2 (fun x hx => hp x (List.mem_append_right _ hx)), rfl⟩
    exact WideElems.Trod_stays hl hr.1.1 (Nat.le_of_ble_eq_true hr.1.2) h1 (fun x hx => old_same hm hc (hp x (List.mem_append_left _ hx))) (fun x hx => by simpa using hp x (List.mem_append_left _ hx))
  | [], _ :: _, _, _, _, h, _ => by cases h
  | [], [], _ :: _, _, _, h, _ => by cases h
  | _ :: _, [], _, _, _, h, _ => by cases h
  | _ :: _, _ :: _, [], _, _, h, _ => by cases h
theorem law_post {f : Func} {s : ChangeSpec} {apart : Bool} {tb : TypeId} {W W' : World} {args : Array Value} {ds gs : List (DataW H)} {before : List MemPlace} (hl : laidOutB P = true) (hrd : readsB P f.params.toList = true)
    (hW : DataW.Whole enc P f.params.toList s.vars apart W args.toList ds gs before) (hv : s.vars = []) (hr : f.resultTypes = #[tb]) (htb : P.underlying tb = some .bool)
    (hs : s.fn H ds = { results := [.lit (.bool true)], args := ds }) {L : Sh} {c : Nat} (hm : Mem (W.os, W.output) L W') (hc : lk L c = some (oldH W)) :
    s.post enc P f apart true false false W args (.bool true) W' := by
  have hW' := hW
  obtain ⟨p, q, hA, hV, rfl, hfz, hnd⟩ := hW
  rw [hv] at hV
  obtain ⟨rfl, rfl⟩ := trodVars_none hV
  have hlt : ∀ x ∈ p, x.block < W.heap.size := fun x hx => hW'.lt x (by simpa using hx)
  refine ⟨ds, [], p ++ [], [], p, [], hW', ?_, ?_, ?_, old_frame hm hc _, fun h => by cases h⟩
  · rw [List.append_nil, hs, hr]
    exact trodAll_mk1 (shut_bool htb true)
  · rw [List.append_nil, hs]
    exact trodAll_stays hl hm hc _ _ _ _ hrd hA hlt
  · rw [List.append_nil, hs, hv]
    rfl
inductive Kd where
  | int (k : IntKind)
  | bool
  | string
  | at (t : TypeId)
def Kd.ok (enc : TypeId × Value → H) (P : Program) (w : World) : Kd → Value → Prop
  | .int k, v => ∃ n, v = .int k n ∧ (Lit.int k n).wf = true
  | .bool, v => ∃ b, v = .bool b
  | .string, v => ∃ s : ByteArray, v = .string s ∧ s.size ≤ maxLen
  | .at t, v => ∃ n x, DataW.trod enc P w 0 (fun _ => true) true n t [v] = some x
def kdsF (P : Program) (k : TypeId → Option (List Kd)) : List Field → Nat → Option (List Kd)
  | [], _ => some []
  | f :: r, off => if Nat.beq f.offset off then (k f.type).bind fun a => if Nat.beq a.length (P.cellsOf f.type) then (kdsF P k r (off + a.length)).map (a ++ ·) else none else none
def kds (P : Program) : Nat → TypeId → Option (List Kd)
  | 0, _ => none
  | m + 1, t =>
    match P.underlying t with
    | some .bool => some [.bool]
    | some (.int k) => some [.int k]
    | some .string => some [.string]
    | some (.struct fs) => (kdsF P (kds P m) fs.toList 0).bind fun l => if Nat.beq l.length (P.cellsOf t) then some l else none
    | some (.array n e) => (kds P m e).bind fun a => if Nat.beq a.length (P.cellsOf e) && Nat.beq (n * P.cellsOf e) (P.cellsOf t) then some (List.replicate n a).flatten else none
    | some (.slice _) => some [.at t]
    | some (.map _ _) => some [.at t]
    | some (.pointer _) => some [.at t]
    | some (.func ..) => some [.at t]
    | some (.interface _) => some [.at t]
    | _ => none
def Fit (enc : TypeId × Value → H) (P : Program) (w : World) : List Kd → List Value → Prop
  | [], [] => True
  | k :: ks, v :: vs => k.ok enc P w v ∧ Fit enc P w ks vs
  | _, _ => False
theorem Fit.append {w : World} : ∀ {ks : List Kd} {vs : List Value} {ks' : List Kd} {vs' : List Value}, Fit enc P w ks vs → Fit enc P w ks' vs' → Fit enc P w (ks ++ ks') (vs ++ vs')
  | [], [], _, _, _, h' => h'
  | _ :: _, _ :: _, _, _, h, h' => ⟨h.1, h.2.append h'⟩
  | [], _ :: _, _, _, h, _ => h.elim
  | _ :: _, [], _, _, h, _ => h.elim
variable {w : World}
theorem trod_array_elems {t e : TypeId} {n m : Nat} {cs : List Value} {x : DataW H × List MemPlace} (ht : P.underlying t = some (.array n e)) (h : DataW.trod enc P w 0 (fun _ => true) true m t cs = some x) :
    cs.length = P.cellsOf t ∧ ∀ i, i < n → ∃ m' y, DataW.trod enc P w 0 (fun _ => true) true m' e ((cs.drop (i * P.cellsOf e)).take (P.cellsOf e)) = some y := by
  cases m with
  | zero => simp [DataW.trod] at h
  | succ m =>
    unfold DataW.trod at h
    rw [ht] at h
    simp only at h
    split at h
    · rename_i hl
      refine ⟨hl, fun i hi => ?_⟩
      obtain ⟨xs, hxs, _⟩ := Option.map_eq_some_iff.1 h
      have h1 := mapM_some_get hxs i i (by simp [hi])
      have h2 := mapM_some_length hxs
      rw [List.length_range] at h2
      rw [List.getElem?_eq_getElem (by omega)] at h1
      exact ⟨m, _, h1⟩
    · cases h
theorem trod_one {t : TypeId} {n : Nat} {cs : List Value} {x : DataW H × List MemPlace} (hs : ∀ fs, P.underlying t ≠ some (.struct fs)) (ha : ∀ k e, P.underlying t ≠ some (.array k e)) (h : DataW.trod enc P w 0 (fun _ => true) true n t cs = some x) : ∃ v, cs = [v] := by
  cases n with
  | zero => simp [DataW.trod] at h
  | succ m =>
    unfold DataW.trod at h
    split at h
    all_goals first
      | exact ⟨_, rfl⟩
      | exact absurd ‹_› (hs _)
      | exact absurd ‹_› (ha _ _)
      | cases h
theorem go_fit {m n : Nat} {cs : List Value} (ih : ∀ (t : TypeId) (ks : List Kd) (cs : List Value) (x : DataW H × List MemPlace), kds P m t = some ks → DataW.trod enc P w 0 (fun _ => true) true n t cs = some x → Fit enc P w ks cs) :
    ∀ (fs : List Field) (off : Nat) (ks : List Kd), kdsF P (kds P m) fs off = some ks → (∀ f ∈ fs, ∃ x, DataW.trod enc P w 0 (fun _ => true) true n f.type ((cs.drop f.offset).take (P.cellsOf f.type)) = some x) →
      Fit enc P w ks ((cs.drop off).take ks.length)
  | [], off, ks, h, _ => by
    unfold kdsF at h; cases h; exact trivial
  | f :: r, off, ks, h, hx => by
    unfold kdsF at h
    split at h
    · rename_i ho
      obtain ⟨a, ha, h⟩ := Option.bind_eq_some_iff.1 h
      split at h
      · rename_i hl
        obtain ⟨b, hb, rfl⟩ := Option.map_eq_some_iff.1 h
        have ho := Nat.eq_of_beq_eq_true ho
        have hl := Nat.eq_of_beq_eq_true hl
        obtain ⟨x, hx0⟩ := hx f (.head _)
        rw [ho, ← hl] at hx0
        have h1 := ih _ _ _ _ ha hx0
        have h2 := go_fit ih r (off + a.length) b hb (fun g hg => hx g (.tail _ hg))
        have := h1.append h2
        rw [List.length_append, List.take_add, List.drop_drop]
        exact this
      · cases h
    · cases h
theorem rep_fit {m n c : Nat} {cs : List Value} {e : TypeId} {a : List Kd} (ha : a.length = c) (ih : ∀ i, i < n → Fit enc P w a ((cs.drop (i * c)).take c)) : ∀ k, k ≤ n → Fit enc P w (List.replicate k a).flatten ((cs.drop ((n - k) * c)).take (k * c))
  | 0, _ => by simp [Fit]
  | k + 1, hk => by
    have h1 := ih (n - (k + 1)) (by omega)
    have h2 := rep_fit (m := m) (e := e) ha ih k (by omega)
    rw [List.replicate_succ, List.flatten_cons, show (k + 1) * c = c + k * c by rw [Nat.add_mul, Nat.one_mul, Nat.add_comm], List.take_add, List.drop_drop, show (n - (k + 1)) * c + c = (n - k) * c by
      rw [show n - k = (n - (k + 1)) + 1 by omega, Nat.add_mul, Nat.one_mul]]
    exact h1.append h2
theorem kds_fit : ∀ (m : Nat) (t : TypeId) (ks : List Kd) (n : Nat) (cs : List Value) (x : DataW H × List MemPlace), kds P m t = some ks → DataW.trod enc P w 0 (fun _ => true) true n t cs = some x → Fit enc P w ks cs
  | 0, _, _, _, _, _, h, _ => by simp [kds] at h
  | m + 1, t, ks, n, cs, x, h, hx => by
    have one : ∀ {v : Value}, cs = [v] → Fit enc P w [.at t] cs := fun {v} e => by subst e; exact ⟨⟨n, x, hx⟩, trivial⟩
    unfold kds at h
    split at h
    · rename_i e; cases h
      obtain ⟨b, rfl, _⟩ := DataW.trod_bool e hx
      exact ⟨⟨b, rfl⟩, trivial⟩
    · rename_i k e; cases h
      obtain ⟨i, rfl, _, hw⟩ := DataW.trod_int e hx
      exact ⟨⟨i, rfl, hw⟩, trivial⟩
    · rename_i e; cases h
      obtain ⟨s, rfl, _, hs⟩ := DataW.trod_string e hx
      exact ⟨⟨s, rfl, hs⟩, trivial⟩
    · rename_i fs e
      obtain ⟨l, hl, h⟩ := Option.bind_eq_some_iff.1 h
      split at h
      · rename_i hc; cases h
        have hc := Nat.eq_of_beq_eq_true hc
        obtain ⟨xs, n', rfl, _, hlen, hxs, hf⟩ := DataW.trod_struct e hx
        have := go_fit (enc := enc) (w := w) (n := n') (cs := cs) (fun t ks cs x => kds_fit m t ks n' cs x) fs.toList 0 ks hl (fun f hf' => by
          obtain ⟨i, hi⟩ := List.getElem?_of_mem hf'
          rw [Array.getElem?_toList] at hi
          have := hf i f hi
          have hlt : i < xs.length := by rw [hxs]; exact (Array.getElem?_eq_some_iff.1 hi).1
          rw [List.getElem?_eq_getElem hlt] at this
          exact ⟨_, this⟩)
        rw [List.drop_zero, List.take_of_length_le (by omega)] at this
        exact this
      · cases h
    · rename_i k e he
      obtain ⟨a, ha, h⟩ := Option.bind_eq_some_iff.1 h
      split at h
      · rename_i hc; cases h
        rw [Bool.and_eq_true] at hc
        have hc1 := Nat.eq_of_beq_eq_true hc.1
        have hc2 := Nat.eq_of_beq_eq_true hc.2
        obtain ⟨hl, hy⟩ := trod_array_elems he hx
        have := rep_fit (enc := enc) (P := P) (w := w) (m := 0) (n := k) (e := e) (cs := cs) hc1 (fun i hi => by
          obtain ⟨m', y, hy⟩ := hy i hi
          exact kds_fit m e a m' _ y ha hy) k (Nat.le_refl k)
        rw [Nat.sub_self, Nat.zero_mul, List.drop_zero, List.take_of_length_le (by omega)] at this
        exact this
      · cases h
    all_goals first
      | (cases h; done)
      | (rename_i e; cases h; obtain ⟨v, hv⟩ := trod_one (fun _ h => by rw [e] at h; cases h) (fun _ _ h => by rw [e] at h; cases h) hx; exact one hv)
theorem drop_take_of {w : World} {b o n : Nat} {cs : Array Value} {e : TypeId} {fr : Nat × Nat} (hb : w.heap[b]? = some (.cells cs e fr)) {l : List Value} (h : w.cells? 0 ⟨b, o, none⟩ n = some l) : l.length = n ∧ (cs.toList.drop o).take n = l := by
  obtain ⟨_, h2, h3⟩ := World.cells?_some h
  refine ⟨h2, ?_⟩
  apply List.ext_getElem?
  intro i
  rw [List.getElem?_take]
  split
  · rename_i hi
    rw [List.getElem?_drop]
    have := h3 i hi
    unfold World.cell? at this
    have e1 : ((⟨b, o, none⟩ : Addr).add i).block = b := by unfold Addr.add; split <;> rfl
    have e2 : ((⟨b, o, none⟩ : Addr).add i).off = o + i := by unfold Addr.add; split <;> simp_all
    have e3 : ((⟨b, o, none⟩ : Addr).add i).spot = none := by unfold Addr.add; split <;> rfl
    rw [e1, hb] at this
    simp only [e2, e3] at this
    simpa using this
  · rw [List.getElem?_eq_none (by omega)]
theorem slice_arg {base m : Nat} {t e : TypeId} {ks : List Kd} {v : Value} {d : DataW H} {ps : List MemPlace} (ht : P.underlying t = some (.slice e)) (hk : kds P m e = some ks) (hc : P.cellsOf e = ks.length)
    (hok : Value.okWide P w .any base t v) (h : DataW.Trod enc P w 0 (fun _ => true) true t v d ps) :
    ∃ p c ls, v = .slice p ls.length c ∧ Sl (oldH w) p c ks.length ls ∧ ∀ l ∈ ls, Fit enc P w ks l := by
  obtain ⟨a0, len, cap, rfl⟩ := okWide_slice ht hok
  obtain ⟨n, h⟩ := h
  have h' : DataW.trod enc P w 0 (fun _ => true) true n t [.slice a0 len cap] = some (d, ps) := by simpa [Value.cells] using h
  rcases Go.Deep.open_slice ht h' with ⟨h0, _⟩ | ⟨a, len', cap', m', n', D, Pl, h0, _, hl, hm, rfl, _, hx⟩
  · cases h0
    exact ⟨none, 0, [], rfl, ⟨rfl, rfl⟩, fun l hl => by cases hl⟩
  · cases h0
    simp only [Value.okWide, ht, Cell.okWide, Cell.ok] at hok
    obtain ⟨_, _, _, hsp, row, cells, hsh, _⟩ := hok
    obtain ⟨b, o, spot⟩ := a
    simp only at hsp
    subst hsp
    unfold World.shape? at hsh
    simp only at hsh
    split at hsh
    · rename_i cs el fr hb
      have hx' : ∀ i, i < len → ∃ l : List Value, w.cells? 0 ⟨b, o + i * ks.length, none⟩ ks.length = some l ∧ Fit enc P w ks l := by
        intro i hi
        obtain ⟨l, h1, h2⟩ := hx i (by show i < (if true = true then cap else len); rw [if_pos rfl]; omega)
        rw [hc] at h1
        refine ⟨l, ?_, kds_fit m e ks n' l _ hk h2⟩
        have e1 : ((⟨b, o, none⟩ : Addr).add (i * ks.length)) = ⟨b, o + i * ks.length, none⟩ := by unfold Addr.add; split <;> simp_all
        rw [← e1]; exact h1
      obtain ⟨f, hf⟩ := Go.Deep.choose_lt hx'
      refine ⟨some ⟨b, o, none⟩, cap, (List.range len).map f, by simp, ⟨by simpa using hl, hm, fun _ => ⟨rfl, cs.toList, el, fr, hb, ?_⟩⟩, ?_⟩
      · intro i l hi
        rw [List.getElem?_map] at hi
        obtain ⟨j, hj, rfl⟩ := Option.map_eq_some_iff.1 hi
        have hlt : i < len := by have := (List.getElem?_eq_some_iff.1 hj).1; simpa using this
        rw [List.getElem?_range hlt] at hj
        cases hj
        exact drop_take_of hb (hf i hlt).1
      · intro l hl'
        obtain ⟨i, hi, rfl⟩ := List.mem_map.1 hl'
        exact (hf i (List.mem_range.1 hi)).2
    · cases hsh
theorem exists_map {α β : Type} {f : α → β} {p : α → Prop} : ∀ {ls : List β}, (∀ l ∈ ls, ∃ a, f a = l ∧ p a) → ∃ asl : List α, asl.map f = ls ∧ ∀ a ∈ asl, p a
  | [], _ => ⟨[], rfl, fun _ h => by cases h⟩
  | l :: r, h => by
    obtain ⟨a, ha, pa⟩ := h l (.head _)
    obtain ⟨asl, has, pas⟩ := exists_map fun l hl => h l (.tail _ hl)
    exact ⟨a :: asl, by rw [List.map_cons, ha, has], fun x hx => by cases hx with
      | head => exact pa
      | tail _ hx => exact pas x hx⟩
theorem Fit.uncons {k : Kd} {ks : List Kd} {l : List Value} (h : Fit enc P w (k :: ks) l) : ∃ v r, l = v :: r ∧ k.ok enc P w v ∧ Fit enc P w ks r := by
  cases l with
  | nil => exact h.elim
  | cons v r => exact ⟨v, r, rfl, h.1, h.2⟩
theorem Fit.nil' {l : List Value} (h : Fit enc P w [] l) : l = [] := by
  cases l with
  | nil => rfl
  | cons v r => exact h.elim
end
end Go.Proofs.YtboapdcmaeojgaaGreatDoor.SL
namespace Go.Proofs.YtboapdcmaeojgaaGreatDoor.SL
open Go.RowKit Go.ChangeShapes Go.WideShapes Go.ChangeAt
set_option linter.unusedVariables false
variable {H : Type} {enc : TypeId × Value → H} {P : Program} {w : World}
theorem struct_arg {base m : Nat} {t : TypeId} {fs : Array Field} {ks : List Kd} {v : Value} {d : DataW H} {ps : List MemPlace} (ht : P.underlying t = some (.struct fs)) (hk : kds P m t = some ks)
    (hok : Value.okWide P w .any base t v) (h : DataW.Trod enc P w 0 (fun _ => true) true t v d ps) : ∃ cs : List Value, v = .agg cs.toArray ∧ Fit enc P w ks cs := by
  obtain ⟨cs, rfl, _⟩ := okWide_struct ht hok
  obtain ⟨n, h⟩ := h
  exact ⟨cs.toList, by simp, kds_fit m t ks n _ _ hk h⟩
theorem at_slice {m : Nat} {u e : TypeId} {ks : List Kd} {v : Value} (hue : P.underlying u = some (.slice e)) (hk : kds P m e = some ks) (hc : P.cellsOf e = ks.length) (hpos : 0 < ks.length) (hat : Kd.ok enc P w (.at u) v) :
    ∃ p c ls, v = .slice p ls.length c ∧ Sl (oldH w) p c ks.length ls ∧ ∀ l ∈ ls, Fit enc P w ks l := by
  obtain ⟨n, ⟨d, ps⟩, hat⟩ := hat
  rcases Go.Deep.open_slice hue hat with ⟨h0, _⟩ | ⟨a, len, cap, m', n', D, Pl, h0, _, hl, hm, hmc, _, hx⟩
  · cases h0
    exact ⟨none, 0, [], rfl, ⟨rfl, rfl⟩, fun l hl => by cases hl⟩
  · cases h0
    obtain rfl : m' = cap := hmc
    rcases Nat.eq_zero_or_pos m' with h | h
    · subst h
      obtain rfl : len = 0 := by omega
      exact ⟨some a, 0, [], rfl, ⟨by simp, by simp [maxLen], fun h => absurd h (Nat.lt_irrefl _)⟩, fun l hl => by cases hl⟩
    · have hx' : ∀ i, i < m' → ∃ l : List Value, w.cells? 0 (a.add (i * ks.length)) ks.length = some l ∧ Fit enc P w ks l := by
        intro i hi
        obtain ⟨l, h1, h2⟩ := hx i hi
        rw [hc] at h1
        exact ⟨l, h1, kds_fit m e ks n' l _ hk h2⟩
      obtain ⟨l0, h1, _⟩ := hx' 0 h
      obtain ⟨_, h2, h3⟩ := World.cells?_some h1
      have h4 := h3 0 hpos
      obtain ⟨u0, hu0⟩ : ∃ u0, l0[0]? = some u0 := ⟨_, List.getElem?_eq_getElem (by omega)⟩
      rw [hu0, Nat.zero_mul] at h4
      have ea : (a.add 0).add 0 = a := by simp [Addr.add]
      rw [ea] at h4
      obtain ⟨b, o, spot⟩ := a
      unfold World.cell? at h4
      simp only at h4
      split at h4
      · rename_i cs el fr hb
        split at h4
        · cases h4
        rename_i hsp
        obtain rfl : spot = none := by cases spot with | none => rfl | some s => simp at hsp
        have hx2 : ∀ i, i < len → ∃ l : List Value, w.cells? 0 ⟨b, o + i * ks.length, none⟩ ks.length = some l ∧ Fit enc P w ks l := by
          intro i hi
          obtain ⟨l, h1, h2⟩ := hx' i (by omega)
          have e1 : ((⟨b, o, none⟩ : Addr).add (i * ks.length)) = ⟨b, o + i * ks.length, none⟩ := by unfold Addr.add; split <;> simp_all
          exact ⟨l, by rw [← e1]; exact h1, h2⟩
        obtain ⟨f, hf⟩ := Go.Deep.choose_lt hx2
        refine ⟨some ⟨b, o, none⟩, m', (List.range len).map f, by simp, ⟨by simpa using hl, hm, fun _ => ⟨rfl, cs.toList, el, fr, hb, ?_⟩⟩, ?_⟩
        · intro i l hi
          rw [List.getElem?_map] at hi
          obtain ⟨j, hj, rfl⟩ := Option.map_eq_some_iff.1 hi
          have hlt : i < len := by have := (List.getElem?_eq_some_iff.1 hj).1; simpa using this
          rw [List.getElem?_range hlt] at hj
          cases hj
          exact drop_take_of hb (hf i hlt).1
        · intro l hl'
          obtain ⟨i, hi, rfl⟩ := List.mem_map.1 hl'
          exact (hf i (List.mem_range.1 hi)).2
      · cases h4
theorem ints_of {l : List (List Value)} (h : ∀ r ∈ l, Fit enc P w [.int .i64] r) : ∃ z : List Int, l = z.map fun a => [Value.int .i64 a] := by
  induction l with
  | nil => exact ⟨[], rfl⟩
  | cons r l ih =>
    obtain ⟨z, hz⟩ := ih fun r hr => h r (List.mem_cons_of_mem _ hr)
    obtain ⟨_, _, rfl, ⟨n, rfl, _⟩, h1⟩ := (h r (by simp)).uncons
    cases h1.nil'
    exact ⟨n :: z, by rw [hz]; rfl⟩
end Go.Proofs.YtboapdcmaeojgaaGreatDoor.SL
namespace Go.Proofs.YtboapdcmaeojgaaGreatDoor
open SL Cat Fen Go.ChangeShapes Go.WideShapes Go.ChangeAt Go.RowKit
set_option linter.unusedVariables false
set_option maxRecDepth 100000
theorem tab_second {W : World} {a : String × DataW Unit} (h : laidMet Tryz.prog [a, ("strings.asciiSpace", Lib.tabData .u8 Lib.asciiSpaceTab)] W) : TabS (oldH W) := by
  obtain ⟨a1, a2⟩ := a
  obtain ⟨ps, ⟨_, _, _, _, _, _, _, _, _, _, ⟨g', t', cs, fuel, p, q, hg', ht', hvar, hd, _, _⟩, _⟩, _⟩ := h
  have hg : Tryz.prog.globalNamed "strings.asciiSpace" = some 0 := by kernel_rfl
  obtain rfl := Option.some.inj (hg.symm.trans hg')
  obtain rfl := Option.some.inj ((by kernel_rfl : (Tryz.prog.globals[0]?).map (·.type) = some 218).symm.trans ht')
  have hT : Lib.TabIs Tryz.prog W "strings.asciiSpace" .u8 Lib.asciiSpaceTab := by
    unfold Lib.TabIs
    rw [hvar, ← Lib.cells_of_tab Tryz.underlying218 Tryz.underlying5 (by kernel_rfl) (by kernel_rfl) hd]
  intro w hs
  unfold Lib.TabIs World.var? at hT ⊢
  rw [hg] at hT ⊢
  simp only [Option.bind_some] at hT ⊢
  cases hW : W.heap[0]? with
  | none => rw [hW] at hT; cases hT
  | some o => rw [hs 0 o hW]; rw [hW] at hT; exact hT
theorem i64_of {x : Int} (h : (Lit.int .i64 x).wf = true) : -9223372036854775808 ≤ x ∧ x ≤ 9223372036854775807 := by
  simpa [Lit.wf, IntKind.min, IntKind.max, IntKind.signed, IntKind.bits] using h
theorem in_kds : kds Tryz.prog 6 3 = some [.int .i64] := by kernel_rfl
theorem ky_kds : kds Tryz.prog 6 9 = some [.string] := by kernel_rfl
theorem ky_of {H : Type} {enc : TypeId × Value → H} {W : World} {l : List Value} (hf : Fit enc Tryz.prog W [.string] l) : ∃ x : Ky, [Value.string x] = l ∧ True := by
  obtain ⟨_, _, rfl, ⟨f0, rfl, w0⟩, g1⟩ := hf.uncons
  cases g1.nil'
  exact ⟨f0, by simp, trivial⟩
theorem rk_kds : kds Tryz.prog 6 93 = some [.string, .int .i64, .int .i64] := by kernel_rfl
theorem rk_of {H : Type} {enc : TypeId × Value → H} {W : World} {l : List Value} (hf : Fit enc Tryz.prog W [.string, .int .i64, .int .i64] l) : ∃ x : Rk, x.c = l ∧ True := by
  obtain ⟨_, _, rfl, ⟨f0, rfl, w0⟩, g1⟩ := hf.uncons
  obtain ⟨_, _, rfl, ⟨f1, rfl, w1⟩, g2⟩ := g1.uncons
  obtain ⟨_, _, rfl, ⟨f2, rfl, w2⟩, g3⟩ := g2.uncons
  cases g3.nil'
  exact ⟨⟨f0, f1, f2⟩, by simp [Rk.c], trivial⟩
theorem mc_kds : kds Tryz.prog 6 95 = some [.string, .int .i64, .int .i64] := by kernel_rfl
theorem mc_of {H : Type} {enc : TypeId × Value → H} {W : World} {l : List Value} (hf : Fit enc Tryz.prog W [.string, .int .i64, .int .i64] l) : ∃ x : Mc, x.c = l ∧ True := by
  obtain ⟨_, _, rfl, ⟨f0, rfl, w0⟩, g1⟩ := hf.uncons
  obtain ⟨_, _, rfl, ⟨f1, rfl, w1⟩, g2⟩ := g1.uncons
  obtain ⟨_, _, rfl, ⟨f2, rfl, w2⟩, g3⟩ := g2.uncons
  cases g3.nil'
  exact ⟨⟨f0, f1, f2⟩, by simp [Mc.c], trivial⟩
theorem ln_kds : kds Tryz.prog 6 162 = some [.int .i64, .int .i64, .int .i64] := by kernel_rfl
theorem ln_of {H : Type} {enc : TypeId × Value → H} {W : World} {l : List Value} (hf : Fit enc Tryz.prog W [.int .i64, .int .i64, .int .i64] l) : ∃ x : Ln, x.c = l ∧ True := by
  obtain ⟨_, _, rfl, ⟨f0, rfl, w0⟩, g1⟩ := hf.uncons
  obtain ⟨_, _, rfl, ⟨f1, rfl, w1⟩, g2⟩ := g1.uncons
  obtain ⟨_, _, rfl, ⟨f2, rfl, w2⟩, g3⟩ := g2.uncons
  cases g3.nil'
  exact ⟨⟨f0, f1, f2⟩, by simp [Ln.c], trivial⟩
theorem it_kds : kds Tryz.prog 6 64 = some [.string, .int .i64, .int .i64, .int .i64, .int .i64, .int .i64, .at 55] := by kernel_rfl
theorem it_of {H : Type} {enc : TypeId × Value → H} {W : World} {l : List Value} (hf : Fit enc Tryz.prog W [.string, .int .i64, .int .i64, .int .i64, .int .i64, .int .i64, .at 55] l) : ∃ x : It, x.c = l ∧ Sl (oldH W) x.po x.co 1 (iz x.on) := by
  obtain ⟨_, _, rfl, ⟨f0, rfl, w0⟩, g1⟩ := hf.uncons
  obtain ⟨_, _, rfl, ⟨f1, rfl, w1⟩, g2⟩ := g1.uncons
  obtain ⟨_, _, rfl, ⟨f2, rfl, w2⟩, g3⟩ := g2.uncons
  obtain ⟨_, _, rfl, ⟨f3, rfl, w3⟩, g4⟩ := g3.uncons
  obtain ⟨_, _, rfl, ⟨f4, rfl, w4⟩, g5⟩ := g4.uncons
  obtain ⟨_, _, rfl, ⟨f5, rfl, w5⟩, g6⟩ := g5.uncons
  obtain ⟨_, _, rfl, k6, g7⟩ := g6.uncons
  cases g7.nil'
  obtain ⟨p6, c6, m6, rfl, s6, e6⟩ := at_slice (m := 6) Tryz.underlying55 in_kds (by kernel_rfl) (by decide) k6
  obtain ⟨l6, rfl⟩ := ints_of e6
  exact ⟨⟨f0, f1, f2, f3, f4, f5, p6, l6, c6⟩, by simp [It.c], s6⟩
theorem rl_kds : kds Tryz.prog 6 97 = some [.int .i64, .int .i64, .int .i64, .int .i64, .int .i64, .bool, .at 55] := by kernel_rfl
theorem rl_of {H : Type} {enc : TypeId × Value → H} {W : World} {l : List Value} (hf : Fit enc Tryz.prog W [.int .i64, .int .i64, .int .i64, .int .i64, .int .i64, .bool, .at 55] l) : ∃ x : Rl, x.c = l ∧ Sl (oldH W) x.pm x.cm 1 (iz x.ms) := by
  obtain ⟨_, _, rfl, ⟨f0, rfl, w0⟩, g1⟩ := hf.uncons
  obtain ⟨_, _, rfl, ⟨f1, rfl, w1⟩, g2⟩ := g1.uncons
  obtain ⟨_, _, rfl, ⟨f2, rfl, w2⟩, g3⟩ := g2.uncons
  obtain ⟨_, _, rfl, ⟨f3, rfl, w3⟩, g4⟩ := g3.uncons
  obtain ⟨_, _, rfl, ⟨f4, rfl, w4⟩, g5⟩ := g4.uncons
  obtain ⟨_, _, rfl, ⟨f5, rfl⟩, g6⟩ := g5.uncons
  obtain ⟨_, _, rfl, k6, g7⟩ := g6.uncons
  cases g7.nil'
  obtain ⟨p6, c6, m6, rfl, s6, e6⟩ := at_slice (m := 6) Tryz.underlying55 in_kds (by kernel_rfl) (by decide) k6
  obtain ⟨l6, rfl⟩ := ints_of e6
  exact ⟨⟨f0, f1, f2, f3, f4, f5, p6, l6, c6⟩, by simp [Rl.c], s6⟩
theorem op_kds : kds Tryz.prog 6 40 = some [.int .i64, .int .i64, .int .i64, .int .i64, .int .i64, .int .i64, .int .i64, .int .i64, .int .i64, .int .i64, .int .i64] := by kernel_rfl
theorem op_of {H : Type} {enc : TypeId × Value → H} {W : World} {l : List Value} (hf : Fit enc Tryz.prog W [.int .i64, .int .i64, .int .i64, .int .i64, .int .i64, .int .i64, .int .i64, .int .i64, .int .i64, .int .i64, .int .i64] l) : ∃ x : Opn, x.cs = l ∧ (x.c.rp ≤ 9223372036854775807) := by
  obtain ⟨_, _, rfl, ⟨f0, rfl, w0⟩, g1⟩ := hf.uncons
  obtain ⟨_, _, rfl, ⟨f1, rfl, w1⟩, g2⟩ := g1.uncons
  obtain ⟨_, _, rfl, ⟨f2, rfl, w2⟩, g3⟩ := g2.uncons
  obtain ⟨_, _, rfl, ⟨f3, rfl, w3⟩, g4⟩ := g3.uncons
  obtain ⟨_, _, rfl, ⟨f4, rfl, w4⟩, g5⟩ := g4.uncons
  obtain ⟨_, _, rfl, ⟨f5, rfl, w5⟩, g6⟩ := g5.uncons
  obtain ⟨_, _, rfl, ⟨f6, rfl, w6⟩, g7⟩ := g6.uncons
  obtain ⟨_, _, rfl, ⟨f7, rfl, w7⟩, g8⟩ := g7.uncons
  obtain ⟨_, _, rfl, ⟨f8, rfl, w8⟩, g9⟩ := g8.uncons
  obtain ⟨_, _, rfl, ⟨f9, rfl, w9⟩, g10⟩ := g9.uncons
  obtain ⟨_, _, rfl, ⟨f10, rfl, w10⟩, g11⟩ := g10.uncons
  cases g11.nil'
  exact ⟨⟨f0, f1, f2, ⟨f3, f4, f5, f6⟩, ⟨f7, f8, f9, f10⟩⟩, by simp [Opn.cs], (i64_of w5).2⟩
theorem md_kds : kds Tryz.prog 6 29 = some [.at 22, .at 22, .at 23, .at 24, .at 25, .at 26, .int .i64, .int .i64, .int .i64, .int .i64, .at 27] := by kernel_rfl
theorem md_arg {H : Type} {enc : TypeId × Value → H} {W : World} {base : Nat} {v : Value} {d : DataW H} {p : List MemPlace} (hok : Value.okWide Tryz.prog W .any base 29 v) (h : DataW.Trod enc Tryz.prog W 0 (fun _ => true) true 29 v d p) : ∃ m : Md, v = .agg [.slice m.psi m.si.length m.csi, .slice m.pfe m.fe.length m.cfe, .slice m.prk m.rk.length m.crk, .slice m.pmc m.mc.length m.cmc, .slice m.pln m.ln.length m.cln, .slice m.pis m.is.length m.cis, .int .i64 m.da, .int .i64 m.sl, .int .i64 m.re, .int .i64 m.fa, .slice m.prl m.rl.length m.crl].toArray ∧ m.In (oldH W) := by
  obtain ⟨cs, rfl, hf⟩ := struct_arg (m := 6) Tryz.underlying29 md_kds hok h
  obtain ⟨_, _, rfl, k0, g1⟩ := hf.uncons
  obtain ⟨_, _, rfl, k1, g2⟩ := g1.uncons
  obtain ⟨_, _, rfl, k2, g3⟩ := g2.uncons
  obtain ⟨_, _, rfl, k3, g4⟩ := g3.uncons
  obtain ⟨_, _, rfl, k4, g5⟩ := g4.uncons
  obtain ⟨_, _, rfl, k5, g6⟩ := g5.uncons
  obtain ⟨_, _, rfl, ⟨f6, rfl, w6⟩, g7⟩ := g6.uncons
  obtain ⟨_, _, rfl, ⟨f7, rfl, w7⟩, g8⟩ := g7.uncons
  obtain ⟨_, _, rfl, ⟨f8, rfl, w8⟩, g9⟩ := g8.uncons
  obtain ⟨_, _, rfl, ⟨f9, rfl, w9⟩, g10⟩ := g9.uncons
  obtain ⟨_, _, rfl, k10, g11⟩ := g10.uncons
  cases g11.nil'
  obtain ⟨p0, c0, m0, rfl, s0, e0⟩ := at_slice (m := 6) Tryz.underlying22 ky_kds (by kernel_rfl) (by decide) k0
  obtain ⟨l0, rfl, ho0⟩ := exists_map (f := (fun s : Ky => [Value.string s])) (p := fun x : Ky => True) (ls := m0) fun l hl => ky_of (e0 l hl)
  obtain ⟨p1, c1, m1, rfl, s1, e1⟩ := at_slice (m := 6) Tryz.underlying22 ky_kds (by kernel_rfl) (by decide) k1
  obtain ⟨l1, rfl, ho1⟩ := exists_map (f := (fun s : Ky => [Value.string s])) (p := fun x : Ky => True) (ls := m1) fun l hl => ky_of (e1 l hl)
  obtain ⟨p2, c2, m2, rfl, s2, e2⟩ := at_slice (m := 6) Tryz.underlying23 rk_kds (by kernel_rfl) (by decide) k2
  obtain ⟨l2, rfl, ho2⟩ := exists_map (f := Rk.c) (p := fun x : Rk => True) (ls := m2) fun l hl => rk_of (e2 l hl)
  obtain ⟨p3, c3, m3, rfl, s3, e3⟩ := at_slice (m := 6) Tryz.underlying24 mc_kds (by kernel_rfl) (by decide) k3
  obtain ⟨l3, rfl, ho3⟩ := exists_map (f := Mc.c) (p := fun x : Mc => True) (ls := m3) fun l hl => mc_of (e3 l hl)
  obtain ⟨p4, c4, m4, rfl, s4, e4⟩ := at_slice (m := 6) Tryz.underlying25 ln_kds (by kernel_rfl) (by decide) k4
  obtain ⟨l4, rfl, ho4⟩ := exists_map (f := Ln.c) (p := fun x : Ln => True) (ls := m4) fun l hl => ln_of (e4 l hl)
  obtain ⟨p5, c5, m5, rfl, s5, e5⟩ := at_slice (m := 6) Tryz.underlying26 it_kds (by kernel_rfl) (by decide) k5
  obtain ⟨l5, rfl, ho5⟩ := exists_map (f := It.c) (p := fun x : It => Sl (oldH W) x.po x.co 1 (iz x.on)) (ls := m5) fun l hl => it_of (e5 l hl)
  obtain ⟨p10, c10, m10, rfl, s10, e10⟩ := at_slice (m := 6) Tryz.underlying27 rl_kds (by kernel_rfl) (by decide) k10
  obtain ⟨l10, rfl, ho10⟩ := exists_map (f := Rl.c) (p := fun x : Rl => Sl (oldH W) x.pm x.cm 1 (iz x.ms)) (ls := m10) fun l hl => rl_of (e10 l hl)
  exact ⟨⟨p0, l0, c0, p1, l1, c1, p2, l2, c2, p3, l3, c3, p4, l4, c4, p5, l5, c5, f6, f7, f8, f9, p10, l10, c10⟩, by simp, ⟨s0, s1, s2, s3, s4, s5, s10, ho5, ho10⟩⟩
theorem ops_arg {H : Type} {enc : TypeId × Value → H} {W : World} {base : Nat} {v : Value} {d : DataW H} {p : List MemPlace} (hok : Value.okWide Tryz.prog W .any base 30 v) (h : DataW.Trod enc Tryz.prog W 0 (fun _ => true) true 30 v d p) : ∃ q d, ∃ l : List Opn, v = .slice q l.length d ∧ Sl (oldH W) q d 11 (l.map Opn.cs) ∧ ∀ o ∈ l, o.c.rp ≤ 9223372036854775807 := by
  obtain ⟨q, c, ls, rfl, hl, e⟩ := slice_arg (m := 6) Tryz.underlying30 op_kds (by kernel_rfl) hok h
  obtain ⟨l, rfl, ho⟩ := exists_map (f := Opn.cs) (p := fun x : Opn => x.c.rp ≤ 9223372036854775807) (ls := ls) fun l hl => op_of (e l hl)
  exact ⟨q, c, l, by simp, hl, ho⟩
end Go.Proofs.YtboapdcmaeojgaaGreatDoor
namespace Go.Proofs.YtboapdcmaeojgaaGreatDoor
open SL Cat Fen
set_option linter.unusedVariables false
set_option linter.unusedSimpArgs false
theorem fo59_5 : fieldOff Tryz.prog 59 5 = some 5 := by kernel_rfl
theorem fo59_1 : fieldOff Tryz.prog 59 1 = some 1 := by kernel_rfl
theorem sz59 : sz Tryz.prog 59 6 := (by kernel_rfl : (Tryz.prog.info? 59).map (·.size) = some 6)
theorem ent46 : Ent Tryz.prog 46 := ⟨_, _, Tryz.func46, by kernel_rfl, rfl⟩
theorem zc59 : zc Tryz.prog 59 [.int .i64 0, .slice none 0 0, .int .i64 0, .slice none 0 0, .slice none 0 0, .slice none 0 0] := (by kernel_rfl : ((Tryz.prog.info? 59).bind (·.zero)).map (fun v => v.cells.toList) = some [.int .i64 0, .slice none 0 0, .int .i64 0, .slice none 0 0, .slice none 0 0, .slice none 0 0])
theorem lay59 : layS Tryz.prog 59 = some ([.int .i64 0, .slice none 0 0, .int .i64 0, .slice none 0 0, .slice none 0 0, .slice none 0 0], [(0, 1), (1, 1), (2, 1), (3, 1), (4, 1), (5, 1)]) := by kernel_rfl
theorem ent47 : Ent Tryz.prog 47 := ⟨_, _, Tryz.func47, by kernel_rfl, rfl⟩
structure Fen.Rt where
  pu : Option Addr
  cu : Nat
  us : List U
  HU : PH
  gen : Int
  ps : Option Addr
  cs : Nat
  st : List Int
  HS : PH
  pv : Option Addr
  cv : Nat
  va : List Int
  HV : PH
  pc : Option Addr
  cc : Nat
  cl : List Cl
  HC : PH
structure Fen.Rt.In (x : Rt) : Prop where
  u : Sl x.HU x.pu x.cu 5 (x.us.map U.c)
  s : Sl x.HS x.ps x.cs 1 (iz x.st)
  v : Sl x.HV x.pv x.cv 1 (iz x.va)
  c : Sl x.HC x.pc x.cc 4 (x.cl.map Cl.c)
def Fen.Rt.setU (x : Rt) (p : Option Addr) (c : Nat) (us : List U) (H : PH) : Rt := { x with pu := p, cu := c, us := us, HU := H }
theorem Fen.Rt.In.setU {x : Rt} (h : x.In) {p : Option Addr} {c : Nat} {us : List U} {H : PH} (hS : Sl H p c 5 (us.map U.c)) : (x.setU p c us H).In := ⟨hS, h.s, h.v, h.c⟩
structure Fen.Rt.Is (x : Rt) (t : T) : Prop where
  us : x.us = t.us
  gn : x.gen = t.gen
  st : x.st = t.dn.map (·.1)
  va : x.va = t.dn.map (·.2)
  cl : x.cl = t.cs
def Fen.fvU (us : List U) (it : Int) : U × Bool := match fndU us it with
  | some u => (u, true)
  | none => (⟨0, 0, 0, 0, 0⟩, false)
theorem fvU_some {us : List U} {it : Int} {u : U} (h : fndU us it = some u) : fvU us it = (u, true) := by unfold fvU; rw [h]
theorem fvU_none {us : List U} {it : Int} (h : fndU us it = none) : fvU us it = (⟨0, 0, 0, 0, 0⟩, false) := by unfold fvU; rw [h]
theorem fndU_at {us : List U} {it : Int} {j : Nat} {u : U} (hu : us[j]? = some u) (ho : opn it u = true) (hI : ∀ (i : Nat) a, i < j → us[i]? = some a → opn it a = false) : fndU us it = some u := fndU_some (fnd_of hu ho hI) hu
theorem fndU_no {us : List U} {it : Int} (hI : ∀ (i : Nat) a, i < us.length → us[i]? = some a → opn it a = false) : fndU us it = none := fndU_none.2 (fnd_no fun a ha => by
  obtain ⟨i, hi⟩ := List.getElem?_of_mem ha
  exact hI i a (List.getElem?_eq_some_iff.1 hi).1 hi)
theorem put_at {l : List U} {u : U} {j : Nat} (hj : j ≤ l.length) (h1 : ∀ (i : Nat) a, i < j → l[i]? = some a → lt u a = true) (h2 : ∀ a, l[j]? = some a → lt u a = false) :
    ((∃ a, l[j]? = some a ∧ a.it = u.it ∧ a.rp = u.rp) → putR l u = l.take j ++ [u] ++ l.drop (j + 1)) ∧ ((∀ a, l[j]? = some a → ¬ (a.it = u.it ∧ a.rp = u.rp)) → putR l u = l.take j ++ [u] ++ l.drop j) := by
  obtain ⟨e1, e2⟩ := takeWhile_at hj h1 h2
  unfold putR
  rw [e1, e2]
  constructor
  · rintro ⟨a, ha, h3⟩
    have hlt := (List.getElem?_eq_some_iff.1 ha).1
    have e3 : l.drop j = a :: l.drop (j + 1) := by rw [List.drop_eq_getElem_cons hlt, (List.getElem?_eq_some_iff.1 ha).2]
    rw [e3]
    simp only [h3, and_self, if_true]
    simp
  · intro h3
    by_cases hlt : j < l.length
    · have e3 : l.drop j = l[j] :: l.drop (j + 1) := List.drop_eq_getElem_cons hlt
      rw [e3]
      simp only
      rw [if_neg (h3 _ (List.getElem?_eq_getElem hlt))]
      simp
    · rw [List.drop_eq_nil_of_le (by omega)]
      simp
theorem putR_len (l : List U) (u : U) : (putR l u).length ≤ l.length + 1 := by
  unfold putR
  have h1 := congrArg List.length (List.takeWhile_append_dropWhile (p := lt u) (l := l))
  rw [List.length_append] at h1
  rw [List.length_append, List.length_cons]
  split
  · rename_i x r hx
    rw [hx, List.length_cons] at h1
    split
    · omega
    · rw [List.length_cons]; omega
  · simp only [List.length_nil]; omega
structure Fen.RI where
  j : Nat
  y : Option U
  m : Int
structure Fen.WI where
  j : Nat
  H : PH
  p : Option Addr
  c : Nat
set_option maxRecDepth 100000 in
set_option maxHeartbeats 400000 in
theorem rkind_ct (m : Md) (H1 : PH) (hM : m.In H1) (z : Int) : Ct Tryz.prog 47 [.agg [.slice m.psi m.si.length m.csi, .slice m.pfe m.fe.length m.cfe, .slice m.prk m.rk.length m.crk, .slice m.pmc m.mc.length m.cmc, .slice m.pln m.ln.length m.cln, .slice m.pis m.is.length m.cis, .int .i64 m.da, .int .i64 m.sl, .int .i64 m.re, .int .i64 m.fa, .slice m.prl m.rl.length m.crl].toArray, .int .i64 z] [H1] (fun v Hs => v = .int .i64 (kdOf m z) ∧ Hs = [H1]) := by
  refine Ct.body Tryz.func47 rfl Tryz.ntmps47 rfl ?_
  intro E F
  have hMis := hM.is
  have hmi := hM.is.len_le
  simp only [List.length_map, maxLen] at hmi
  refine W.seq (W.region ?_)
  refine RL.e (Eff.box 102 _ rfl rfl) rfl ?_
  rintro _ _ ⟨b2, rfl, rfl⟩
  refine RL.q (Yld.assign rfl) rfl (RL.nil (N.next ?_))
  refine W.seq ?_
  refine W.seq (W.region ?_)
  refine RL.q (Yld.move rfl) rfl ?_
  refine RL.q (Yld.bin rfl rfl BinV.lss) rfl ?_
  refine RL.q (Yld.move rfl) rfl ?_
  refine' RL.or (t := 7) (d := 13) 6 rfl (.of [0, 1, 2, 4, 5, 6] rfl) (.of [0, 1, 102] rfl) ?_ ?_ ?_
  rotate_left 1
  ·
   intro hg7
   refine RL.gq rfl rfl (Yld.move rfl) rfl ?_
   refine RL.gq rfl rfl (Yld.fieldAddr fo29_5 rfl) rfl ?_
   refine RL.gq rfl rfl (Yld.ld 102 Tryz.underlying26 rfl rfl rfl rfl) rfl ?_
   refine RL.gq rfl rfl (Yld.lenSl Tryz.underlying26 rfl) rfl ?_
   refine RL.gq rfl rfl (Yld.bin rfl rfl BinV.gtr) rfl ?_
   refine RL.q Yld.pk rfl ?_
   exact RL.nil (N.meet (.to rfl) (.to rfl))
  ·
   intro hg7
   refine RL.gskip rfl rfl rfl rfl ?_
   refine RL.gskip rfl rfl rfl rfl ?_
   refine RL.gskip rfl rfl rfl rfl ?_
   refine RL.gskip rfl rfl rfl rfl ?_
   refine RL.gskip rfl rfl rfl rfl ?_
   refine RL.q Yld.pk rfl ?_
   exact RL.nil (N.meet (.to rfl) (.to rfl))
  refine RL.nil (N.next ?_)
  refine W.keep (.of [1, 2, 13] rfl) (.of [0, 1, 102] rfl) ?_
  refine W.cond rfl (fun hc13 => ?_) (fun hc13 => ?_)
  ·
   simp only [Bool.or_eq_true, decide_eq_true_eq] at hc13
   have hk1 : kdOf m z = -1 := by unfold kdOf; exact if_pos hc13
   refine W.seq (W.region ?_)
   refine RL.q (Yld.assign rfl) rfl (RL.nil (N.next ?_))
   refine W.ret ?_
   refine N.then_ret ?_
   exact N.retBy [1] (.cons (.tmp rfl) .nil) rfl rfl rfl rfl ⟨by rw [hk1]; rfl, rfl⟩
  ·
   simp only [Bool.or_eq_false_iff, decide_eq_false_iff_not] at hc13
   obtain ⟨y, hy, hky⟩ := kdOf_in (m := m) (n := z) ⟨by omega, by omega⟩
   have hly : (m.is.map It.c)[(z - 1).toNat]? = some y.c := by rw [List.getElem?_map, hy]; rfl
   refine W.skip ?_
   refine N.next ?_
   refine W.seq (W.region ?_)
   refine RL.q (Yld.fieldAddr fo29_5 rfl) rfl ?_
   refine RL.q (Yld.ld 102 Tryz.underlying26 rfl rfl rfl rfl) rfl ?_
   refine RL.q (Yld.move rfl) rfl ?_
   refine RL.q (Yld.bin rfl rfl (by first | exact BinV.sub (by omega) (by omega) | exact BinV.subW)) rfl ?_
   refine RL.q (Yld.ixr Tryz.underlying26 sz64 rfl rfl) rfl ?_
   refine RL.q (Yld.fieldAddr fo64_1 rfl) rfl ?_
   refine RL.q (by first | exact Yld.lrF 102 1 Tryz.underlying3 rfl rfl rfl rfl | exact Yld.lrF 1 1 Tryz.underlying3 rfl rfl rfl rfl) rfl ?_
   refine RL.q (Yld.assign rfl) rfl (RL.nil (N.next ?_))
   refine W.keep (.of [4] rfl) (.of [0, 1, 102] rfl) ?_
   refine W.ret ?_
   exact N.retBy [1] (.cons (.tmp rfl) .nil) rfl rfl rfl rfl ⟨by rw [hky]; rfl, rfl⟩
set_option maxRecDepth 100000 in
set_option maxHeartbeats 400000 in
theorem ropen_ct (x : Rt) (mach : Int) (hx : x.In) (it : Int) : Ct Tryz.prog 46 [.agg [.int .i64 mach, .slice x.pu x.us.length x.cu, .int .i64 x.gen, .slice x.ps x.st.length x.cs, .slice x.pv x.va.length x.cv, .slice x.pc x.cl.length x.cc].toArray, .int .i64 it] [x.HC] (fun v Hs => v = .int .i64 (opens x.cl it : Nat) ∧ Hs = [x.HC]) := by
  refine Ct.body Tryz.func46 rfl Tryz.ntmps46 rfl ?_
  intro E F
  obtain ⟨hSu, hSs, hSv, hSc⟩ := id hx
  have hmu := hSu.len_le
  have hms := hSs.len_le
  have hmv := hSv.len_le
  have hmc := hSc.len_le
  simp only [List.length_map, iz_len, maxLen] at hmu hms hmv hmc
  refine W.seq (W.region ?_)
  refine RL.e (Eff.box 102 _ rfl rfl) rfl ?_
  rintro _ _ ⟨b2, rfl, rfl⟩
  refine RL.q (Yld.assign rfl) rfl (RL.nil (N.next ?_))
  refine W.seq (W.region ?_)
  refine RL.q (Yld.assign rfl) rfl (RL.nil (N.next ?_))
  refine W.seq ?_
  refine W.seq (W.region ?_)
  refine RL.q (Yld.assign rfl) rfl (RL.nil (N.next ?_))
  refine W.block ?_
  refine W.loopK (ι := Nat) (fun j => (j ≤ x.cl.length)) (fun j => [(5, .int .i64 (opens (x.cl.take j) it : Nat)), (6, .int .i64 (j : Nat))]) (fun j => []) (fun j => x.cl.length - j) (.of [1, 2] rfl) (.of [0, 1, 102] rfl) 0 ?_ ?_ ?_ ?_
  · exact Nat.zero_le _
  · exact (.as rfl (by first | rfl | (simp; done) | (congr 1; simp; done) | (congr 1; omega)) (.as rfl (by first | rfl | (simp; done) | (congr 1; simp; done) | (congr 1; omega)) .nil))
  · exact .nil
  rintro j hj
  refine W.keep (.of [5, 6, 1, 2] rfl) (.of [0, 1, 102] rfl) ?_
  refine W.seq ?_
  refine W.seq (W.region ?_)
  refine RL.q (Yld.move rfl) rfl ?_
  refine RL.q (Yld.fieldAddr fo59_5 rfl) rfl ?_
  refine RL.q (Yld.ld 102 Tryz.underlying57 rfl rfl rfl rfl) rfl ?_
  refine RL.q (Yld.lenSl Tryz.underlying57 rfl) rfl ?_
  refine RL.q (Yld.bin rfl rfl BinV.lss) rfl ?_
  refine RL.nil (N.next ?_)
  refine W.keep (.of [1, 2, 5, 6, 11] rfl) (.of [0, 1, 102] rfl) ?_
  first | refine W.condD rfl (fun hc11 => ?_) (fun hc11 => ?_) | (refine W.cond rfl (fun hc11 => ?_) (fun hc11 => ?_) <;> try simp only [Bool.or_eq_true, Bool.and_eq_true, Bool.not_eq_true', Bool.not_eq_false', decide_eq_true_eq, Bool.or_eq_false_iff, Bool.and_eq_false_iff, decide_eq_false_iff_not, beq_iff_eq, beq_eq_false_iff_ne, ne_eq, Decidable.not_not] at hc11)
  ·
   obtain ⟨c, hc⟩ : ∃ c, x.cl[j]? = some c := ⟨_, List.getElem?_eq_getElem (show j < x.cl.length by first | omega | (simp only [List.length_map] at *; omega))⟩
   have hlc : (x.cl.map Cl.c)[j]? = some c.c := by simp [hc]
   have hol := opens_le (x.cl.take j) it
   rw [List.length_take] at hol
   refine W.skip ?_
   refine N.next ?_
   refine W.seq ?_
   refine W.block ?_
   refine W.seq (W.region ?_)
   refine RL.q (Yld.fieldAddr fo59_5 rfl) rfl ?_
   refine RL.q (Yld.ld 102 Tryz.underlying57 rfl rfl rfl rfl) rfl ?_
   refine RL.q (Yld.move rfl) rfl ?_
   refine RL.q (Yld.ixr Tryz.underlying57 sz38 rfl rfl) rfl ?_
   refine RL.q (Yld.fieldAddr fo38_0 rfl) rfl ?_
   refine RL.q (by first | exact (by first | exact Yld.loadRow1 (cl := 1) Tryz.underlying3 rfl rfl rfl (by first | assumption | exact Own.sl (by assumption)) (by assumption) | exact Yld.loadRow1 (cl := 102) Tryz.underlying3 rfl rfl rfl (by first | assumption | exact Own.sl (by assumption)) (by assumption)) | exact (by first | exact Yld.lrF 1 0 Tryz.underlying3 rfl rfl rfl rfl | exact Yld.lrF 102 0 Tryz.underlying3 rfl rfl rfl rfl)) rfl ?_
   refine RL.q (Yld.move rfl) rfl ?_
   refine RL.q (Yld.bin rfl rfl BinV.eql) rfl ?_
   refine RL.nil (N.next ?_)
   refine W.keep (.of [1, 2, 5, 6, 21] rfl) (.of [0, 1, 102] rfl) ?_
   first | refine W.condD rfl (fun hc21 => ?_) (fun hc21 => ?_) | (refine W.cond rfl (fun hc21 => ?_) (fun hc21 => ?_) <;> try simp only [Bool.or_eq_true, Bool.and_eq_true, Bool.not_eq_true', Bool.not_eq_false', decide_eq_true_eq, Bool.or_eq_false_iff, Bool.and_eq_false_iff, decide_eq_false_iff_not, beq_iff_eq, beq_eq_false_iff_ne, ne_eq, Decidable.not_not] at hc21)
   ·
    refine W.region ?_
    refine RL.q (Yld.move rfl) rfl ?_
    refine RL.q (Yld.bin rfl rfl (by first | exact BinV.add (by omega) (by omega) | exact BinV.addW)) rfl ?_
    refine RL.q (Yld.assign rfl) rfl (RL.nil ?_)
    refine N.block_normal ?_
    refine N.next ?_
    refine W.region ?_
    refine RL.q (Yld.move rfl) rfl ?_
    refine RL.q (Yld.bin rfl rfl (by first | exact BinV.add (by omega) (by omega) | exact BinV.addW)) rfl ?_
    refine RL.q (Yld.assign rfl) rfl (RL.nil ?_)
    exact N.famK (j + 1) ⟨by omega, by omega⟩ (.as rfl (by rw [opens_take it hc, if_pos hc21]; simp) (.as rfl (by first | rfl | (simp; done) | (congr 1; simp; done) | (congr 1; omega)) .nil)) (.to rfl) .nil (.to rfl)
   ·
    refine W.skip ?_
    refine N.block_normal ?_
    refine N.next ?_
    refine W.region ?_
    refine RL.q (Yld.move rfl) rfl ?_
    refine RL.q (Yld.bin rfl rfl (by first | exact BinV.add (by omega) (by omega) | exact BinV.addW)) rfl ?_
    refine RL.q (Yld.assign rfl) rfl (RL.nil ?_)
    exact N.famK (j + 1) ⟨by omega, by omega⟩ (.as rfl (by rw [opens_take it hc, if_neg hc21]; simp) (.as rfl (by first | rfl | (simp; done) | (congr 1; simp; done) | (congr 1; omega)) .nil)) (.to rfl) .nil (.to rfl)
  ·
   have hend : j = x.cl.length := by omega
   rw [hend, List.take_length]
   refine W.exit ?_
   refine N.then_exit ?_
   refine N.then_exit ?_
   refine N.block_eq ?_
   refine N.next ?_
   refine W.keep (.of [5] rfl) (.of [0, 1, 102] rfl) ?_
   refine W.seq (W.region ?_)
   refine RL.q (Yld.move rfl) rfl (RL.q (Yld.assign rfl) rfl (RL.nil (N.next ?_)))
   refine W.ret ?_
   exact N.retBy [1] (.cons (.tmp rfl) .nil) rfl rfl rfl rfl ⟨rfl, rfl⟩
def Fen.newK (is : List It) (mach : Int) (j : Nat) (x : It) (k : Nat) : List U := newN is mach j ++ ((x.on.take k).filter fun z => decide (z = mach)).map fun _ => newU mach j x
theorem newK_zero (is : List It) (mach : Int) (j : Nat) (x : It) : newK is mach j x 0 = newN is mach j := by unfold newK; simp
theorem newK_in {is : List It} {mach : Int} {j : Nat} {x : It} {k : Nat} (h : x.on[k]? = some mach) : newK is mach j x (k + 1) = newK is mach j x k ++ [newU mach j x] := by
  unfold newK; rw [tsnoc h, List.filter_append]; simp
theorem newK_out {is : List It} {mach : Int} {j : Nat} {x : It} {k : Nat} {z : Int} (h : x.on[k]? = some z) (hz : z ≠ mach) : newK is mach j x (k + 1) = newK is mach j x k := by
  unfold newK; rw [tsnoc h, List.filter_append]; simp [hz]
theorem Cat.MsV.lt {n : Nat} {l : List Int} (h : MsV n l) {i : Nat} {a : Int} (ha : l[i]? = some a) : ∀ (k : Nat) (b : Int), l[i + 1 + k]? = some b → a < b
  | 0, b, hb => by
    have := (h.2 (i + 1) b (List.getElem?_eq_some_iff.1 hb).1 hb).2 (by omega) a ha
    exact this
  | k + 1, b, hb => by
    have hlt := (List.getElem?_eq_some_iff.1 hb).1
    obtain ⟨c, hc⟩ : ∃ c, l[i + 1 + k]? = some c := ⟨_, List.getElem?_eq_getElem (by omega)⟩
    have h1 := MsV.lt h ha k c hc
    have h2 := (h.2 (i + 1 + (k + 1)) b hlt hb).2 (by omega) c hc
    omega
theorem Cat.MsV.nodup {n : Nat} {l : List Int} (h : MsV n l) : l.Nodup := by
  rw [List.nodup_iff_pairwise_ne, List.pairwise_iff_getElem]
  intro i j hi hj hij e
  have := h.lt (List.getElem?_eq_getElem hi) (j - i - 1) l[j] (by rw [show i + 1 + (j - i - 1) = j by omega]; exact List.getElem?_eq_getElem hj)
  omega
theorem filt_one {l : List Int} (hn : l.Nodup) (a : Int) : (l.filter fun z => decide (z = a)) = if a ∈ l then [a] else [] := by
  induction l with
  | nil => rfl
  | cons x l ih =>
    rw [List.nodup_cons] at hn
    rw [List.filter_cons, ih hn.2]
    by_cases e : x = a
    · subst e; simp [hn.1]
    · have e2 : ¬ a = x := fun h => e h.symm
      simp [e, e2]
theorem newK_end {m : Md} (hv : MdV m) {mach : Int} {j : Nat} {x : It} (h : m.is[j]? = some x) : newK m.is mach j x x.on.length = newN m.is mach (j + 1) := by
  unfold newK
  rw [List.take_length, filt_one (hv.it x (List.mem_of_getElem? h)).2.1.nodup]
  by_cases hm : mach ∈ x.on
  · rw [if_pos hm, newN_in h hm]; rfl
  · rw [if_neg hm, newN_out h hm]; simp
theorem newK_le {m : Md} (hv : MdV m) {mach : Int} {j : Nat} {x : It} (h : m.is[j]? = some x) (k : Nat) : (newK m.is mach j x k).length ≤ j + 1 := by
  unfold newK
  have h1 := newN_le (is := m.is) (mach := mach) j
  have h2 := ((List.take_sublist k x.on).filter fun z => decide (z = mach)).length_le
  rw [filt_one (hv.it x (List.mem_of_getElem? h)).2.1.nodup] at h2
  have h3 : (if mach ∈ x.on then [mach] else []).length ≤ 1 := by split <;> simp
  rw [List.length_append, List.length_map]; omega
set_option maxRecDepth 100000 in
set_option maxHeartbeats 3200000 in
theorem rnew_ct (m : Md) (H1 : PH) (hM : m.In H1) (mach : Int) (hv : MdV m) : Ct Tryz.prog 22 [.agg [.slice m.psi m.si.length m.csi, .slice m.pfe m.fe.length m.cfe, .slice m.prk m.rk.length m.crk, .slice m.pmc m.mc.length m.cmc, .slice m.pln m.ln.length m.cln, .slice m.pis m.is.length m.cis, .int .i64 m.da, .int .i64 m.sl, .int .i64 m.re, .int .i64 m.fa, .slice m.prl m.rl.length m.crl].toArray, .int .i64 mach] [H1] (fun v Hs => ∃ y : Rt, v = .agg [.int .i64 mach, .slice y.pu y.us.length y.cu, .int .i64 y.gen, .slice y.ps y.st.length y.cs, .slice y.pv y.va.length y.cv, .slice y.pc y.cl.length y.cc].toArray ∧ y.In ∧ y.Is (newT m mach) ∧ Hs = [H1, y.HU, y.HS, y.HV, y.HC]) := by
  refine Ct.body Tryz.func22 rfl Tryz.ntmps22 rfl ?_
  intro E F
  have hMis := hM.is
  have hmi := hMis.len_le
  simp only [List.length_map, maxLen] at hmi
  have hn5 := hv.n5
  refine W.seq ?_
  refine W.imp (Imp.empty _ 160) ?_
  refine W.imp (Imp.empty _ 161) ?_
  refine W.imp (Imp.empty _ 162) ?_
  refine W.imp (Imp.empty _ 163) ?_
  refine W.region ?_
  refine RL.e (Eff.box 102 _ rfl rfl) rfl ?_
  rintro _ _ ⟨b2, rfl, rfl⟩
  refine RL.e (Eff.alloc 104 zc59) rfl ?_
  rintro _ _ ⟨b4, rfl, rfl⟩
  refine RL.nil (N.next ?_)
  refine W.seq (W.region ?_)
  refine RL.q (Yld.move rfl) rfl ?_
  refine RL.q (Yld.buildP lay59 (.cons rfl rfl .nil) rfl) rfl ?_
  refine RL.e (Eff.alloc 105 zc59) rfl ?_
  rintro _ _ ⟨b5, rfl, rfl⟩
  refine RL.e0 (Eff.storeS (c := 105) _ sz59 rfl rfl rfl rfl rfl rfl rfl (by (try simp only [putAt, List.take, List.drop, List.nil_append, List.cons_append, List.append_nil, List.length_cons, List.length_nil, Nat.add_zero, Nat.zero_add, Nat.reduceAdd]); rfl)) ?_
  rintro _ _ rfl
  refine RL.nil (N.next ?_)
  refine W.seq ?_
  refine W.seq (W.region ?_)
  refine RL.q (Yld.assign rfl) rfl (RL.nil (N.next ?_))
  refine W.block ?_
  refine W.loopK (ι := WI) (fun z => (z.j ≤ m.is.length ∧ Own z.H z.p z.c 48 5 ((newN m.is mach z.j).map U.c))) (fun z => [(6, .int .i64 ((z.j : Int) + 1))]) (fun z => [(105, single b5 (.cells [.int .i64 mach, .slice z.p (newN m.is mach z.j).length z.c, .int .i64 0, .slice none 0 0, .slice none 0 0, .slice none 0 0].toArray 59 (0, 0))), (160, z.H)]) (fun z => m.is.length - z.j) (.of [1, 2, 4, 5] rfl) (.of [0, 1, 102, 104, 161, 162, 163] rfl) ⟨0, emp, none, 0⟩ ?_ ?_ ?_ ?_
  · exact ⟨Nat.zero_le _, Own.nil _ _⟩
  · exact (.as rfl (by first | rfl | (simp; done) | (congr 1; simp; done) | (congr 1; omega)) .nil)
  · exact (.to rfl)
  rintro z ⟨hj, hO⟩
  refine W.keep (.of [6, 1, 2, 4, 5] rfl) (.of [105, 160, 0, 1, 102, 104, 161, 162, 163] rfl) ?_
  refine W.seq ?_
  refine W.seq (W.region ?_)
  refine RL.q (Yld.move rfl) rfl ?_
  refine RL.q (Yld.fieldAddr fo29_5 rfl) rfl ?_
  refine RL.q (Yld.ld 102 Tryz.underlying26 rfl rfl rfl rfl) rfl ?_
  refine RL.q (Yld.lenSl Tryz.underlying26 rfl) rfl ?_
  refine RL.q (Yld.bin rfl rfl BinV.leq) rfl ?_
  refine RL.nil (N.next ?_)
  refine W.keep (.of [1, 2, 4, 5, 6, 16] rfl) (.of [0, 1, 102, 104, 105, 160, 161, 162, 163] rfl) ?_
  first | refine W.condD rfl (fun hc16 => ?_) (fun hc16 => ?_) | (refine W.cond rfl (fun hc16 => ?_) (fun hc16 => ?_) <;> try simp only [Bool.or_eq_true, Bool.and_eq_true, Bool.not_eq_true', Bool.not_eq_false', decide_eq_true_eq, Bool.or_eq_false_iff, Bool.and_eq_false_iff, decide_eq_false_iff_not, beq_iff_eq, beq_eq_false_iff_ne, ne_eq, Decidable.not_not] at hc16)
  ·
   obtain ⟨x, hx⟩ : ∃ x, m.is[z.j]? = some x := ⟨_, List.getElem?_eq_getElem (by omega)⟩
   have hlx : (m.is.map It.c)[((z.j : Int) + 1 - 1).toNat]? = some x.c := by rw [show ((z.j : Int) + 1 - 1).toNat = z.j by omega, List.getElem?_map, hx]; rfl
   have hkx : kdOf m ((z.j : Int) + 1) = x.kd := by
     unfold kdOf
     rw [if_neg (by omega), show ((z.j : Int) + 1 - 1).toNat = z.j by omega, hx]
   have hon := hM.on x (List.mem_of_getElem? hx)
   have hml := hon.len_le
   simp only [iz_len, maxLen] at hml
   refine W.skip ?_
   refine N.next ?_
   refine W.seq ?_
   refine W.block ?_
   refine W.seq (W.region ?_)
   refine RL.q (Yld.fieldAddr fo29_5 rfl) rfl ?_
   refine RL.q (Yld.ld 102 Tryz.underlying26 rfl rfl rfl rfl) rfl ?_
   refine RL.q (Yld.move rfl) rfl ?_
   refine RL.q (Yld.bin rfl rfl (by first | exact BinV.sub (by omega) (by omega) | exact BinV.subW)) rfl ?_
   refine RL.q (Yld.ixr Tryz.underlying26 sz64 rfl rfl) rfl ?_
   refine RL.q (Yld.fieldAddr fo64_6 rfl) rfl ?_
   refine RL.q (by first | exact Yld.lrF 1 6 Tryz.underlying55 rfl rfl rfl rfl | exact Yld.lrF 102 6 Tryz.underlying55 rfl rfl rfl rfl | exact Yld.lrF 104 6 Tryz.underlying55 rfl rfl rfl rfl | exact Yld.lrF 161 6 Tryz.underlying55 rfl rfl rfl rfl | exact Yld.lrF 162 6 Tryz.underlying55 rfl rfl rfl rfl | exact Yld.lrF 163 6 Tryz.underlying55 rfl rfl rfl rfl | exact Yld.lrF 105 6 Tryz.underlying55 rfl rfl rfl rfl | exact Yld.lrF 160 6 Tryz.underlying55 rfl rfl rfl rfl) rfl ?_
   refine RL.q (Yld.assign rfl) rfl (RL.nil (N.next ?_))
   refine W.keep (.of [1, 2, 4, 5, 6, 7] rfl) (.of [0, 1, 102, 104, 105, 160, 161, 162, 163] rfl) ?_
   refine W.seq (W.region ?_)
   refine RL.q (Yld.assign rfl) rfl (RL.nil (N.next ?_))
   refine W.block ?_
   refine W.loopK (ι := WI) (fun w => (w.j ≤ x.on.length ∧ Own w.H w.p w.c 48 5 ((newK m.is mach z.j x w.j).map U.c))) (fun w => [(8, .int .i64 (w.j : Nat))]) (fun w => [(105, single b5 (.cells [.int .i64 mach, .slice w.p (newK m.is mach z.j x w.j).length w.c, .int .i64 0, .slice none 0 0, .slice none 0 0, .slice none 0 0].toArray 59 (0, 0))), (160, w.H)]) (fun w => x.on.length - w.j) (.of [1, 2, 4, 5, 6, 7] rfl) (.of [0, 1, 102, 104, 161, 162, 163] rfl) ⟨0, z.H, z.p, z.c⟩ ?_ ?_ ?_ ?_
   · exact ⟨Nat.zero_le _, by rw [newK_zero]; exact hO⟩
   · exact (.as rfl (by first | rfl | (simp; done) | (congr 1; simp; done) | (congr 1; omega)) .nil)
   · exact (.as rfl (by rw [newK_zero]) (.to rfl))
   rintro w ⟨hwj, hOw⟩
   refine W.keep (.of [8, 1, 2, 4, 5, 6, 7] rfl) (.of [105, 160, 0, 1, 102, 104, 161, 162, 163] rfl) ?_
   refine W.seq ?_
   refine W.seq (W.region ?_)
   refine RL.q (Yld.move rfl) rfl (RL.q (Yld.move rfl) rfl ?_)
   refine RL.q (Yld.lenSl Tryz.underlying55 rfl) rfl ?_
   refine RL.q (Yld.bin rfl rfl BinV.lss) rfl ?_
   refine RL.nil (N.next ?_)
   first | refine W.condD rfl (fun hc29 => ?_) (fun hc29 => ?_) | (refine W.cond rfl (fun hc29 => ?_) (fun hc29 => ?_) <;> try simp only [Bool.or_eq_true, Bool.and_eq_true, Bool.not_eq_true', Bool.not_eq_false', decide_eq_true_eq, Bool.or_eq_false_iff, Bool.and_eq_false_iff, decide_eq_false_iff_not, beq_iff_eq, beq_eq_false_iff_ne, ne_eq, Decidable.not_not] at hc29)
   ·
    obtain ⟨a, ha⟩ : ∃ a, x.on[w.j]? = some a := ⟨_, List.getElem?_eq_getElem (by omega)⟩
    have hla := iz_get ha
    have hnk := newK_le (mach := mach) hv hx w.j
    refine W.skip ?_
    refine N.next ?_
    refine W.keep (.of [1, 2, 4, 5, 6, 7, 8] rfl) (.of [0, 1, 102, 104, 105, 160, 161, 162, 163] rfl) ?_
    refine W.seq ?_
    refine W.block ?_
    refine W.seq ?_
    refine W.seq (W.region ?_)
    refine RL.q (Yld.move rfl) rfl (RL.q (Yld.move rfl) rfl ?_)
    refine RL.q (Yld.ixr Tryz.underlying55 sz3 rfl rfl) rfl ?_
    refine RL.q (by first | exact (by first | exact Yld.loadRow1 (cl := 1) Tryz.underlying3 rfl rfl rfl (by first | assumption | exact Own.sl (by assumption)) (by assumption) | exact Yld.loadRow1 (cl := 102) Tryz.underlying3 rfl rfl rfl (by first | assumption | exact Own.sl (by assumption)) (by assumption) | exact Yld.loadRow1 (cl := 104) Tryz.underlying3 rfl rfl rfl (by first | assumption | exact Own.sl (by assumption)) (by assumption) | exact Yld.loadRow1 (cl := 161) Tryz.underlying3 rfl rfl rfl (by first | assumption | exact Own.sl (by assumption)) (by assumption) | exact Yld.loadRow1 (cl := 162) Tryz.underlying3 rfl rfl rfl (by first | assumption | exact Own.sl (by assumption)) (by assumption) | exact Yld.loadRow1 (cl := 163) Tryz.underlying3 rfl rfl rfl (by first | assumption | exact Own.sl (by assumption)) (by assumption) | exact Yld.loadRow1 (cl := 105) Tryz.underlying3 rfl rfl rfl (by first | assumption | exact Own.sl (by assumption)) (by assumption) | exact Yld.loadRow1 (cl := 160) Tryz.underlying3 rfl rfl rfl (by first | assumption | exact Own.sl (by assumption)) (by assumption)) | exact (by first | exact Yld.lrF 1 0 Tryz.underlying3 rfl rfl rfl rfl | exact Yld.lrF 102 0 Tryz.underlying3 rfl rfl rfl rfl | exact Yld.lrF 104 0 Tryz.underlying3 rfl rfl rfl rfl | exact Yld.lrF 161 0 Tryz.underlying3 rfl rfl rfl rfl | exact Yld.lrF 162 0 Tryz.underlying3 rfl rfl rfl rfl | exact Yld.lrF 163 0 Tryz.underlying3 rfl rfl rfl rfl | exact Yld.lrF 105 0 Tryz.underlying3 rfl rfl rfl rfl | exact Yld.lrF 160 0 Tryz.underlying3 rfl rfl rfl rfl)) rfl ?_
    refine RL.q (Yld.move rfl) rfl ?_
    refine RL.q (Yld.bin rfl rfl BinV.neq) rfl ?_
    refine RL.nil (N.next ?_)
    refine W.keep (.of [1, 2, 4, 5, 6, 7, 8, 37] rfl) (.of [0, 1, 102, 104, 105, 160, 161, 162, 163] rfl) ?_
    first | refine W.condD rfl (fun hc37 => ?_) (fun hc37 => ?_) | (refine W.cond rfl (fun hc37 => ?_) (fun hc37 => ?_) <;> try simp only [Bool.or_eq_true, Bool.and_eq_true, Bool.not_eq_true', Bool.not_eq_false', decide_eq_true_eq, Bool.or_eq_false_iff, Bool.and_eq_false_iff, decide_eq_false_iff_not, beq_iff_eq, beq_eq_false_iff_ne, ne_eq, Decidable.not_not] at hc37)
    ·
     refine W.exit ?_
     refine N.then_exit ?_
     refine N.block_eq ?_
     refine N.next ?_
     refine W.region ?_
     refine RL.q (Yld.move rfl) rfl ?_
     refine RL.q (Yld.bin rfl rfl (by first | exact BinV.add (by omega) (by omega) | exact BinV.addW)) rfl ?_
     refine RL.q (Yld.assign rfl) rfl (RL.nil ?_)
     exact N.famK ⟨w.j + 1, w.H, w.p, w.c⟩ ⟨⟨by dsimp only; omega, by dsimp only; rw [newK_out ha hc37]; exact hOw⟩, by dsimp only; omega⟩ (.as rfl (by first | rfl | (simp; done) | (congr 1; simp; done) | (congr 1; omega)) .nil) (.to rfl) (.as rfl (by rw [newK_out ha hc37]) (.to rfl)) (.to rfl)
    ·
     have hc37 : a = mach := Classical.not_not.1 hc37
     rw [hc37] at ha
     refine W.skip ?_
     refine N.next ?_
     refine W.seq (W.region ?_)
     refine RL.q (Yld.move rfl) rfl ?_
     refine RL.q (Yld.buildP lay48 (.cons rfl rfl .nil) rfl) rfl ?_
     refine RL.e (Eff.alloc 109 zc48) rfl ?_
     rintro _ _ ⟨b9, rfl, rfl⟩
     refine RL.e0 (Eff.storeS (c := 109) _ sz48 rfl rfl rfl rfl rfl rfl rfl (by (try simp only [putAt, List.take, List.drop, List.nil_append, List.cons_append, List.append_nil, List.length_cons, List.length_nil, Nat.add_zero, Nat.zero_add, Nat.reduceAdd]); rfl)) ?_
     rintro _ _ rfl
     refine RL.nil (N.next ?_)
     refine W.seq ?_
     refine W.seq (W.region ?_)
     refine RL.q (Yld.ldW 102 Tryz.underlying29 sz29 rfl rfl rfl rfl) rfl ?_
     refine RL.q (Yld.move rfl) rfl ?_
     refine RL.e (Eff.call ent47 [1] [1] (.cons rfl (.cons rfl .nil)) (rkind_ct m H1 hM ((z.j : Int) + 1)) rfl rfl rfl rfl (by rintro _ _ ⟨_, rfl⟩; rfl)) rfl ?_
     rintro _ _ ⟨_, ⟨rfl, rfl⟩, rfl⟩
     rw [hkx]
     refine RL.q (Yld.bin rfl rfl BinV.eql) rfl ?_
     refine RL.nil (N.next ?_)
     refine W.keep (.of [1, 2, 4, 5, 6, 7, 8, 9, 43] rfl) (.of [0, 1, 102, 104, 105, 109, 160, 161, 162, 163] rfl) ?_
     first | refine W.condD rfl (fun hc43 => ?_) (fun hc43 => ?_) | (refine W.cond rfl (fun hc43 => ?_) (fun hc43 => ?_) <;> try simp only [Bool.or_eq_true, Bool.and_eq_true, Bool.not_eq_true', Bool.not_eq_false', decide_eq_true_eq, Bool.or_eq_false_iff, Bool.and_eq_false_iff, decide_eq_false_iff_not, beq_iff_eq, beq_eq_false_iff_ne, ne_eq, Decidable.not_not] at hc43)
     ·
      refine W.region ?_
      refine RL.q (Yld.move rfl) rfl ?_
      refine RL.q (Yld.fieldAddr fo48_1 rfl) rfl ?_
      refine RL.e0 (Eff.storeS (c := 109) _ sz3 rfl rfl rfl rfl rfl rfl rfl (by (try simp only [putAt, List.take, List.drop, List.nil_append, List.cons_append, List.append_nil, List.length_cons, List.length_nil, Nat.add_zero, Nat.zero_add, Nat.reduceAdd]); rfl)) ?_
      rintro _ _ rfl
      refine RL.nil (N.next ?_)
      refine W.region ?_
      refine RL.q (Yld.fieldAddr fo59_1 rfl) rfl ?_
      refine RL.q (Yld.ld 105 Tryz.underlying41 rfl rfl rfl rfl) rfl ?_
      refine RL.q (Yld.ldW 109 Tryz.underlying48 sz48 rfl rfl rfl rfl) rfl ?_
      refine RL.e (Eff.buildSlice 149 Tryz.underlying41 sz48 zc48 rfl rfl (.cons rfl rfl .nil) rfl) rfl ?_
      rintro _ _ ⟨b49, rfl, rfl⟩
      refine RL.e (Eff.appendE (tc := 160) (sc := 149) (ms := [newU mach z.j x]) U.c Tryz.underlying41 el48 rfl rfl rfl rfl hOw rfl (Own.one (l := (newU mach z.j x).c) rfl (U.one _) (by unfold newU U.c; first | (rw [if_pos hc43]; rfl) | (rw [if_neg hc43]; rfl))).sl rfl (fun a _ => U.one a) (by decide) (by simp; omega) (by simp [maxLen]; omega)) rfl ?_
      rintro _ _ ⟨Ha, pa, ca, rfl, hOa, rfl⟩
      refine RL.q (Yld.fieldAddr fo59_1 rfl) rfl ?_
      refine RL.e0 (Eff.storeS (c := 105) _ sz41 rfl rfl rfl rfl rfl rfl rfl (by (try simp only [putAt, List.take, List.drop, List.nil_append, List.cons_append, List.append_nil, List.length_cons, List.length_nil, Nat.add_zero, Nat.zero_add, Nat.reduceAdd]); rfl)) ?_
      rintro _ _ rfl
      refine RL.nil ?_
      refine N.block_normal ?_
      refine N.next ?_
      refine W.keep (.of [1, 2, 4, 5, 6, 7, 8] rfl) (.of [0, 1, 102, 104, 105, 109, 149, 160, 161, 162, 163] rfl) ?_
      refine W.region ?_
      refine RL.q (Yld.move rfl) rfl ?_
      refine RL.q (Yld.bin rfl rfl (by first | exact BinV.add (by omega) (by omega) | exact BinV.addW)) rfl ?_
      refine RL.q (Yld.assign rfl) rfl (RL.nil ?_)
      exact N.famK ⟨w.j + 1, Ha, pa, ca⟩ ⟨⟨by dsimp only; omega, by dsimp only; rw [newK_in ha]; exact hOa⟩, by dsimp only; omega⟩ (.as rfl (by first | rfl | (simp; done) | (congr 1; simp; done) | (congr 1; omega)) .nil) (.to rfl) (.as rfl (by rw [newK_in ha]) (.to rfl)) (.to rfl)
     ·
      refine W.skip ?_
      refine N.next ?_
      refine W.region ?_
      refine RL.q (Yld.fieldAddr fo59_1 rfl) rfl ?_
      refine RL.q (Yld.ld 105 Tryz.underlying41 rfl rfl rfl rfl) rfl ?_
      refine RL.q (Yld.ldW 109 Tryz.underlying48 sz48 rfl rfl rfl rfl) rfl ?_
      refine RL.e (Eff.buildSlice 149 Tryz.underlying41 sz48 zc48 rfl rfl (.cons rfl rfl .nil) rfl) rfl ?_
      rintro _ _ ⟨b49, rfl, rfl⟩
      refine RL.e (Eff.appendE (tc := 160) (sc := 149) (ms := [newU mach z.j x]) U.c Tryz.underlying41 el48 rfl rfl rfl rfl hOw rfl (Own.one (l := (newU mach z.j x).c) rfl (U.one _) (by unfold newU U.c; first | (rw [if_pos hc43]; rfl) | (rw [if_neg hc43]; rfl))).sl rfl (fun a _ => U.one a) (by decide) (by simp; omega) (by simp [maxLen]; omega)) rfl ?_
      rintro _ _ ⟨Ha, pa, ca, rfl, hOa, rfl⟩
      refine RL.q (Yld.fieldAddr fo59_1 rfl) rfl ?_
      refine RL.e0 (Eff.storeS (c := 105) _ sz41 rfl rfl rfl rfl rfl rfl rfl (by (try simp only [putAt, List.take, List.drop, List.nil_append, List.cons_append, List.append_nil, List.length_cons, List.length_nil, Nat.add_zero, Nat.zero_add, Nat.reduceAdd]); rfl)) ?_
      rintro _ _ rfl
      refine RL.nil ?_
      refine N.block_normal ?_
      refine N.next ?_
      refine W.keep (.of [1, 2, 4, 5, 6, 7, 8] rfl) (.of [0, 1, 102, 104, 105, 109, 149, 160, 161, 162, 163] rfl) ?_
      refine W.region ?_
      refine RL.q (Yld.move rfl) rfl ?_
      refine RL.q (Yld.bin rfl rfl (by first | exact BinV.add (by omega) (by omega) | exact BinV.addW)) rfl ?_
      refine RL.q (Yld.assign rfl) rfl (RL.nil ?_)
      exact N.famK ⟨w.j + 1, Ha, pa, ca⟩ ⟨⟨by dsimp only; omega, by dsimp only; rw [newK_in ha]; exact hOa⟩, by dsimp only; omega⟩ (.as rfl (by first | rfl | (simp; done) | (congr 1; simp; done) | (congr 1; omega)) .nil) (.to rfl) (.as rfl (by rw [newK_in ha]) (.to rfl)) (.to rfl)
   ·
    have hend : w.j = x.on.length := by omega
    rw [hend, newK_end hv hx] at hOw ⊢
    refine W.exit ?_
    refine N.then_exit ?_
    refine N.then_exit ?_
    refine N.block_eq ?_
    refine N.block_normal ?_
    refine N.next ?_
    refine W.keep (.of [1, 2, 4, 5, 6] rfl) (.of [0, 1, 102, 104, 105, 160, 161, 162, 163] rfl) ?_
    refine W.region ?_
    refine RL.q (Yld.move rfl) rfl ?_
    refine RL.q (Yld.bin rfl rfl (by first | exact BinV.add (by omega) (by omega) | exact BinV.addW)) rfl ?_
    refine RL.q (Yld.assign rfl) rfl (RL.nil ?_)
    exact N.famK ⟨z.j + 1, w.H, w.p, w.c⟩ ⟨⟨by dsimp only; omega, by dsimp only; exact hOw⟩, by dsimp only; omega⟩ (.as rfl (by first | rfl | (simp; done) | (congr 1; simp; done) | (congr 1; omega)) .nil) (.to rfl) (.as rfl (by rfl) (.to rfl)) (.to rfl)
  ·
   have hend : z.j = m.is.length := by omega
   rw [hend] at hO ⊢
   refine W.exit ?_
   refine N.then_exit ?_
   refine N.then_exit ?_
   refine N.block_eq ?_
   refine N.next ?_
   refine W.keep (.of [4, 5] rfl) (.of [0, 1, 102, 104, 105, 160, 161, 162, 163] rfl) ?_
   refine W.seq (W.region ?_)
   refine RL.q (Yld.ldW 105 Tryz.underlying59 sz59 rfl rfl rfl rfl) rfl ?_
   refine RL.e0 (Eff.storeS (c := 104) _ sz59 rfl rfl rfl rfl rfl rfl rfl (by (try simp only [putAt, List.take, List.drop, List.nil_append, List.cons_append, List.append_nil, List.length_cons, List.length_nil, Nat.add_zero, Nat.zero_add, Nat.reduceAdd]); rfl)) ?_
   rintro _ _ rfl
   refine RL.nil (N.next ?_)
   refine W.ret ?_
   exact N.retBy [1, 160, 161, 162, 163] (.cons (by first | exact .cell (c := 104) rfl rfl (fun w hs => run_loadVarA Tryz.underlying59 rfl sz59 rfl (fun j u hj => by rw [Nat.zero_add, PH.sub.cell hs (by first | exact single_self _ _ | exact pset_self _ _ _ | assumption)]; exact hj))) .nil) rfl rfl rfl rfl ⟨⟨z.p, z.c, newN m.is mach m.is.length, z.H, 0, none, 0, [], emp, none, 0, [], emp, none, 0, [], emp⟩, rfl, ⟨hO.sl, sl_nil1 _, sl_nil1 _, (Own.nil 38 4).sl⟩, ⟨rfl, rfl, rfl, rfl, rfl⟩, rfl⟩
end Go.Proofs.YtboapdcmaeojgaaGreatDoor
