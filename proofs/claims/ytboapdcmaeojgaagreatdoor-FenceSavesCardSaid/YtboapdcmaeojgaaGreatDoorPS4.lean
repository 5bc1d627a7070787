/- Several texts in one, in their build order: what the proofs of this seat share. -/
import Derived.Test.YtboapdcmaeojgaaGreatDoorPS3
import Derived.Test.YtboapdcmaeojgaaGreatDoorPS1
set_option linter.unusedVariables false
set_option linter.unusedSimpArgs false
set_option linter.unusedSectionVars false
namespace Go.Proofs.YtboapdcmaeojgaaGreatDoor
open SL Cat Fen
set_option linter.unusedVariables false
set_option linter.unusedSimpArgs false
theorem ent36 : Ent Tryz.prog 36 := ⟨_, _, Tryz.func36, by kernel_rfl, rfl⟩
theorem fo48_4 : fieldOff Tryz.prog 48 4 = some 4 := by kernel_rfl
theorem ent14 : Ent Tryz.prog 14 := ⟨_, _, Tryz.func14, by kernel_rfl, rfl⟩
theorem sz57 : sz Tryz.prog 57 1 := (by kernel_rfl : (Tryz.prog.info? 57).map (·.size) = some 1)
theorem ent50 : Ent Tryz.prog 50 := ⟨_, _, Tryz.func50, by kernel_rfl, rfl⟩
theorem fo38_1 : fieldOff Tryz.prog 38 1 = some 1 := by kernel_rfl
theorem fo38_2 : fieldOff Tryz.prog 38 2 = some 2 := by kernel_rfl
theorem ent92 : Ent Tryz.prog 92 := ⟨_, _, Tryz.func92, by kernel_rfl, rfl⟩
theorem ent51 : Ent Tryz.prog 51 := ⟨_, _, Tryz.func51, by kernel_rfl, rfl⟩
theorem el38 : el Tryz.prog 38 4 32 := .mk (by kernel_rfl)
set_option maxRecDepth 100000 in
set_option maxHeartbeats 400000 in
theorem cloneU_ct (l : List U) (H1 : PH) (p : Option Addr) (c n : Nat) (hn : n = l.length) (hS : Sl H1 p c 5 (l.map U.c)) (hb : l.length ≤ 1000000) : Ct Tryz.prog 36 [.slice p n c] [H1] (fun v Hs => ∃ H' p' c', v = .slice p' l.length c' ∧ Own H' p' c' 48 5 (l.map U.c) ∧ Hs = [H1, H']) := by
  refine Ct.body Tryz.func36 rfl Tryz.ntmps36 rfl ?_
  intro E F
  have hmx := hS.len_le
  simp only [List.length_map, maxLen] at hmx
  refine W.seq ?_
  refine W.imp (Imp.empty _ 160) (W.region (q_an ?_))
  refine W.seq (q_sr (q_q q_mv ?_))
  refine q_q (Yld.bin rfl rfl (BinV.eqlSN u41)) (q_nn ?_)
  refine W.cond rfl (fun hc4 => ?_) (fun hc4 => ?_)
  ·
   have hl0 : l = [] := by
     cases p with
     | some a => cases hc4
     | none => exact List.map_eq_nil_iff.1 hS.1
   refine q_sr (q_an ?_)
   refine W.ret (N.then_ret ?_)
   exact q_r [1, 160] (.cons (.tmp rfl) .nil) rfl rfl rfl ⟨emp, none, 0, by rw [hl0]; rfl, by rw [hl0]; exact Own.nil _ _, rfl⟩
  ·
   refine W.skip (N.next (q_sr ?_))
   refine q_e (Eff.buildSlice 105 u41 sz48 zc48 rfl rfl .nil rfl) ?_
   rintro _ _ ⟨b5, rfl, rfl⟩
   refine q_q q_mv ?_
   refine q_e (Eff.appendE (tc := 105) (sc := 1) (ms := l) (ls := ([] : List U)) U.c u41 el48 rfl rfl rfl rfl (Own.none0 rfl : Own _ _ 0 48 5 (([] : List U).map U.c)) rfl hS hn (fun a _ => U.one a) (by decide) (by simp; omega) (by simp [maxLen]; omega)) ?_
   rintro _ _ ⟨Ha, pa, ca, rfl, hOa, rfl⟩
   refine q_an ?_
   refine q_k [2] [0, 1, 105, 160] ?_
   refine W.ret ?_
   exact q_r [1, 105] (.cons (.tmp rfl) .nil) rfl rfl rfl ⟨Ha, pa, ca, rfl, hOa, rfl⟩
theorem fz_any {α : Type} {q : α → Bool} {l : List α} : decide (0 ≤ fz q l) = l.any q := by
  unfold fz
  cases h : l.findIdx? q with
  | none =>
    have h1 := List.findIdx?_eq_none_iff.1 h
    have : l.any q = false := List.any_eq_false.2 fun x hx => by rw [h1 x hx]; decide
    rw [this]; rfl
  | some i =>
    obtain ⟨hi, hq, _⟩ := List.findIdx?_eq_some_iff_getElem.1 h
    have : l.any q = true := List.any_eq_true.2 ⟨_, List.getElem_mem hi, hq⟩
    rw [this]
    exact decide_eq_true (by simp)
structure Fen.UI where
  j : Nat
  H : PH
structure Fen.EO2 where
  j : Nat
  H : PH
  p : Option Addr
  c : Nat
def Fen.blend (f : U → U) (us : List U) (j : Nat) : List U := (us.take j).map f ++ us.drop j
theorem blend_zero (f : U → U) (us : List U) : blend f us 0 = us := by simp [blend]
theorem blend_end (f : U → U) (us : List U) : blend f us us.length = us.map f := by simp [blend]
theorem blend_len (f : U → U) (us : List U) (j : Nat) : (blend f us j).length = us.length := by simp [blend]; omega
theorem blend_get {f : U → U} {us : List U} {j : Nat} {u : U} (h : us[j]? = some u) : (blend f us j)[j]? = some u := by
  have hlt := (List.getElem?_eq_some_iff.1 h).1
  unfold blend
  rw [List.getElem?_append_right (by simp; omega)]
  simp only [List.length_map, List.length_take, Nat.min_eq_left (Nat.le_of_lt hlt), Nat.sub_self, List.getElem?_drop, Nat.add_zero]
  exact h
theorem blend_set {f : U → U} {us : List U} {j : Nat} {u : U} (h : us[j]? = some u) : (blend f us j).set j (f u) = blend f us (j + 1) := by
  obtain ⟨hlt, rfl⟩ := List.getElem?_eq_some_iff.1 h
  unfold blend
  rw [List.set_append_right _ _ (by simp; omega)]
  simp only [List.length_map, List.length_take, Nat.min_eq_left (Nat.le_of_lt hlt), Nat.sub_self]
  rw [List.drop_eq_getElem_cons hlt, List.set_cons_zero, List.take_add_one, h]
  simp only [Option.toList_some, List.map_append, List.map_cons, List.map_nil, List.append_assoc, List.cons_append, List.nil_append]
theorem blend_same {f : U → U} {us : List U} {j : Nat} {u : U} (h : us[j]? = some u) (hf : f u = u) : blend f us (j + 1) = blend f us j := by
  rw [← blend_set h, hf]
  apply List.ext_getElem?
  intro i
  rw [List.getElem?_set]
  split
  · rename_i e; subst e
    rw [blend_get h, if_pos (by rw [blend_len]; exact (List.getElem?_eq_some_iff.1 h).1)]
  · rfl
def Fen.callsOf (cs : List Cl) (u : U) : U := { u with ca := (opens cs u.it : Int) }
set_option maxRecDepth 100000 in
set_option maxHeartbeats 1600000 in
theorem units_ct (m : Md) (H1 : PH) (hM : m.In H1) (mach : Int) (b : Nat) (t : T) (x : Tb) (hx : x.Is t) (hb : t.us.length ≤ 1000000) : Ct Tryz.prog 14 [.pointer (some ⟨b, 0, none⟩)] [H1, single b (.cells [.slice m.psi m.si.length m.csi, .slice m.pfe m.fe.length m.cfe, .slice m.prk m.rk.length m.crk, .slice m.pmc m.mc.length m.cmc, .slice m.pln m.ln.length m.cln, .slice m.pis m.is.length m.cis, .int .i64 m.da, .int .i64 m.sl, .int .i64 m.re, .int .i64 m.fa, .slice m.prl m.rl.length m.crl, .int .i64 mach, .slice x.pu x.nu x.cu, .slice x.pc x.nc x.cc, .int .i64 x.gen, .map (some x.d)].toArray 82 (0, 0)), x.HU, x.HC, single x.d (.map x.es x.ck)] (fun v Hs => ∃ H' p' c', v = .slice p' t.us.length c' ∧ Own H' p' c' 48 5 ((listP t.us t.cs).map U.c) ∧ Hs = [H1, single b (.cells [.slice m.psi m.si.length m.csi, .slice m.pfe m.fe.length m.cfe, .slice m.prk m.rk.length m.crk, .slice m.pmc m.mc.length m.cmc, .slice m.pln m.ln.length m.cln, .slice m.pis m.is.length m.cis, .int .i64 m.da, .int .i64 m.sl, .int .i64 m.re, .int .i64 m.fa, .slice m.prl m.rl.length m.crl, .int .i64 mach, .slice x.pu x.nu x.cu, .slice x.pc x.nc x.cc, .int .i64 x.gen, .map (some x.d)].toArray 82 (0, 0)), x.HU, x.HC, single x.d (.map x.es x.ck), H']) := by
  refine Ct.body Tryz.func14 rfl Tryz.ntmps14 rfl ?_
  intro E F
  obtain ⟨hnu, hnc, hgn, hOu, hOc, hMp, hdn⟩ := id hx
  have hSu := hOu.sl
  have hmu := hSu.len_le
  simp only [List.length_map, maxLen] at hmu
  refine q_sr (q_an ?_)
  refine q_sr (q_q q_mv (q_q q_np (q_q (q_fa fo82_2) (q_q (q_l 2 u41) ?_))))
  refine q_e (q_c ent36 [3] [3, 160] (cloneU_ct t.us x.HU x.pu x.cu x.nu hnu hSu hb)) ?_
  rintro _ _ ⟨_, ⟨Hn, pn, cn, rfl, hOn, rfl⟩, rfl⟩
  have hmn := hOn.sl.len_le
  simp only [List.length_map, maxLen] at hmn
  refine q_an ?_
  refine q_k [0, 3] [0, 1, 2, 3, 4, 5, 160] ?_
  refine W.seq (q_sr (q_q q_mv (q_q (q_n u41) (q_q q_mv (q_nn (W.block ?_))))))
  refine W.loopK (ι := UI) (fun z => (z.j ≤ t.us.length ∧ Own z.H pn cn 48 5 ((blend (callsOf t.cs) t.us z.j).map U.c))) (fun z => [(12, .int .i64 (z.j : Nat))]) (fun z => [(160, z.H)]) (fun z => t.us.length - z.j) (.of [0, 3, 11] rfl) (.of [0, 1, 2, 3, 4, 5] rfl) ⟨0, Hn⟩ ?_ ?_ ?_ ?_
  · exact ⟨Nat.zero_le _, by rw [blend_zero]; exact hOn⟩
  · exact (q_a .nil)
  · exact (.to rfl)
  rintro z ⟨hj, hO⟩
  refine q_k [12, 0, 3, 11] [160, 0, 1, 2, 3, 4, 5] ?_
  refine q_sr (q_q (q_b BinV.lss) (q_nn (W.seq ?_)))
  first | refine W.condD rfl (fun hc13 => ?_) (fun hc13 => ?_) | (refine W.cond rfl (fun hc13 => ?_) (fun hc13 => ?_) <;> try simp only [Bool.or_eq_true, Bool.and_eq_true, Bool.not_eq_true', Bool.not_eq_false', decide_eq_true_eq, Bool.or_eq_false_iff, Bool.and_eq_false_iff, decide_eq_false_iff_not, beq_iff_eq, beq_eq_false_iff_ne, ne_eq, Decidable.not_not] at hc13)
  ·
   obtain ⟨u, hu⟩ : ∃ u, t.us[z.j]? = some u := ⟨_, List.getElem?_eq_getElem (by omega)⟩
   have hlu := uz_get (blend_get (f := callsOf t.cs) hu)
   have hbl := blend_len (callsOf t.cs) t.us z.j
   refine W.skip (N.next (W.seq (W.block (q_sr (q_q q_mv (q_an ?_))))))
   refine W.region (q_q q_mv (q_q q_mv (q_q q_mv (q_q q_mv (q_q q_mv ?_)))))
   refine q_q (q_ix u41 sz48) (q_q (q_fa fo48_0) ?_)
   refine q_q (by first | exact (by first | exact q_r1 1 u3 | exact q_r1 2 u3 | exact q_r1 3 u3 | exact q_r1 4 u3 | exact q_r1 5 u3 | exact q_r1 160 u3) | exact (by first | exact q_rF 1 0 u3 | exact q_rF 2 0 u3 | exact q_rF 3 0 u3 | exact q_rF 4 0 u3 | exact q_rF 5 0 u3 | exact q_rF 160 0 u3)) ?_
   refine q_e (q_c ent37 [2, 4] [2, 4] (open_ct m mach b t x hx u.it)) ?_
   rintro _ _ ⟨_, ⟨rfl, rfl⟩, rfl⟩
   refine q_q (q_ix u41 sz48) (q_q (q_fa fo48_4) ?_)
   refine RL.e0 (Eff.storeRow (tc := 160) (j := 4) sz3 rfl rfl rfl hO hlu rfl rfl rfl rfl rfl) ?_
   rintro _ _ ⟨Hb, hOb, rfl⟩
   replace hOb : Own Hb pn cn 48 5 ((blend (callsOf t.cs) t.us (z.j + 1)).map U.c) := by rw [← blend_set hu, List.map_set]; exact hOb
   refine RL.nil (N.block_normal (N.next (q_k [0, 3, 11, 12] [0, 1, 2, 3, 4, 5, 160] ?_)))
   refine W.region ?_
   refine q_q q_ad (q_q q_mv (RL.nil ?_))
   exact N.famK ⟨z.j + 1, Hb⟩ ⟨⟨by dsimp only; omega, hOb⟩, by dsimp only; omega⟩ (q_a .nil) (.to rfl) (.to rfl) (.to rfl)
  ·
   have hend : z.j = t.us.length := by omega
   rw [hend, blend_end] at hO
   refine W.exit (N.then_exit (N.then_exit (N.block_eq (N.next (q_k [3] [0, 1, 2, 3, 4, 5, 160] ?_)))))
   refine q_sr (q_q q_mv (q_an ?_))
   refine W.ret ?_
   exact q_r [1, 2, 3, 4, 5, 160] (.cons (.tmp rfl) .nil) rfl rfl rfl ⟨z.H, pn, cn, rfl, hO, rfl⟩
def Fen.findV (t : T) (it : Int) : U × Bool := match fnd t.us it with
  | some i => ((listP t.us t.cs)[i]?.getD ⟨0, 0, 0, 0, 0⟩, true)
  | none => (⟨0, 0, 0, 0, 0⟩, false)
theorem findV_none {t : T} {it : Int} (h : fnd t.us it = none) : findV t it = (⟨0, 0, 0, 0, 0⟩, false) := by unfold findV; rw [h]
theorem findV_some {t : T} {it : Int} {i : Nat} {u : U} (h : fnd t.us it = some i) (hu : t.us[i]? = some u) : findV t it = (callsOf t.cs u, true) := by
  unfold findV; rw [h]
  simp only
  rw [listP_get hu]
  rfl
set_option maxRecDepth 100000 in
set_option maxHeartbeats 1600000 in
theorem findV_ct (m : Md) (H1 : PH) (hM : m.In H1) (mach : Int) (b : Nat) (t : T) (x : Tb) (hx : x.Is t) (hb : t.us.length ≤ 1000000) (it : Int) : Ct Tryz.prog 24 [.pointer (some ⟨b, 0, none⟩), .int .i64 it] [H1, single b (.cells [.slice m.psi m.si.length m.csi, .slice m.pfe m.fe.length m.cfe, .slice m.prk m.rk.length m.crk, .slice m.pmc m.mc.length m.cmc, .slice m.pln m.ln.length m.cln, .slice m.pis m.is.length m.cis, .int .i64 m.da, .int .i64 m.sl, .int .i64 m.re, .int .i64 m.fa, .slice m.prl m.rl.length m.crl, .int .i64 mach, .slice x.pu x.nu x.cu, .slice x.pc x.nc x.cc, .int .i64 x.gen, .map (some x.d)].toArray 82 (0, 0)), x.HU, x.HC, single x.d (.map x.es x.ck)] (fun v Hs => v = .tuple [.agg (findV t it).1.c.toArray, .bool (findV t it).2].toArray ∧ Hs = [H1, single b (.cells [.slice m.psi m.si.length m.csi, .slice m.pfe m.fe.length m.cfe, .slice m.prk m.rk.length m.crk, .slice m.pmc m.mc.length m.cmc, .slice m.pln m.ln.length m.cln, .slice m.pis m.is.length m.cis, .int .i64 m.da, .int .i64 m.sl, .int .i64 m.re, .int .i64 m.fa, .slice m.prl m.rl.length m.crl, .int .i64 mach, .slice x.pu x.nu x.cu, .slice x.pc x.nc x.cc, .int .i64 x.gen, .map (some x.d)].toArray 82 (0, 0)), x.HU, x.HC, single x.d (.map x.es x.ck)]) := by
  refine Ct.body Tryz.func24 rfl Tryz.ntmps24 rfl ?_
  intro E F
  obtain ⟨hnu, hnc, hgn, hOu, hOc, hMp, hdn⟩ := id hx
  have hSu := hOu.sl
  have hmu := hSu.len_le
  simp only [List.length_map, maxLen] at hmu
  have hlo := fz_lo (us := t.us) (it := it)
  refine q_sr ?_
  refine q_al 104 zc48 fun b4 => ?_
  refine q_an ?_
  refine q_sr (q_q q_mv (q_q q_mv ?_))
  refine q_e (q_c ent49 [2, 3] [2, 3] (find_ct m mach b t x hx it)) ?_
  rintro _ _ ⟨_, ⟨rfl, rfl⟩, rfl⟩
  refine q_an ?_
  refine q_k [0, 4, 6] [0, 1, 2, 3, 4, 5, 104] ?_
  refine W.seq (q_sr (q_q q_mv (q_q (q_b BinV.lss) (q_nn ?_))))
  first | refine W.condD rfl (fun hc11 => ?_) (fun hc11 => ?_) | (refine W.cond rfl (fun hc11 => ?_) (fun hc11 => ?_) <;> try simp only [Bool.or_eq_true, Bool.and_eq_true, Bool.not_eq_true', Bool.not_eq_false', decide_eq_true_eq, Bool.or_eq_false_iff, Bool.and_eq_false_iff, decide_eq_false_iff_not, beq_iff_eq, beq_eq_false_iff_ne, ne_eq, Decidable.not_not] at hc11)
  ·
   have hfn := fz_neg hc11
   have hfv := findV_none hfn
   refine q_sr ?_
   refine q_q (Yld.buildP lay48 .nil rfl) (q_s 104 sz48 ?_)
   refine q_an ?_
   refine q_k [4, 5] [0, 1, 2, 3, 4, 5, 104] ?_
   refine W.ret (N.then_ret ?_)
   exact q_r [1, 2, 3, 4, 5] (.cons (q_rc 104 u48 sz48) (.cons (.tmp rfl) .nil)) rfl rfl rfl ⟨by rw [hfv]; rfl, rfl⟩
  ·
   obtain ⟨i, u, hi, hfn, hu, hui, hus⟩ := fz_pos hc11
   have hfv := findV_some hfn hu
   have hil := (List.getElem?_eq_some_iff.1 hu).1
   rw [hi]
   refine W.skip (N.next (q_sr (q_q q_mv ?_)))
   refine q_e (q_c ent14 [1, 2, 3, 4, 5] [1, 2, 3, 4, 5, 160] (units_ct m H1 hM mach b t x hx hb)) ?_
   rintro _ _ ⟨_, ⟨Hn, pn, cn, rfl, hOn, rfl⟩, rfl⟩
   have hlc := uz_get (listP_get (cs := t.cs) hu)
   have hlen := listP_len t.us t.cs
   have hmn := hOn.sl.len_le
   simp only [List.length_map, maxLen] at hmn
   refine q_q q_mv ?_
   refine q_q (q_ix u41 sz48) ?_
   refine q_q (by first | exact q_rA 1 u48 sz48 | exact q_rA 2 u48 sz48 | exact q_rA 3 u48 sz48 | exact q_rA 4 u48 sz48 | exact q_rA 5 u48 sz48 | exact q_rA 160 u48 sz48 | exact q_rA 104 u48 sz48) ?_
   refine q_s 104 sz48 ?_
   refine q_an ?_
   refine q_k [4, 5] [0, 1, 2, 3, 4, 5, 104, 160] ?_
   refine W.ret ?_
   exact q_r [1, 2, 3, 4, 5] (.cons (q_rc 104 u48 sz48) (.cons (.tmp rfl) .nil)) rfl rfl rfl ⟨by rw [hfv]; rfl, rfl⟩
set_option maxRecDepth 100000 in
set_option maxHeartbeats 400000 in
theorem forget_ct (m : Md) (H1 : PH) (hM : m.In H1) (mach : Int) (b : Nat) (t : T) (x : Tb) (hx : x.Is t) : Ct Tryz.prog 28 [.pointer (some ⟨b, 0, none⟩)] [H1, single b (.cells [.slice m.psi m.si.length m.csi, .slice m.pfe m.fe.length m.cfe, .slice m.prk m.rk.length m.crk, .slice m.pmc m.mc.length m.cmc, .slice m.pln m.ln.length m.cln, .slice m.pis m.is.length m.cis, .int .i64 m.da, .int .i64 m.sl, .int .i64 m.re, .int .i64 m.fa, .slice m.prl m.rl.length m.crl, .int .i64 mach, .slice x.pu x.nu x.cu, .slice x.pc x.nc x.cc, .int .i64 x.gen, .map (some x.d)].toArray 82 (0, 0)), x.HU, x.HC, single x.d (.map x.es x.ck)] (fun v Hs => ∃ y : Tb, v = .tuple #[] ∧ y.Is { t with cs := [] } ∧ Hs = [H1, single b (.cells [.slice m.psi m.si.length m.csi, .slice m.pfe m.fe.length m.cfe, .slice m.prk m.rk.length m.crk, .slice m.pmc m.mc.length m.cmc, .slice m.pln m.ln.length m.cln, .slice m.pis m.is.length m.cis, .int .i64 m.da, .int .i64 m.sl, .int .i64 m.re, .int .i64 m.fa, .slice m.prl m.rl.length m.crl, .int .i64 mach, .slice y.pu y.nu y.cu, .slice y.pc y.nc y.cc, .int .i64 y.gen, .map (some y.d)].toArray 82 (0, 0)), y.HU, y.HC, single y.d (.map y.es y.ck)]) := by
  refine Ct.body Tryz.func28 rfl Tryz.ntmps28 rfl ?_
  intro E F
  refine W.imp (Imp.empty _ 160) (W.region (q_q q_mv (q_q q_np (q_q (q_fa fo82_3) (q_s 2 sz57 ?_)))))
  refine RL.nil ?_
  exact N.endBy [1, 2, 3, 160, 5] .nil rfl rfl rfl rfl ⟨{ x with pc := none, nc := 0, cc := 0, HC := emp }, rfl, ⟨hx.nu, rfl, hx.gn, hx.ou, Own.nil _ _, hx.om, hx.od⟩, rfl⟩
set_option maxRecDepth 100000 in
set_option maxHeartbeats 1600000 in
theorem tick_ct (m : Md) (H1 : PH) (hM : m.In H1) (mach : Int) (b : Nat) (t : T) (x : Tb) (hx : x.Is t) : Ct Tryz.prog 23 [.pointer (some ⟨b, 0, none⟩)] [H1, single b (.cells [.slice m.psi m.si.length m.csi, .slice m.pfe m.fe.length m.cfe, .slice m.prk m.rk.length m.crk, .slice m.pmc m.mc.length m.cmc, .slice m.pln m.ln.length m.cln, .slice m.pis m.is.length m.cis, .int .i64 m.da, .int .i64 m.sl, .int .i64 m.re, .int .i64 m.fa, .slice m.prl m.rl.length m.crl, .int .i64 mach, .slice x.pu x.nu x.cu, .slice x.pc x.nc x.cc, .int .i64 x.gen, .map (some x.d)].toArray 82 (0, 0)), x.HU, x.HC, single x.d (.map x.es x.ck)] (fun v Hs => ∃ y : Tb, v = .slice x.pc t.cs.length x.cc ∧ y.Is (tickP (kdOf m) t) ∧ Hs = [H1, single b (.cells [.slice m.psi m.si.length m.csi, .slice m.pfe m.fe.length m.cfe, .slice m.prk m.rk.length m.crk, .slice m.pmc m.mc.length m.cmc, .slice m.pln m.ln.length m.cln, .slice m.pis m.is.length m.cis, .int .i64 m.da, .int .i64 m.sl, .int .i64 m.re, .int .i64 m.fa, .slice m.prl m.rl.length m.crl, .int .i64 mach, .slice y.pu y.nu y.cu, .slice y.pc y.nc y.cc, .int .i64 y.gen, .map (some y.d)].toArray 82 (0, 0)), y.HU, y.HC, single y.d (.map y.es y.ck), x.HC]) := by
  refine Ct.body Tryz.func23 rfl Tryz.ntmps23 rfl ?_
  intro E F
  obtain ⟨hnu, hnc, hgn, hOu, hOc, hMp, hdn⟩ := id hx
  have hSu := hOu.sl
  have hmu := hSu.len_le
  simp only [List.length_map, maxLen] at hmu
  refine W.seq ?_
  refine W.imp (Imp.empty _ 160) (W.region (q_an ?_))
  refine W.seq (q_sr (q_q q_mv (q_q q_np (q_q (q_fa fo82_2) (q_q (q_l 2 u41) (q_q (q_n u41) (q_q q_mv (q_nn (q_k [0, 10, 11] [0, 1, 2, 3, 4, 5, 160] ?_)))))))))
  refine W.block ?_
  refine W.loopK (ι := UI) (fun z => (z.j ≤ t.us.length ∧ Own z.H x.pu x.cu 48 5 ((blend (tickU (kdOf m)) t.us z.j).map U.c))) (fun z => [(11, .int .i64 (z.j : Nat))]) (fun z => [(3, z.H)]) (fun z => t.us.length - z.j) (.of [0, 10] rfl) (.of [0, 1, 2, 4, 5, 160] rfl) ⟨0, x.HU⟩ ?_ ?_ ?_ ?_
  · exact ⟨Nat.zero_le _, by rw [blend_zero]; exact hOu⟩
  · exact (q_a .nil)
  · exact (.to rfl)
  rintro z ⟨hj, hO⟩
  refine q_k [11, 0, 10] [3, 0, 1, 2, 4, 5, 160] ?_
  refine q_sr (q_q (q_b BinV.lss) (q_nn (W.seq ?_)))
  first | refine W.condD rfl (fun hc12 => ?_) (fun hc12 => ?_) | (refine W.cond rfl (fun hc12 => ?_) (fun hc12 => ?_) <;> try simp only [Bool.or_eq_true, Bool.and_eq_true, Bool.not_eq_true', Bool.not_eq_false', decide_eq_true_eq, Bool.or_eq_false_iff, Bool.and_eq_false_iff, decide_eq_false_iff_not, beq_iff_eq, beq_eq_false_iff_ne, ne_eq, Decidable.not_not] at hc12)
  ·
   obtain ⟨u, hu⟩ : ∃ u, t.us[z.j]? = some u := ⟨_, List.getElem?_eq_getElem (by omega)⟩
   have hlu := uz_get (blend_get (f := tickU (kdOf m)) hu)
   refine W.skip (N.next (W.seq (W.block (q_sr (q_q q_mv (q_an ?_))))))
   refine q_sr (q_q q_mv (q_q q_np (q_q (q_fa fo82_2) (q_q (q_l 2 u41) (q_q q_mv ?_)))))
   refine q_q (q_ix u41 sz48) (q_an ?_)
   refine q_k [0, 4, 10, 11] [0, 1, 2, 3, 4, 5, 160] ?_
   refine q_sr (q_q q_mv (q_q q_mv (q_q q_np (q_q (q_fa fo48_0) ?_))))
   refine q_q (by first | exact (by first | exact q_r1 1 u3 | exact q_r1 2 u3 | exact q_r1 4 u3 | exact q_r1 5 u3 | exact q_r1 160 u3 | exact q_r1 3 u3) | exact (by first | exact q_rF 1 0 u3 | exact q_rF 2 0 u3 | exact q_rF 4 0 u3 | exact q_rF 5 0 u3 | exact q_rF 160 0 u3 | exact q_rF 3 0 u3)) ?_
   refine q_e (q_c ent48 [1, 2] [1, 2] (kind_ct m H1 hM mach b x u.it)) ?_
   rintro _ _ ⟨_, ⟨rfl, rfl⟩, rfl⟩
   refine q_q (q_b BinV.eql) (q_q q_mv ?_)
   refine' q_and 27 33 6 [0, 4, 10, 11, 20, 21, 22, 23, 24, 25, 26] [0, 1, 2, 3, 4, 5, 160] ?_ ?_ ?_
   rotate_left 1
   ·
    intro hg27
    refine q_g q_mv (q_g q_np (q_g (q_fa fo48_2) ?_))
    refine q_g (by first | exact q_rF 1 2 u3 | exact q_rF 2 2 u3 | exact q_rF 4 2 u3 | exact q_rF 5 2 u3 | exact q_rF 160 2 u3 | exact q_rF 3 2 u3) ?_
    refine q_g (q_b BinV.eql) (q_q Yld.pk ?_)
    exact q_m
   ·
    intro hg27
    repeat refine q_gs ?_
    refine q_q Yld.pk ?_
    exact q_m
   refine q_nn (q_k [0, 4, 10, 11, 33] [0, 1, 2, 3, 4, 5, 160] ?_)
   refine W.cond rfl (fun hc33 => ?_) (fun hc33 => ?_)
   ·
    have htk : tickU (kdOf m) u = { u with va := w64 (u.va + 1) } := by
      simp only [Bool.and_eq_true, decide_eq_true_eq] at hc33
      unfold tickU; exact if_pos hc33
    refine W.region (q_q q_mv (q_q q_np (q_q (q_fa fo48_3) ?_)))
    refine q_q (by first | exact q_rF 1 3 u2 | exact q_rF 2 3 u2 | exact q_rF 4 3 u2 | exact q_rF 5 3 u2 | exact q_rF 160 3 u2 | exact q_rF 3 3 u2) ?_
    refine q_q q_ad (q_q q_np (q_q (q_fa fo48_3) ?_))
    refine RL.e0 (Eff.storeRow (tc := 3) (j := 3) sz2 rfl rfl rfl hO hlu rfl rfl rfl rfl rfl) ?_
    rintro _ _ ⟨Hb, hOb, rfl⟩
    replace hOb : Own Hb x.pu x.cu 48 5 ((blend (tickU (kdOf m)) t.us (z.j + 1)).map U.c) := by rw [← blend_set hu, List.map_set, htk]; exact hOb
    refine RL.nil (N.block_normal (N.next (q_k [0, 10, 11] [0, 1, 2, 3, 4, 5, 160] ?_)))
    refine W.region ?_
    refine q_q q_ad (q_q q_mv (RL.nil ?_))
    exact N.famK ⟨z.j + 1, Hb⟩ ⟨⟨by dsimp only; omega, hOb⟩, by dsimp only; omega⟩ (q_a .nil) (.to rfl) (.to rfl) (.to rfl)
   ·
    have htk : tickU (kdOf m) u = u := by
      unfold tickU
      refine if_neg fun h => ?_
      rw [decide_eq_true h.1, decide_eq_true h.2] at hc33; cases hc33
    refine W.skip (N.block_normal (N.next (W.region ?_)))
    refine q_q q_ad (q_q q_mv (RL.nil ?_))
    exact N.famK ⟨z.j + 1, z.H⟩ ⟨⟨by dsimp only; omega, by dsimp only; rw [blend_same hu htk]; exact hO⟩, by dsimp only; omega⟩ (q_a .nil) (.to rfl) (.to rfl) (.to rfl)
  ·
   have hend : z.j = t.us.length := by omega
   rw [hend, blend_end] at hO
   refine W.exit (N.then_exit (N.then_exit (N.block_eq (N.next (q_sr (q_q q_mv (q_q q_np (q_q (q_fa fo82_3) (q_q (q_l 2 u57) (q_an ?_))))))))))
   refine q_k [0, 5] [0, 1, 2, 3, 4, 5, 160] ?_
   refine q_sr (q_q q_mv (q_q q_np (q_q (q_fa fo82_3) (q_s 2 sz57 ?_))))
   refine q_nn (q_k [5] [0, 1, 2, 3, 4, 5, 160] ?_)
   refine q_sr (q_q q_mv (q_an ?_))
   refine W.ret ?_
   exact q_r [1, 2, 3, 160, 5, 4] (.cons (.tmp rfl) .nil) rfl rfl rfl ⟨{ x with HU := z.H, pc := none, nc := 0, cc := 0, HC := emp }, by rw [← hnc]; rfl, ⟨by show x.nu = _; rw [hnu]; simp [tickP], rfl, hgn, hO, Own.nil _ _, hMp, hdn⟩, rfl⟩
set_option maxRecDepth 100000 in
set_option maxHeartbeats 400000 in
theorem beginC_ct (y c : Cl) (b : Nat) (H1 : PH) : Ct Tryz.prog 50 [.agg [.int .i64 y.it, .int .i64 y.cl, .int .i64 y.nu, .int .i64 y.va].toArray, .pointer (some ⟨b, 0, none⟩)] [H1, single b (.cells [.int .i64 c.it, .int .i64 c.cl, .int .i64 c.nu, .int .i64 c.va].toArray 38 (0, 0))] (fun v Hs => v = .bool (sameCl c y) ∧ Hs = [H1, single b (.cells [.int .i64 c.it, .int .i64 c.cl, .int .i64 c.nu, .int .i64 c.va].toArray 38 (0, 0))]) := by
  refine Ct.body Tryz.func50 rfl Tryz.ntmps50 rfl ?_
  intro E F
  refine q_sr ?_
  refine q_bx 102 fun b2 => ?_
  refine q_an ?_
  refine q_sr (q_q (q_fa fo38_0) (q_q (q_l 102 u3) (q_q (q_fa fo38_0) (q_q (q_l 2 u3) (q_q (q_b BinV.eql) (q_q q_mv ?_))))))
  refine' q_and 9 15 6 [0, 1, 2, 3, 4, 5, 6, 7, 8] [0, 1, 2, 102] ?_ ?_ ?_
  rotate_left 1
  ·
   intro hg9
   refine q_g (q_fa fo38_1) (q_g (q_l 102 u3) (q_g (q_fa fo38_1) (q_g (q_l 2 u3) (q_g (q_b BinV.eql) (q_q Yld.pk ?_)))))
   exact q_m
  ·
   intro hg9
   repeat refine q_gs ?_
   refine q_q Yld.pk ?_
   exact q_m
  refine q_q q_mv ?_
  refine' q_and 16 22 6 [0, 1, 2, 3, 4, 5, 6, 7, 8, 15] [0, 1, 2, 102] ?_ ?_ ?_
  rotate_left 1
  ·
   intro hg16
   refine q_g (q_fa fo38_2) (q_g (q_l 102 u3) (q_g (q_fa fo38_2) (q_g (q_l 2 u3) (q_g (q_b BinV.eql) (q_q Yld.pk ?_)))))
   exact q_m
  ·
   intro hg16
   repeat refine q_gs ?_
   refine q_q Yld.pk ?_
   exact q_m
  refine q_an ?_
  refine q_k [3] [0, 1, 2, 102] ?_
  refine W.ret ?_
  exact q_r [1, 2] (.cons (.tmp rfl) .nil) rfl rfl rfl ⟨by unfold sameCl; rw [← Bool.and_assoc]; rfl, rfl⟩
set_option maxRecDepth 100000 in
set_option maxHeartbeats 400000 in
theorem cfCl_ct (l : List Cl) (H1 : PH) (p : Option Addr) (c n : Nat) (hn : n = l.length) (hS : Sl H1 p c 4 (l.map Cl.c)) (f : Nat) (cap : List Value) (G1 : PH) (q : Cl → Bool) (hent : Ent Tryz.prog f) (hf : ∀ x ∈ l, Ct Tryz.prog f (.agg x.c.toArray :: cap) [H1, G1] (fun v Hs => v = .bool (q x) ∧ Hs = [H1, G1])) : Ct Tryz.prog 51 [.slice p n c, .func (.func f) [].toArray cap.toArray] [H1, G1] (fun v Hs => v = .bool (l.any q) ∧ Hs = [H1, G1]) := by
  refine Ct.body Tryz.func51 rfl Tryz.ntmps51 rfl ?_
  intro E F
  refine q_sr (q_an ?_)
  refine q_sr (q_q q_mv (q_q q_mv ?_))
  refine q_e (q_c ent92 [1, 2] [1, 2] (ifCl_ct l H1 p c n hn hS f cap G1 q hent hf)) ?_
  rintro _ _ ⟨_, ⟨rfl, rfl⟩, rfl⟩
  refine q_q (q_b BinV.geq) (q_an ?_)
  refine q_k [4] [0, 1, 2] ?_
  refine W.ret ?_
  exact q_r [1, 2] (.cons (.tmp rfl) .nil) rfl rfl rfl ⟨by rw [← fz_any]; rfl, rfl⟩
set_option maxRecDepth 100000 in
set_option maxHeartbeats 3200000 in
theorem begin_ct (m : Md) (H1 : PH) (hM : m.In H1) (mach : Int) (b : Nat) (t : T) (x : Tb) (hx : x.Is t) (c : Cl) (hb : t.cs.length ≤ 1000000) : Ct Tryz.prog 26 [.pointer (some ⟨b, 0, none⟩), .agg [.int .i64 c.it, .int .i64 c.cl, .int .i64 c.nu, .int .i64 c.va].toArray] [H1, single b (.cells [.slice m.psi m.si.length m.csi, .slice m.pfe m.fe.length m.cfe, .slice m.prk m.rk.length m.crk, .slice m.pmc m.mc.length m.cmc, .slice m.pln m.ln.length m.cln, .slice m.pis m.is.length m.cis, .int .i64 m.da, .int .i64 m.sl, .int .i64 m.re, .int .i64 m.fa, .slice m.prl m.rl.length m.crl, .int .i64 mach, .slice x.pu x.nu x.cu, .slice x.pc x.nc x.cc, .int .i64 x.gen, .map (some x.d)].toArray 82 (0, 0)), x.HU, x.HC, single x.d (.map x.es x.ck)] (fun v Hs => ∃ y : Tb, v = .int .i64 (beginP (kdOf m c.it) t c).2 ∧ y.Is (beginP (kdOf m c.it) t c).1 ∧ Hs = [H1, single b (.cells [.slice m.psi m.si.length m.csi, .slice m.pfe m.fe.length m.cfe, .slice m.prk m.rk.length m.crk, .slice m.pmc m.mc.length m.cmc, .slice m.pln m.ln.length m.cln, .slice m.pis m.is.length m.cis, .int .i64 m.da, .int .i64 m.sl, .int .i64 m.re, .int .i64 m.fa, .slice m.prl m.rl.length m.crl, .int .i64 mach, .slice y.pu y.nu y.cu, .slice y.pc y.nc y.cc, .int .i64 y.gen, .map (some y.d)].toArray 82 (0, 0)), y.HU, y.HC, single y.d (.map y.es y.ck)]) := by
  refine Ct.body Tryz.func26 rfl Tryz.ntmps26 rfl ?_
  intro E F
  obtain ⟨hnu, hnc, hgn, hOu, hOc, hMp, hdn⟩ := id hx
  have hSu := hOu.sl
  have hmu := hSu.len_le
  simp only [List.length_map, maxLen] at hmu
  have hSc := hOc.sl
  have hmc := hSc.len_le
  simp only [List.length_map, maxLen] at hmc
  have hlo := fz_lo (us := t.us) (it := c.it)
  refine q_sr ?_
  refine q_bx 103 fun b3 => ?_
  refine q_an ?_
  refine W.seq (q_sr (q_q (q_fa fo38_1) (q_q (q_l 103 u3) (q_q (q_b BinV.lss) (q_q q_mv ?_)))))
  refine' q_or 10 14 4 [0, 1, 3, 4, 7, 8, 9] [0, 1, 2, 3, 4, 5, 103] ?_ ?_ ?_
  rotate_left 1
  ·
   intro hg10
   refine q_g (q_fa fo38_2) (q_g (q_l 103 u3) (q_g (q_b BinV.lss) (q_q Yld.pk ?_)))
   exact q_m
  ·
   intro hg10
   repeat refine q_gs ?_
   refine q_q Yld.pk ?_
   exact q_m
  refine q_q q_mv ?_
  refine' q_or 15 21 6 [0, 1, 3, 4, 7, 8, 9, 14] [0, 1, 2, 3, 4, 5, 103] ?_ ?_ ?_
  rotate_left 1
  ·
   intro hg15
   refine q_g q_mv (q_g (q_fa fo38_0) (q_g (q_l 103 u3) ?_))
   refine RL.ge rfl rfl (q_c ent48 [1, 2] [1, 2] (kind_ct m H1 hM mach b x c.it)) rfl ?_
   rintro _ _ ⟨_, ⟨rfl, rfl⟩, rfl⟩
   refine q_g (q_b BinV.neq) (q_q Yld.pk ?_)
   exact q_m
  ·
   intro hg15
   repeat refine q_gs ?_
   refine q_q Yld.pk ?_
   exact q_m
  refine q_nn (q_k [0, 3, 21] [0, 1, 2, 3, 4, 5, 103] ?_)
  refine W.cond rfl (fun hc21 => ?_) (fun hc21 => ?_)
  ·
   have hbp : (beginP (kdOf m c.it) t c) = (t, 1) := by
     unfold beginP
     refine if_pos fun h => ?_
     simp only [Bool.or_eq_true, decide_eq_true_eq] at hc21
     omega
   refine q_sr (q_an ?_)
   refine W.ret (N.then_ret ?_)
   exact q_r [1, 2, 3, 4, 5] (.cons (.tmp rfl) .nil) rfl rfl rfl ⟨x, by rw [hbp]; first | done | rfl, by rw [hbp]; exact hx, rfl⟩
  ·
   have hok : 1 ≤ c.cl ∧ 1 ≤ c.nu ∧ kdOf m c.it = 1 := by
     simp only [Bool.or_eq_false_iff, decide_eq_false_iff_not] at hc21
     omega
   refine W.skip (N.next (q_sr (q_q q_mv (q_q (q_fa fo38_0) (q_q (q_l 103 u3) ?_)))))
   refine q_e (q_c ent49 [2, 3] [2, 3] (find_ct m mach b t x hx c.it)) ?_
   rintro _ _ ⟨_, ⟨rfl, rfl⟩, rfl⟩
   refine q_an ?_
   refine q_k [0, 3, 5] [0, 1, 2, 3, 4, 5, 103] ?_
   refine W.seq (W.block (q_sr (q_q q_mv (q_q (q_b BinV.lss) (q_an ?_)))))
   first | refine W.condD rfl (fun hc26 => ?_) (fun hc26 => ?_) | (refine W.cond rfl (fun hc26 => ?_) (fun hc26 => ?_) <;> try simp only [Bool.or_eq_true, Bool.and_eq_true, Bool.not_eq_true', Bool.not_eq_false', decide_eq_true_eq, Bool.or_eq_false_iff, Bool.and_eq_false_iff, decide_eq_false_iff_not, beq_iff_eq, beq_eq_false_iff_ne, ne_eq, Decidable.not_not] at hc26)
   ·
    have hfn := fz_neg hc26
    have hbp : (beginP (kdOf m c.it) t c) = (t, 6) := by
      unfold beginP
      rw [if_neg (fun h => h hok), hfn]
    refine q_sr (q_an ?_)
    refine q_k [4] [0, 1, 2, 3, 4, 5, 103] ?_
    refine W.ret (N.block_ret (N.then_ret ?_))
    exact q_r [1, 2, 3, 4, 5] (.cons (.tmp rfl) .nil) rfl rfl rfl ⟨x, by rw [hbp]; first | done | rfl, by rw [hbp]; exact hx, rfl⟩
   ·
    obtain ⟨i, u, hi, hfn, hu, hui, hus⟩ := fz_pos hc26
    have hlu := uz_get hu
    have hil := (List.getElem?_eq_some_iff.1 hu).1
    rw [hi]
    refine q_sr (q_q q_mv (q_q q_np (q_q (q_fa fo82_2) (q_q (q_l 2 u41) (q_q q_mv ?_)))))
    refine q_q (q_ix u41 sz48) (q_q (q_fa fo48_2) ?_)
    refine q_q (by first | exact q_rF 2 2 u3 | exact q_rF 3 2 u3 | exact q_rF 103 2 u3 | exact q_rF 1 2 u3 | exact q_rF 4 2 u3 | exact q_rF 5 2 u3) ?_
    refine q_q (q_b BinV.eql) (q_an ?_)
    refine q_k [0, 3, 29] [0, 1, 2, 3, 4, 5, 103] ?_
    first | refine W.condD rfl (fun hc29 => ?_) (fun hc29 => ?_) | (refine W.cond rfl (fun hc29 => ?_) (fun hc29 => ?_) <;> try simp only [Bool.or_eq_true, Bool.and_eq_true, Bool.not_eq_true', Bool.not_eq_false', decide_eq_true_eq, Bool.or_eq_false_iff, Bool.and_eq_false_iff, decide_eq_false_iff_not, beq_iff_eq, beq_eq_false_iff_ne, ne_eq, Decidable.not_not] at hc29)
    ·
     have hbp : (beginP (kdOf m c.it) t c) = (t, 9) := by
       unfold beginP
       rw [if_neg (fun h => h hok), hfn]
       show (if stOf t.us i = 1 then _ else _) = _
       rw [stOf_get hu, if_pos hc29]
     refine q_sr (q_an ?_)
     refine W.ret (N.block_ret (N.then_ret ?_))
     exact q_r [1, 2, 3, 4, 5] (.cons (.tmp rfl) .nil) rfl rfl rfl ⟨x, by rw [hbp]; first | done | rfl, by rw [hbp]; exact hx, rfl⟩
    ·
     refine W.skip (N.block_normal (N.next (q_sr ?_)))
     refine q_q (Yld.makeFunc eval0 (eval1 rfl)) (q_an ?_)
     refine W.seq (q_sr (q_q q_mv (q_q q_np (q_q (q_fa fo82_3) (q_q (q_l 2 u57) (q_q q_mv ?_))))))
     refine q_e (q_c ent51 [4, 103] [4, 103] (cfCl_ct t.cs x.HC x.pc x.cc x.nc hnc hSc 50 [.pointer (some ⟨b3, 0, none⟩)] _ (sameCl c) ent50 (fun y _ => beginC_ct y c b3 x.HC))) ?_
     rintro _ _ ⟨_, ⟨rfl, rfl⟩, rfl⟩
     refine q_q Yld.nt (q_nn (q_k [0, 3, 46] [0, 1, 2, 3, 4, 5, 103] ?_))
     refine W.cond rfl (fun hc46 => ?_) (fun hc46 => ?_)
     ·
      have hbp : (beginP (kdOf m c.it) t c) = ({ t with cs := t.cs ++ [c] }, 0) := by
        rw [Bool.not_eq_true'] at hc46
        unfold beginP
        rw [if_neg (fun h => h hok), hfn]
        show (if stOf t.us i = 1 then _ else _) = _
        rw [stOf_get hu, if_neg hc29, if_neg (by rw [hc46]; decide)]
      refine W.draw (.q 0 (.q 1 (.q 2 (.q 3 (.q 5 (.two 4 (.one 6 (.one 7 (.q 8 (.q 9 (.one 10 .done))))) 6 (.one 4 (.one 7 (.q 8 (.q 9 (.one 10 .done))))))))))) (.of [0, 1, 3, 5, 103] rfl) mix (by kernel_rfl) (by kernel_rfl) (q_d rfl q_mv (q_d rfl q_mv (q_d rfl q_np (q_d rfl (q_fa fo82_3) (q_d rfl (q_lw 103 u38 sz38) ?_)))))
      refine DL.two ?_ ?_
      ·
       refine q_o rfl (Yld.eff (q_l 2 u57)) ?_
       rintro _ _ ⟨rfl, rfl⟩
       refine q_o rfl (Eff.buildSlice 153 u57 sz38 zc38 rfl rfl (.cons rfl rfl .nil) rfl) ?_
       rintro _ _ ⟨b53, rfl, rfl⟩
       refine q_o rfl (Eff.appendE (tc := 4) (sc := 153) (ms := [c]) Cl.c u57 el38 rfl rfl rfl rfl hOc hnc (Own.one (l := c.c) rfl (Cl.one c) rfl).sl rfl (fun a _ => Cl.one a) (by decide) (by simp; omega) (by simp [maxLen]; omega)) ?_
       rintro _ _ ⟨Ha, pa, ca, rfl, hOa, rfl⟩
       refine q_d rfl q_np (q_d rfl (q_fa fo82_3) ?_)
       refine q_o0 rfl (q_st 2 sz57) ?_
       rintro _ _ rfl
       refine DL.done (N.next ?_)
       refine W.keep .nil (.of [0, 1, 2, 3, 4, 5, 103, 153] rfl) (q_sr (q_an ?_))
       refine W.ret ?_
       exact q_r [1, 2, 3, 4, 5] (.cons (.tmp rfl) .nil) rfl rfl rfl ⟨{ x with pc := pa, nc := _, cc := ca, HC := Ha }, by rw [hbp]; first | done | rfl, by rw [hbp]; exact ⟨hnu, rfl, hgn, hOu, hOa, hMp, hdn⟩, rfl⟩
      ·
       refine q_o rfl (Eff.buildSlice 153 u57 sz38 zc38 rfl rfl (.cons rfl rfl .nil) rfl) ?_
       rintro _ _ ⟨b53, rfl, rfl⟩
       refine q_o rfl (Yld.eff (q_l 2 u57)) ?_
       rintro _ _ ⟨rfl, rfl⟩
       refine q_o rfl (Eff.appendE (tc := 4) (sc := 153) (ms := [c]) Cl.c u57 el38 rfl rfl rfl rfl hOc hnc (Own.one (l := c.c) rfl (Cl.one c) rfl).sl rfl (fun a _ => Cl.one a) (by decide) (by simp; omega) (by simp [maxLen]; omega)) ?_
       rintro _ _ ⟨Ha, pa, ca, rfl, hOa, rfl⟩
       refine q_d rfl q_np (q_d rfl (q_fa fo82_3) ?_)
       refine q_o0 rfl (q_st 2 sz57) ?_
       rintro _ _ rfl
       refine DL.done (N.next ?_)
       refine W.keep .nil (.of [0, 1, 2, 3, 4, 5, 103, 153] rfl) (q_sr (q_an ?_))
       refine W.ret ?_
       exact q_r [1, 2, 3, 4, 5] (.cons (.tmp rfl) .nil) rfl rfl rfl ⟨{ x with pc := pa, nc := _, cc := ca, HC := Ha }, by rw [hbp]; first | done | rfl, by rw [hbp]; exact ⟨hnu, rfl, hgn, hOu, hOa, hMp, hdn⟩, rfl⟩
     ·
      have hbp : (beginP (kdOf m c.it) t c) = (t, 0) := by
        rw [Bool.not_eq_false'] at hc46
        unfold beginP
        rw [if_neg (fun h => h hok), hfn]
        show (if stOf t.us i = 1 then _ else _) = _
        rw [stOf_get hu, if_neg hc29, if_pos hc46]
      refine W.skip (N.next (q_sr (q_an ?_)))
      refine W.ret ?_
      exact q_r [1, 2, 3, 4, 5] (.cons (.tmp rfl) .nil) rfl rfl rfl ⟨x, by rw [hbp]; first | done | rfl, by rw [hbp]; exact hx, rfl⟩
end Go.Proofs.YtboapdcmaeojgaaGreatDoor
namespace Go.Proofs.YtboapdcmaeojgaaGreatDoor
open SL Cat Fen
set_option linter.unusedVariables false
set_option linter.unusedSimpArgs false
theorem ent34 : Ent Tryz.prog 34 := ⟨_, _, Tryz.func34, by kernel_rfl, rfl⟩
theorem lay82 : layS Tryz.prog 82 = some ([.slice none 0 0, .slice none 0 0, .slice none 0 0, .slice none 0 0, .slice none 0 0, .slice none 0 0, .int .i64 0, .int .i64 0, .int .i64 0, .int .i64 0, .slice none 0 0, .int .i64 0, .slice none 0 0, .slice none 0 0, .int .i64 0, .map none], [(0, 11), (11, 1), (12, 1), (13, 1), (14, 1), (15, 1)]) := by kernel_rfl
theorem zc64 : zc Tryz.prog 64 [.string .empty, .int .i64 0, .int .i64 0, .int .i64 0, .int .i64 0, .int .i64 0, .slice none 0 0] := (by kernel_rfl : ((Tryz.prog.info? 64).bind (·.zero)).map (fun v => v.cells.toList) = some [.string .empty, .int .i64 0, .int .i64 0, .int .i64 0, .int .i64 0, .int .i64 0, .slice none 0 0])
set_option maxRecDepth 100000 in
set_option maxHeartbeats 1600000 in
theorem newNo_ct (m : Md) (H1 : PH) (hM : m.In H1) (hT : TabS H1) (mach : Int) (hn : ¬ (MdV m ∧ 1 ≤ mach ∧ mach ≤ m.mc.length)) : Ct Tryz.prog 13 [.agg [.slice m.psi m.si.length m.csi, .slice m.pfe m.fe.length m.cfe, .slice m.prk m.rk.length m.crk, .slice m.pmc m.mc.length m.cmc, .slice m.pln m.ln.length m.cln, .slice m.pis m.is.length m.cis, .int .i64 m.da, .int .i64 m.sl, .int .i64 m.re, .int .i64 m.fa, .slice m.prl m.rl.length m.crl].toArray, .int .i64 mach] [H1] (fun v Hs => v = .pointer none ∧ Hs = [H1]) := by
  refine Ct.body Tryz.func13 rfl Tryz.ntmps13 rfl ?_
  intro E F
  refine q_sr ?_
  refine q_bx 102 fun b2 => ?_
  refine q_an ?_
  refine W.seq (q_sr (q_q (q_lw 102 u29 sz29) ?_))
  refine q_e (q_c ent34 [1] [1] (valid_ct m H1 hM hT)) ?_
  rintro _ _ ⟨_, ⟨rfl, rfl⟩, rfl⟩
  refine q_q Yld.nt (q_q q_mv ?_)
  refine' q_or 12 15 3 [0, 1, 2, 4, 9, 10, 11] [0, 1, 102] ?_ ?_ ?_
  rotate_left 1
  ·
   intro hg12
   refine q_g q_mv (q_g (q_b BinV.lss) (q_q Yld.pk ?_))
   exact q_m
  ·
   intro hg12
   refine q_gs (q_gs (q_q Yld.pk ?_))
   exact q_m
  refine q_q q_mv ?_
  refine' q_or 16 22 6 [0, 1, 2, 4, 9, 10, 11, 15] [0, 1, 102] ?_ ?_ ?_
  rotate_left 1
  ·
   intro hg16
   refine q_g q_mv (q_g (q_fa fo29_3) (q_g (q_l 102 u24) (q_g (q_n u24) (q_g (q_b BinV.gtr) (q_q Yld.pk ?_)))))
   exact q_m
  ·
   intro hg16
   repeat refine q_gs ?_
   refine q_q Yld.pk ?_
   exact q_m
  refine q_nn (q_k [1, 2, 22] [0, 1, 102] ?_)
  refine W.cond rfl (fun hc22 => ?_) (fun hc22 => ?_)
  ·
   refine q_sr (q_an ?_)
   refine W.ret (N.then_ret ?_)
   exact q_r [1] (.cons (.tmp rfl) .nil) rfl rfl rfl ⟨rfl, rfl⟩
  ·
   have hyes : MdV m ∧ 1 ≤ mach ∧ mach ≤ m.mc.length := by
     simp only [Bool.or_eq_false_iff, Bool.not_eq_false', pB_iff, decide_eq_false_iff_not] at hc22
     exact ⟨hc22.1.1, by omega, by omega⟩
   exact absurd hyes hn --stop
set_option maxRecDepth 100000 in
set_option maxHeartbeats 3200000 in
theorem new_ct (m : Md) (H1 : PH) (hM : m.In H1) (hT : TabS H1) (mach : Int) (hv : MdV m) (h1 : 1 ≤ mach) (h2 : mach ≤ m.mc.length) : Ct Tryz.prog 13 [.agg [.slice m.psi m.si.length m.csi, .slice m.pfe m.fe.length m.cfe, .slice m.prk m.rk.length m.crk, .slice m.pmc m.mc.length m.cmc, .slice m.pln m.ln.length m.cln, .slice m.pis m.is.length m.cis, .int .i64 m.da, .int .i64 m.sl, .int .i64 m.re, .int .i64 m.fa, .slice m.prl m.rl.length m.crl].toArray, .int .i64 mach] [H1] (fun v Hs => ∃ (b : Nat) (x : Tb), v = .pointer (some ⟨b, 0, none⟩) ∧ x.Is (newT m mach) ∧ Hs = [H1, single b (.cells [.slice m.psi m.si.length m.csi, .slice m.pfe m.fe.length m.cfe, .slice m.prk m.rk.length m.crk, .slice m.pmc m.mc.length m.cmc, .slice m.pln m.ln.length m.cln, .slice m.pis m.is.length m.cis, .int .i64 m.da, .int .i64 m.sl, .int .i64 m.re, .int .i64 m.fa, .slice m.prl m.rl.length m.crl, .int .i64 mach, .slice x.pu x.nu x.cu, .slice x.pc x.nc x.cc, .int .i64 x.gen, .map (some x.d)].toArray 82 (0, 0)), x.HU, x.HC, single x.d (.map x.es x.ck)]) := by
  refine Ct.body Tryz.func13 rfl Tryz.ntmps13 rfl ?_
  intro E F
  have hMis := hM.is
  have hmi := hMis.len_le
  simp only [List.length_map, maxLen] at hmi
  have hn5 := hv.n5
  refine q_sr ?_
  refine q_bx 102 fun b2 => ?_
  refine q_an ?_
  refine W.seq (q_sr (q_q (q_lw 102 u29 sz29) ?_))
  refine q_e (q_c ent34 [1] [1] (valid_ct m H1 hM hT)) ?_
  rintro _ _ ⟨_, ⟨rfl, rfl⟩, rfl⟩
  refine q_q Yld.nt (q_q q_mv ?_)
  refine' q_or 12 15 3 [0, 1, 2, 4, 9, 10, 11] [0, 1, 102] ?_ ?_ ?_
  rotate_left 1
  ·
   intro hg12
   refine q_g q_mv (q_g (q_b BinV.lss) (q_q Yld.pk ?_))
   exact q_m
  ·
   intro hg12
   refine q_gs (q_gs (q_q Yld.pk ?_))
   exact q_m
  refine q_q q_mv ?_
  refine' q_or 16 22 6 [0, 1, 2, 4, 9, 10, 11, 15] [0, 1, 102] ?_ ?_ ?_
  rotate_left 1
  ·
   intro hg16
   refine q_g q_mv (q_g (q_fa fo29_3) (q_g (q_l 102 u24) (q_g (q_n u24) (q_g (q_b BinV.gtr) (q_q Yld.pk ?_)))))
   exact q_m
  ·
   intro hg16
   repeat refine q_gs ?_
   refine q_q Yld.pk ?_
   exact q_m
  refine q_nn (q_k [1, 2, 22] [0, 1, 102] ?_)
  refine W.cond rfl (fun hc22 => ?_) (fun hc22 => ?_)
  ·
   have hno : ¬ (MdV m ∧ 1 ≤ mach ∧ mach ≤ m.mc.length) := fun h => by
     simp only [Bool.or_eq_true, Bool.not_eq_true', pB_f, decide_eq_true_eq] at hc22
     rcases hc22 with (h1 | h1) | h1
     · exact h1 h.1
     · omega
     · omega
   exact absurd ⟨hv, h1, h2⟩ hno --stop
  ·
   refine W.skip (N.next (W.seq ?_))
   refine W.imp (Imp.empty _ 160) ?_
   refine W.imp (Imp.empty _ 161) (W.region (q_q (q_lw 102 u29 sz29) (q_q q_mv ?_)))
   refine q_e (Eff.makeMap 125) ?_
   rintro _ _ ⟨b25, rfl, rfl⟩
   refine q_q (Yld.buildP lay82 (.cons rfl rfl (.cons rfl rfl (.cons rfl rfl .nil))) rfl) ?_
   refine q_bx 127 fun b27 => ?_
   refine q_an ?_
   refine q_k [1, 2, 5] [0, 1, 102, 125, 127, 160, 161] ?_
   refine W.seq (q_sr (q_q (q_fa fo29_5) (q_q (q_l 102 u26) (q_q (q_n u26) (q_q q_mv (q_nn (W.block ?_)))))))
   refine W.loopK (ι := EO2) (fun z => (z.j ≤ m.is.length ∧ Own z.H z.p z.c 48 5 ((newN m.is mach z.j).map U.c))) (fun z => [(31, .int .i64 (z.j : Nat))]) (fun z => [(127, single b27 (.cells [.slice m.psi m.si.length m.csi, .slice m.pfe m.fe.length m.cfe, .slice m.prk m.rk.length m.crk, .slice m.pmc m.mc.length m.cmc, .slice m.pln m.ln.length m.cln, .slice m.pis m.is.length m.cis, .int .i64 m.da, .int .i64 m.sl, .int .i64 m.re, .int .i64 m.fa, .slice m.prl m.rl.length m.crl, .int .i64 mach, .slice z.p (newN m.is mach z.j).length z.c, .slice none 0 0, .int .i64 0, .map (some b25)].toArray 82 (0, 0))), (160, z.H)]) (fun z => m.is.length - z.j) (.of [1, 5, 29, 30] rfl) (.of [0, 1, 102, 125, 161] rfl) ⟨0, emp, none, 0⟩ ?_ ?_ ?_ ?_
   · exact ⟨Nat.zero_le _, Own.nil _ _⟩
   · exact (q_a .nil)
   · exact (.to rfl)
   rintro z ⟨hj, hO⟩
   refine q_k [31, 1, 5, 29, 30] [127, 160, 0, 1, 102, 125, 161] ?_
   refine q_sr (q_q (q_b BinV.lss) (q_nn (W.seq ?_)))
   first | refine W.condD rfl (fun hc32 => ?_) (fun hc32 => ?_) | (refine W.cond rfl (fun hc32 => ?_) (fun hc32 => ?_) <;> try simp only [Bool.or_eq_true, Bool.and_eq_true, Bool.not_eq_true', Bool.not_eq_false', decide_eq_true_eq, Bool.or_eq_false_iff, Bool.and_eq_false_iff, decide_eq_false_iff_not, beq_iff_eq, beq_eq_false_iff_ne, ne_eq, Decidable.not_not] at hc32)
   ·
    obtain ⟨x, hx⟩ : ∃ x, m.is[z.j]? = some x := ⟨_, List.getElem?_eq_getElem (show z.j < m.is.length by first | omega | (simp only [List.length_map] at *; omega))⟩
    have hlx : (m.is.map It.c)[z.j]? = some x.c := by simp [hx]
    have hnl := newN_le (is := m.is) (mach := mach) z.j
    refine W.skip (N.next (W.seq (W.block (q_sr (q_q q_mv ?_)))))
    refine q_q (q_ix u26 sz64) ?_
    refine q_q (by first | exact q_rA 1 u64 sz64 | exact q_rA 102 u64 sz64 | exact q_rA 125 u64 sz64 | exact q_rA 161 u64 sz64 | exact q_rA 127 u64 sz64 | exact q_rA 160 u64 sz64) ?_
    refine q_al 107 zc64 fun b7 => ?_
    refine q_q q_as (q_s 107 sz64 ?_)
    refine q_nn (q_k [1, 5, 6, 7, 29, 30, 31] [0, 1, 102, 107, 125, 127, 160, 161] ?_)
    refine W.seq (q_sr (q_q (q_fa fo64_6) (q_q (q_l 107 u55) (q_q q_mv ?_))))
    refine q_e (q_c ent35 [1] [1] (contains_ct x.on _ _ _ (hM.on x (List.mem_of_getElem? hx)) mach)) ?_
    rintro _ _ ⟨_, ⟨rfl, rfl⟩, rfl⟩
    refine q_q Yld.nt (q_nn (q_k [1, 5, 6, 7, 29, 30, 31, 40] [0, 1, 102, 107, 125, 127, 160, 161] ?_))
    first | refine W.condD rfl (fun hc40 => ?_) (fun hc40 => ?_) | (refine W.cond rfl (fun hc40 => ?_) (fun hc40 => ?_) <;> try simp only [Bool.or_eq_true, Bool.and_eq_true, Bool.not_eq_true', Bool.not_eq_false', decide_eq_true_eq, Bool.or_eq_false_iff, Bool.and_eq_false_iff, decide_eq_false_iff_not, beq_iff_eq, beq_eq_false_iff_ne, ne_eq, Decidable.not_not] at hc40)
    ·
     refine W.exit (N.then_exit (N.block_eq (N.next (W.region ?_))))
     refine q_q q_ad (q_q q_mv (RL.nil ?_))
     exact N.famK ⟨z.j + 1, z.H, z.p, z.c⟩ ⟨⟨by dsimp only; omega, by dsimp only; rw [newN_out hx hc40]; exact hO⟩, by dsimp only; omega⟩ (q_a .nil) (.to rfl) (.as rfl (by rw [newN_out hx hc40]) (.to rfl)) (.to rfl)
    ·
     refine W.skip (N.next (q_sr (q_q q_mv ?_)))
     refine q_q q_ad ?_
     refine q_q (Yld.buildP lay48 (.cons rfl rfl .nil) rfl) ?_
     refine q_al 108 zc48 fun b8 => ?_
     refine q_s 108 sz48 ?_
     refine q_nn (q_k [1, 5, 7, 8, 29, 30, 31] [0, 1, 102, 107, 108, 125, 127, 160, 161] ?_)
     refine W.seq (q_sr (q_q (q_fa fo64_1) (q_q (q_l 107 u3) (q_q (q_b BinV.eql) (q_nn ?_)))))
     first | refine W.condD rfl (fun hc46 => ?_) (fun hc46 => ?_) | (refine W.cond rfl (fun hc46 => ?_) (fun hc46 => ?_) <;> try simp only [Bool.or_eq_true, Bool.and_eq_true, Bool.not_eq_true', Bool.not_eq_false', decide_eq_true_eq, Bool.or_eq_false_iff, Bool.and_eq_false_iff, decide_eq_false_iff_not, beq_iff_eq, beq_eq_false_iff_ne, ne_eq, Decidable.not_not] at hc46)
     ·
      refine W.region (q_q q_mv (q_q (q_fa fo48_1) (q_s 108 sz3 ?_)))
      refine q_nn (q_k [1, 5, 8, 29, 30, 31] [0, 1, 102, 107, 108, 125, 127, 160, 161] ?_)
      refine W.draw (.q 0 (.q 1 (.q 2 (.q 3 (.q 5 (.two 4 (.one 6 (.one 7 (.q 8 (.q 9 (.one 10 .done))))) 6 (.one 4 (.one 7 (.q 8 (.q 9 (.one 10 .done))))))))))) (.of [0, 1, 102, 107, 108, 125, 161] rfl) mix (by kernel_rfl) (by kernel_rfl) (q_d rfl q_mv (q_d rfl q_mv (q_d rfl q_np (q_d rfl (q_fa fo82_2) (q_d rfl (q_lw 108 u48 sz48) ?_)))))
      refine DL.two ?_ ?_
      ·
       refine q_o rfl (Yld.eff (q_l 127 u41)) ?_
       rintro _ _ ⟨rfl, rfl⟩
       refine q_o rfl (Eff.buildSlice 155 u41 sz48 zc48 rfl rfl (.cons rfl rfl .nil) rfl) ?_
       rintro _ _ ⟨b55, rfl, rfl⟩
       refine q_o rfl (Eff.appendE (tc := 160) (sc := 155) (ms := [newU mach z.j x]) U.c u41 el48 rfl rfl rfl rfl hO rfl (Own.one (l := (newU mach z.j x).c) rfl (U.one _) (by unfold newU U.c; first | (rw [if_pos hc46]; rfl) | (rw [if_neg hc46]; rfl))).sl rfl (fun a _ => U.one a) (by decide) (by simp; omega) (by simp [maxLen]; omega)) ?_
       rintro _ _ ⟨Ha, pa, ca, rfl, hOa, rfl⟩
       refine q_d rfl q_np (q_d rfl (q_fa fo82_2) ?_)
       refine q_o0 rfl (q_st 127 sz41) ?_
       rintro _ _ rfl
       refine DL.done (N.block_normal (N.next (q_k [1, 5, 29, 30, 31] [0, 1, 102, 107, 108, 125, 127, 155, 160, 161] ?_)))
       refine W.region ?_
       refine q_q q_ad (q_q q_mv (RL.nil ?_))
       exact N.famK ⟨z.j + 1, Ha, pa, ca⟩ ⟨⟨by dsimp only; omega, by dsimp only; rw [newN_in hx (Classical.not_not.1 hc40)]; exact hOa⟩, by dsimp only; omega⟩ (q_a .nil) (.to rfl) (.as rfl (by rw [newN_in hx (Classical.not_not.1 hc40)]) (.to rfl)) (.to rfl)
      ·
       refine q_o rfl (Eff.buildSlice 155 u41 sz48 zc48 rfl rfl (.cons rfl rfl .nil) rfl) ?_
       rintro _ _ ⟨b55, rfl, rfl⟩
       refine q_o rfl (Yld.eff (q_l 127 u41)) ?_
       rintro _ _ ⟨rfl, rfl⟩
       refine q_o rfl (Eff.appendE (tc := 160) (sc := 155) (ms := [newU mach z.j x]) U.c u41 el48 rfl rfl rfl rfl hO rfl (Own.one (l := (newU mach z.j x).c) rfl (U.one _) (by unfold newU U.c; first | (rw [if_pos hc46]; rfl) | (rw [if_neg hc46]; rfl))).sl rfl (fun a _ => U.one a) (by decide) (by simp; omega) (by simp [maxLen]; omega)) ?_
       rintro _ _ ⟨Ha, pa, ca, rfl, hOa, rfl⟩
       refine q_d rfl q_np (q_d rfl (q_fa fo82_2) ?_)
       refine q_o0 rfl (q_st 127 sz41) ?_
       rintro _ _ rfl
       refine DL.done (N.block_normal (N.next (q_k [1, 5, 29, 30, 31] [0, 1, 102, 107, 108, 125, 127, 155, 160, 161] ?_)))
       refine W.region ?_
       refine q_q q_ad (q_q q_mv (RL.nil ?_))
       exact N.famK ⟨z.j + 1, Ha, pa, ca⟩ ⟨⟨by dsimp only; omega, by dsimp only; rw [newN_in hx (Classical.not_not.1 hc40)]; exact hOa⟩, by dsimp only; omega⟩ (q_a .nil) (.to rfl) (.as rfl (by rw [newN_in hx (Classical.not_not.1 hc40)]) (.to rfl)) (.to rfl)
     ·
      refine W.skip (N.next (q_k [1, 5, 8, 29, 30, 31] [0, 1, 102, 107, 108, 125, 127, 160, 161] ?_))
      refine W.draw (.q 0 (.q 1 (.q 2 (.q 3 (.q 5 (.two 4 (.one 6 (.one 7 (.q 8 (.q 9 (.one 10 .done))))) 6 (.one 4 (.one 7 (.q 8 (.q 9 (.one 10 .done))))))))))) (.of [0, 1, 102, 107, 108, 125, 161] rfl) mix (by kernel_rfl) (by kernel_rfl) (q_d rfl q_mv (q_d rfl q_mv (q_d rfl q_np (q_d rfl (q_fa fo82_2) (q_d rfl (q_lw 108 u48 sz48) ?_)))))
      refine DL.two ?_ ?_
      ·
       refine q_o rfl (Yld.eff (q_l 127 u41)) ?_
       rintro _ _ ⟨rfl, rfl⟩
       refine q_o rfl (Eff.buildSlice 155 u41 sz48 zc48 rfl rfl (.cons rfl rfl .nil) rfl) ?_
       rintro _ _ ⟨b55, rfl, rfl⟩
       refine q_o rfl (Eff.appendE (tc := 160) (sc := 155) (ms := [newU mach z.j x]) U.c u41 el48 rfl rfl rfl rfl hO rfl (Own.one (l := (newU mach z.j x).c) rfl (U.one _) (by unfold newU U.c; first | (rw [if_pos hc46]; rfl) | (rw [if_neg hc46]; rfl))).sl rfl (fun a _ => U.one a) (by decide) (by simp; omega) (by simp [maxLen]; omega)) ?_
       rintro _ _ ⟨Ha, pa, ca, rfl, hOa, rfl⟩
       refine q_d rfl q_np (q_d rfl (q_fa fo82_2) ?_)
       refine q_o0 rfl (q_st 127 sz41) ?_
       rintro _ _ rfl
       refine DL.done (N.block_normal (N.next (q_k [1, 5, 29, 30, 31] [0, 1, 102, 107, 108, 125, 127, 155, 160, 161] ?_)))
       refine W.region ?_
       refine q_q q_ad (q_q q_mv (RL.nil ?_))
       exact N.famK ⟨z.j + 1, Ha, pa, ca⟩ ⟨⟨by dsimp only; omega, by dsimp only; rw [newN_in hx (Classical.not_not.1 hc40)]; exact hOa⟩, by dsimp only; omega⟩ (q_a .nil) (.to rfl) (.as rfl (by rw [newN_in hx (Classical.not_not.1 hc40)]) (.to rfl)) (.to rfl)
      ·
       refine q_o rfl (Eff.buildSlice 155 u41 sz48 zc48 rfl rfl (.cons rfl rfl .nil) rfl) ?_
       rintro _ _ ⟨b55, rfl, rfl⟩
       refine q_o rfl (Yld.eff (q_l 127 u41)) ?_
       rintro _ _ ⟨rfl, rfl⟩
       refine q_o rfl (Eff.appendE (tc := 160) (sc := 155) (ms := [newU mach z.j x]) U.c u41 el48 rfl rfl rfl rfl hO rfl (Own.one (l := (newU mach z.j x).c) rfl (U.one _) (by unfold newU U.c; first | (rw [if_pos hc46]; rfl) | (rw [if_neg hc46]; rfl))).sl rfl (fun a _ => U.one a) (by decide) (by simp; omega) (by simp [maxLen]; omega)) ?_
       rintro _ _ ⟨Ha, pa, ca, rfl, hOa, rfl⟩
       refine q_d rfl q_np (q_d rfl (q_fa fo82_2) ?_)
       refine q_o0 rfl (q_st 127 sz41) ?_
       rintro _ _ rfl
       refine DL.done (N.block_normal (N.next (q_k [1, 5, 29, 30, 31] [0, 1, 102, 107, 108, 125, 127, 155, 160, 161] ?_)))
       refine W.region ?_
       refine q_q q_ad (q_q q_mv (RL.nil ?_))
       exact N.famK ⟨z.j + 1, Ha, pa, ca⟩ ⟨⟨by dsimp only; omega, by dsimp only; rw [newN_in hx (Classical.not_not.1 hc40)]; exact hOa⟩, by dsimp only; omega⟩ (q_a .nil) (.to rfl) (.as rfl (by rw [newN_in hx (Classical.not_not.1 hc40)]) (.to rfl)) (.to rfl)
   ·
    have hend : z.j = m.is.length := by omega
    rw [hend] at hO ⊢
    refine W.exit (N.then_exit (N.then_exit (N.block_eq (N.next (q_k [5] [0, 1, 102, 125, 127, 160, 161] ?_)))))
    refine q_sr (q_q q_mv (q_an ?_))
    refine W.ret ?_
    exact q_r [1, 127, 160, 161, 125] (.cons (.tmp rfl) .nil) rfl rfl rfl ⟨b27, ⟨z.p, _, z.c, z.H, none, 0, 0, emp, 0, b25, #[], 0, []⟩, rfl, ⟨rfl, rfl, rfl, hO, Own.nil _ _, MapP.empty _, fun s => rfl⟩, rfl⟩
end Go.Proofs.YtboapdcmaeojgaaGreatDoor
namespace Go.Proofs.YtboapdcmaeojgaaGreatDoor.Fen
open Cat SL
set_option linter.unusedVariables false
set_option linter.unusedSimpArgs false
structure Opn where
  kd : Int
  g : Int
  s : Int
  c : Cm
  cl : Cl
def Opn.cs (o : Opn) : List Value := [.int .i64 o.kd, .int .i64 o.g, .int .i64 o.s, .int .i64 o.c.kd, .int .i64 o.c.it, .int .i64 o.c.rp, .int .i64 o.c.va, .int .i64 o.cl.it, .int .i64 o.cl.cl, .int .i64 o.cl.nu, .int .i64 o.cl.va]
theorem kws_size : ∀ k ∈ kws, 2 ≤ k.size := by decide +kernel
theorem name1 (c : UInt8) (h1 : 97 ≤ c.toNat) (h2 : c.toNat ≤ 122) : NameOK ⟨#[c]⟩ := by
  have h0 : at_ ⟨#[c]⟩ 0 = c.toNat := rfl
  refine ⟨Nat.le_refl _, show 1 ≤ 31 by decide, ⟨by rw [h0]; omega, by rw [h0]; omega⟩, fun h => ?_, fun i hi => ?_⟩
  · have := kws_size _ h
    exact absurd this (show ¬ 2 ≤ 1 by decide)
  · have hi0 : i = 0 := Nat.lt_one_iff.1 hi
    subst hi0
    rw [h0]
    exact .inl ⟨by omega, by omega⟩
def exIt (nm : UInt8) (kd : Int) (p : Option Addr) : It := ⟨⟨#[nm]⟩, kd, 1, 0, 0, 1, p, [1], 1⟩
def exM (p1 p2 p3 p4 p5 q1 q2 q3 : Option Addr) : Md := ⟨p1, [⟨#[97]⟩], 1, p2, [⟨#[102]⟩], 1, p3, [⟨⟨#[114]⟩, 1, 1⟩], 1, p4, [⟨⟨#[109]⟩, 1, 0⟩], 1, none, [], 0, p5, [exIt 106 2 q1, exIt 112 1 q2, exIt 103 0 q3], 3, 1, 1, 0, 0, none, [], 0⟩
theorem exM_valid (p1 p2 p3 p4 p5 q1 q2 q3 : Option Addr) : MdV (exM p1 p2 p3 p4 p5 q1 q2 q3) where
  site := ⟨by simp [InR, exM, exIt], by simp [InR, exM, exIt], by simp [InR, exM, exIt], by simp [InR, exM, exIt], by simp [InR, exM, exIt],
    fun i x h => by
      rcases i with _ | i
      · simp [exM] at h; subst h
        exact ⟨by simp [InR, exM, exIt], by simp [InR, exM, exIt], fun k y hk => absurd hk (Nat.not_lt_zero _)⟩
      · simp [exM] at h,
    fun i x h => by
      rcases i with _ | i
      · simp [exM] at h; subst h
        exact ⟨by simp [InR, exM, exIt], by simp [InR, exM, exIt]⟩
      · simp [exM] at h,
    fun i x h => by simp [exM] at h⟩
  n5 := by simp [InR, exM, exIt]
  n6 := by simp [InR, exM, exIt]
  da := by simp [InR, exM, exIt]
  sl := by simp [InR, exM, exIt]
  re := by simp [InR, exM, exIt]
  fa := by simp [InR, exM, exIt]
  ns := by
    have e : namesOf (exM p1 p2 p3 p4 p5 q1 q2 q3) = [⟨#[97]⟩, ⟨#[102]⟩, ⟨#[114]⟩, ⟨#[109]⟩, ⟨#[106]⟩, ⟨#[112]⟩, ⟨#[103]⟩] := rfl
    unfold NsV
    rw [e]
    intro i s hi h
    rcases i with _ | _ | _ | _ | _ | _ | _ | i
    · cases h; exact ⟨name1 _ (by decide) (by decide), by simp⟩
    · cases h; exact ⟨name1 _ (by decide) (by decide), by simp⟩
    · cases h; exact ⟨name1 _ (by decide) (by decide), by simp⟩
    · cases h; exact ⟨name1 _ (by decide) (by decide), by simp⟩
    · cases h; exact ⟨name1 _ (by decide) (by decide), by simp⟩
    · cases h; exact ⟨name1 _ (by decide) (by decide), by simp⟩
    · cases h; exact ⟨name1 _ (by decide) (by decide), by simp⟩
    · cases h
  it := fun x hx => by
    have hms : MsV (exM p1 p2 p3 p4 p5 q1 q2 q3).mc.length [1] := ⟨show 0 < 1 by decide, fun i z hi h => by
      rcases i with _ | i
      · cases h; exact ⟨by simp [InR, exM, exIt], fun h => absurd h (Nat.lt_irrefl _)⟩
      · cases h⟩
    simp only [exM, List.mem_cons, List.not_mem_nil, or_false] at hx
    rcases hx with rfl | rfl | rfl
    · exact ⟨.inr (.inr ⟨rfl, rfl, rfl⟩), hms, by simp [InR, exM, exIt], by simp [InR, exM, exIt], by simp [InR, exM, exIt]⟩
    · exact ⟨.inr (.inl ⟨rfl, by simp [InR, exM, exIt]⟩), hms, by simp [InR, exM, exIt], by simp [InR, exM, exIt], by simp [InR, exM, exIt]⟩
    · exact ⟨.inl ⟨rfl, .inl rfl, rfl⟩, hms, by simp [InR, exM, exIt], by simp [InR, exM, exIt], by simp [InR, exM, exIt]⟩
  rl := fun x hx => by cases hx
section
variable {p1 p2 p3 p4 p5 q1 q2 q3 : Option Addr}
def exT (v s g : Int) (dn : List (Int × Int)) : T := ⟨[⟨1, 0, s, v, 0⟩, ⟨2, 0, 0, 0, 0⟩, ⟨3, 1, 0, 0, 0⟩], [], g, dn⟩
theorem ex_d1 : doP 2 1 (exT 2 0 0 []) 1 5 ⟨4, 1, 0, 0⟩ = (exT 2 2 1 [(5, 2)], 0, 2) := by decide +kernel
theorem ex_d2 : doP 2 1 (exT 2 2 1 [(5, 2)]) 1 5 ⟨4, 1, 0, 0⟩ = (exT 2 2 1 [(5, 2)], 0, 2) := by decide +kernel
theorem ex_d3 : doP 2 1 (exT 2 2 1 [(5, 2)]) 2 1 ⟨2, 1, 0, 0⟩ = (exT 2 0 2 [(1, 0)], 0, 0) := by decide +kernel
theorem ex_d4 : doP 2 1 (exT 2 0 2 [(1, 0)]) 1 6 ⟨5, 1, 0, 0⟩ = (exT 2 0 2 [(1, 0)], 12, 0) := by decide +kernel
end
end Go.Proofs.YtboapdcmaeojgaaGreatDoor.Fen
namespace Go.Proofs.YtboapdcmaeojgaaGreatDoor
open SL Cat Fen
set_option linter.unusedVariables false
set_option linter.unusedSimpArgs false
theorem eqg48 : Program.eqGuardType Tryz.prog (Program.depth Tryz.prog) 48 = false := by kernel_rfl
theorem sih48 : Program.stoodInHeld Tryz.prog 48 = false := by kernel_rfl
theorem eqg38 : Program.eqGuardType Tryz.prog (Program.depth Tryz.prog) 38 = false := by kernel_rfl
theorem sih38 : Program.stoodInHeld Tryz.prog 38 = false := by kernel_rfl
theorem ent19 : Ent Tryz.prog 19 := ⟨_, _, Tryz.func19, by kernel_rfl, rfl⟩
theorem lay64 : layS Tryz.prog 64 = some ([.string .empty, .int .i64 0, .int .i64 0, .int .i64 0, .int .i64 0, .int .i64 0, .slice none 0 0], [(0, 1), (1, 1), (2, 1), (3, 1), (4, 1), (5, 1), (6, 1)]) := by kernel_rfl
theorem ent65 : Ent Tryz.prog 65 := ⟨_, _, Tryz.func65, by kernel_rfl, rfl⟩
theorem zc29 : zc Tryz.prog 29 [.slice none 0 0, .slice none 0 0, .slice none 0 0, .slice none 0 0, .slice none 0 0, .slice none 0 0, .int .i64 0, .int .i64 0, .int .i64 0, .int .i64 0, .slice none 0 0] := (by kernel_rfl : ((Tryz.prog.info? 29).bind (·.zero)).map (fun v => v.cells.toList) = some [.slice none 0 0, .slice none 0 0, .slice none 0 0, .slice none 0 0, .slice none 0 0, .slice none 0 0, .int .i64 0, .int .i64 0, .int .i64 0, .int .i64 0, .slice none 0 0])
theorem lay93 : layS Tryz.prog 93 = some ([.string .empty, .int .i64 0, .int .i64 0], [(0, 1), (1, 1), (2, 1)]) := by kernel_rfl
theorem lay95 : layS Tryz.prog 95 = some ([.string .empty, .int .i64 0, .int .i64 0], [(0, 1), (1, 1), (2, 1)]) := by kernel_rfl
theorem lay29 : layS Tryz.prog 29 = some ([.slice none 0 0, .slice none 0 0, .slice none 0 0, .slice none 0 0, .slice none 0 0, .slice none 0 0, .int .i64 0, .int .i64 0, .int .i64 0, .int .i64 0, .slice none 0 0], [(0, 1), (1, 1), (2, 1), (3, 1), (4, 1), (5, 1), (6, 1), (7, 1), (8, 1), (9, 1), (10, 1)]) := by kernel_rfl
abbrev u30 := @Tryz.underlying30
set_option maxRecDepth 100000 in
set_option maxHeartbeats 1600000 in
theorem sameU_ct (l k : List U) (H1 H2 : PH) (p q : Option Addr) (c d n1 n2 : Nat) (hn1 : n1 = l.length) (hn2 : n2 = k.length) (h1 : Sl H1 p c 5 (l.map U.c)) (h2 : Sl H2 q d 5 (k.map U.c)) : Ct Tryz.prog 17 [.slice p n1 c, .slice q n2 d] [H1, H2] (fun v Hs => v = .bool (decide (l = k)) ∧ Hs = [H1, H2]) := by
  refine Ct.body Tryz.func17 rfl Tryz.ntmps17 rfl ?_
  intro E F
  subst hn1; subst hn2
  have hmx1 := h1.len_le
  simp only [List.length_map, maxLen] at hmx1
  have hmx2 := h2.len_le
  simp only [List.length_map, maxLen] at hmx2
  refine q_sr (q_an ?_)
  refine W.seq (q_sr (q_q q_mv (q_q (q_n u41) (q_q q_mv (q_q (q_n u41) (q_q (q_b BinV.neq) (q_nn (q_k [0, 1, 10] [0, 1, 2] ?_))))))))
  first | refine W.condD rfl (fun hc10 => ?_) (fun hc10 => ?_) | (refine W.cond rfl (fun hc10 => ?_) (fun hc10 => ?_) <;> try simp only [Bool.or_eq_true, Bool.and_eq_true, Bool.not_eq_true', Bool.not_eq_false', decide_eq_true_eq, Bool.or_eq_false_iff, Bool.and_eq_false_iff, decide_eq_false_iff_not, beq_iff_eq, beq_eq_false_iff_ne, ne_eq, Decidable.not_not] at hc10)
  ·
   refine q_sr (q_an ?_)
   refine W.ret (N.then_ret ?_)
   exact q_r [1, 2] (.cons (.tmp rfl) .nil) rfl rfl rfl ⟨by rw [decide_eq_false (fun e => by subst e; exact hc10 rfl)]; rfl, rfl⟩
  ·
   refine W.skip (N.next (W.seq (q_sr (q_an ?_))))
   refine W.block ?_
   refine W.loopK (ι := Nat) (fun j => (j ≤ l.length ∧ ∀ (i : Nat), i < j → l[i]? = k[i]?)) (fun j => [(5, .int .i64 (j : Nat))]) (fun j => []) (fun j => l.length - j) (.of [0, 1] rfl) (.of [0, 1, 2] rfl) 0 ?_ ?_ ?_ ?_
   · exact ⟨Nat.zero_le _, fun _ h => absurd h (Nat.not_lt_zero _)⟩
   · exact (q_a .nil)
   · exact .nil
   rintro j ⟨hj, hI⟩
   refine q_k [5, 0, 1] [0, 1, 2] ?_
   refine W.seq (q_sr (q_q q_mv (q_q q_mv (q_q (q_n u41) (q_q (q_b BinV.lss) (q_nn ?_))))))
   first | refine W.condD rfl (fun hc14 => ?_) (fun hc14 => ?_) | (refine W.cond rfl (fun hc14 => ?_) (fun hc14 => ?_) <;> try simp only [Bool.or_eq_true, Bool.and_eq_true, Bool.not_eq_true', Bool.not_eq_false', decide_eq_true_eq, Bool.or_eq_false_iff, Bool.and_eq_false_iff, decide_eq_false_iff_not, beq_iff_eq, beq_eq_false_iff_ne, ne_eq, Decidable.not_not] at hc14)
   ·
    obtain ⟨x, hx⟩ : ∃ x, l[j]? = some x := ⟨_, List.getElem?_eq_getElem (show j < l.length by first | omega | (simp only [List.length_map] at *; omega))⟩
    have hlx : (l.map U.c)[j]? = some x.c := by simp [hx]
    obtain ⟨y, hy⟩ : ∃ y, k[j]? = some y := ⟨_, List.getElem?_eq_getElem (show j < k.length by first | omega | (simp only [List.length_map] at *; omega))⟩
    have hly : (k.map U.c)[j]? = some y.c := by simp [hy]
    refine W.skip (N.next (q_k [0, 1, 5] [0, 1, 2] ?_))
    refine W.seq (W.block (W.seq ?_))
    refine W.draw (.q 0 (.q 1 (.q 2 (.q 3 (.q 4 (.q 5 (.q 6 (.q 7 (.q 8 .done))))))))) (.of [0, 1, 2] rfl) mix (by kernel_rfl) (by kernel_rfl) (q_d rfl q_mv (q_d rfl q_mv ?_))
    refine q_d rfl (q_ix u41 sz48) ?_
    refine q_d rfl (by first | exact q_rA 1 u48 sz48 | exact q_rA 2 u48 sz48) ?_
    refine q_d rfl q_mv (q_d rfl q_mv ?_)
    refine q_d rfl (q_ix u41 sz48) ?_
    refine q_d rfl (by first | exact q_rA 1 u48 sz48 | exact q_rA 2 u48 sz48) ?_
    refine q_d rfl (Yld.bin rfl rfl (BinV.neqT eqg48 (EqV.struct u48 sih48 (EqF.cons rfl (PartV.one u3 rfl rfl) (PartV.one u3 rfl rfl) (EqV.int u3) (EqF.cons rfl (PartV.one u3 rfl rfl) (PartV.one u3 rfl rfl) (EqV.int u3) (EqF.cons rfl (PartV.one u3 rfl rfl) (PartV.one u3 rfl rfl) (EqV.int u3) (EqF.cons rfl (PartV.one u2 rfl rfl) (PartV.one u2 rfl rfl) (EqV.int u2) (EqF.cons rfl (PartV.one u3 rfl rfl) (PartV.one u3 rfl rfl) (EqV.int u3) EqF.nil)))))))) ?_
    refine DL.done (N.next (q_k [0, 1, 5, 25] [0, 1, 2] ?_))
    refine W.cond rfl (fun hc25 => ?_) (fun hc25 => ?_)
    ·
     have hxy : x ≠ y := fun e => by subst e; simp at hc25
     refine q_sr (q_an ?_)
     refine q_k [4] [0, 1, 2] ?_
     refine W.ret (N.block_ret (N.then_ret (N.then_ret (N.block_ret (N.then_ret ?_)))))
     exact q_r [1, 2] (.cons (.tmp rfl) .nil) rfl rfl rfl ⟨by rw [decide_eq_false (fun e => by subst e; rw [hx] at hy; cases hy; exact hxy rfl)]; rfl, rfl⟩
    ·
     have hxy : x = y := by
       cases x; cases y
       simp at hc25
       simp [hc25]
     refine W.skip (N.block_normal (N.next (W.region (q_q q_mv ?_))))
     refine q_q q_ad (q_q q_as (RL.nil ?_))
     exact N.famK (j + 1) ⟨⟨by omega, fun i hi => (Nat.lt_succ_iff_lt_or_eq.1 hi).elim (fun h => hI i h) (fun e => by subst e; rw [hx, hy, hxy])⟩, by omega⟩ (q_a .nil) (.to rfl) .nil (.to rfl)
   ·
    refine W.exit (N.then_exit (N.then_exit (N.block_eq (N.next ?_))))
    refine W.keep .nil (.of [0, 1, 2] rfl) (q_sr (q_an ?_))
    refine W.ret ?_
    exact q_r [1, 2] (.cons (.tmp rfl) .nil) rfl rfl rfl ⟨by rw [decide_eq_true (List.ext_getElem? fun i => by by_cases h : i < l.length; exact hI i (by omega); rw [List.getElem?_eq_none (by omega), List.getElem?_eq_none (by omega)])]; rfl, rfl⟩
set_option maxRecDepth 100000 in
set_option maxHeartbeats 1600000 in
theorem sameC_ct (l k : List Cl) (H1 H2 : PH) (p q : Option Addr) (c d n1 n2 : Nat) (hn1 : n1 = l.length) (hn2 : n2 = k.length) (h1 : Sl H1 p c 4 (l.map Cl.c)) (h2 : Sl H2 q d 4 (k.map Cl.c)) : Ct Tryz.prog 27 [.slice p n1 c, .slice q n2 d] [H1, H2] (fun v Hs => v = .bool (decide (l = k)) ∧ Hs = [H1, H2]) := by
  refine Ct.body Tryz.func27 rfl Tryz.ntmps27 rfl ?_
  intro E F
  subst hn1; subst hn2
  have hmx1 := h1.len_le
  simp only [List.length_map, maxLen] at hmx1
  have hmx2 := h2.len_le
  simp only [List.length_map, maxLen] at hmx2
  refine q_sr (q_an ?_)
  refine W.seq (q_sr (q_q q_mv (q_q (q_n u57) (q_q q_mv (q_q (q_n u57) (q_q (q_b BinV.neq) (q_nn (q_k [0, 1, 10] [0, 1, 2] ?_))))))))
  first | refine W.condD rfl (fun hc10 => ?_) (fun hc10 => ?_) | (refine W.cond rfl (fun hc10 => ?_) (fun hc10 => ?_) <;> try simp only [Bool.or_eq_true, Bool.and_eq_true, Bool.not_eq_true', Bool.not_eq_false', decide_eq_true_eq, Bool.or_eq_false_iff, Bool.and_eq_false_iff, decide_eq_false_iff_not, beq_iff_eq, beq_eq_false_iff_ne, ne_eq, Decidable.not_not] at hc10)
  ·
   refine q_sr (q_an ?_)
   refine W.ret (N.then_ret ?_)
   exact q_r [1, 2] (.cons (.tmp rfl) .nil) rfl rfl rfl ⟨by rw [decide_eq_false (fun e => by subst e; exact hc10 rfl)]; rfl, rfl⟩
  ·
   refine W.skip (N.next (W.seq (q_sr (q_an ?_))))
   refine W.block ?_
   refine W.loopK (ι := Nat) (fun j => (j ≤ l.length ∧ ∀ (i : Nat), i < j → l[i]? = k[i]?)) (fun j => [(5, .int .i64 (j : Nat))]) (fun j => []) (fun j => l.length - j) (.of [0, 1] rfl) (.of [0, 1, 2] rfl) 0 ?_ ?_ ?_ ?_
   · exact ⟨Nat.zero_le _, fun _ h => absurd h (Nat.not_lt_zero _)⟩
   · exact (q_a .nil)
   · exact .nil
   rintro j ⟨hj, hI⟩
   refine q_k [5, 0, 1] [0, 1, 2] ?_
   refine W.seq (q_sr (q_q q_mv (q_q q_mv (q_q (q_n u57) (q_q (q_b BinV.lss) (q_nn ?_))))))
   first | refine W.condD rfl (fun hc14 => ?_) (fun hc14 => ?_) | (refine W.cond rfl (fun hc14 => ?_) (fun hc14 => ?_) <;> try simp only [Bool.or_eq_true, Bool.and_eq_true, Bool.not_eq_true', Bool.not_eq_false', decide_eq_true_eq, Bool.or_eq_false_iff, Bool.and_eq_false_iff, decide_eq_false_iff_not, beq_iff_eq, beq_eq_false_iff_ne, ne_eq, Decidable.not_not] at hc14)
   ·
    obtain ⟨x, hx⟩ : ∃ x, l[j]? = some x := ⟨_, List.getElem?_eq_getElem (show j < l.length by first | omega | (simp only [List.length_map] at *; omega))⟩
    have hlx : (l.map Cl.c)[j]? = some x.c := by simp [hx]
    obtain ⟨y, hy⟩ : ∃ y, k[j]? = some y := ⟨_, List.getElem?_eq_getElem (show j < k.length by first | omega | (simp only [List.length_map] at *; omega))⟩
    have hly : (k.map Cl.c)[j]? = some y.c := by simp [hy]
    refine W.skip (N.next (q_k [0, 1, 5] [0, 1, 2] ?_))
    refine W.seq (W.block (W.seq ?_))
    refine W.draw (.q 0 (.q 1 (.q 2 (.q 3 (.q 4 (.q 5 (.q 6 (.q 7 (.q 8 .done))))))))) (.of [0, 1, 2] rfl) mix (by kernel_rfl) (by kernel_rfl) (q_d rfl q_mv (q_d rfl q_mv ?_))
    refine q_d rfl (q_ix u57 sz38) ?_
    refine q_d rfl (by first | exact q_rA 1 u38 sz38 | exact q_rA 2 u38 sz38) ?_
    refine q_d rfl q_mv (q_d rfl q_mv ?_)
    refine q_d rfl (q_ix u57 sz38) ?_
    refine q_d rfl (by first | exact q_rA 1 u38 sz38 | exact q_rA 2 u38 sz38) ?_
    refine q_d rfl (Yld.bin rfl rfl (BinV.neqT eqg38 (EqV.struct u38 sih38 (EqF.cons rfl (PartV.one u3 rfl rfl) (PartV.one u3 rfl rfl) (EqV.int u3) (EqF.cons rfl (PartV.one u3 rfl rfl) (PartV.one u3 rfl rfl) (EqV.int u3) (EqF.cons rfl (PartV.one u3 rfl rfl) (PartV.one u3 rfl rfl) (EqV.int u3) (EqF.cons rfl (PartV.one u2 rfl rfl) (PartV.one u2 rfl rfl) (EqV.int u2) EqF.nil))))))) ?_
    refine DL.done (N.next (q_k [0, 1, 5, 25] [0, 1, 2] ?_))
    refine W.cond rfl (fun hc25 => ?_) (fun hc25 => ?_)
    ·
     have hxy : x ≠ y := fun e => by subst e; simp at hc25
     refine q_sr (q_an ?_)
     refine q_k [4] [0, 1, 2] ?_
     refine W.ret (N.block_ret (N.then_ret (N.then_ret (N.block_ret (N.then_ret ?_)))))
     exact q_r [1, 2] (.cons (.tmp rfl) .nil) rfl rfl rfl ⟨by rw [decide_eq_false (fun e => by subst e; rw [hx] at hy; cases hy; exact hxy rfl)]; rfl, rfl⟩
    ·
     have hxy : x = y := by
       cases x; cases y
       simp at hc25
       simp [hc25]
     refine W.skip (N.block_normal (N.next (W.region (q_q q_mv ?_))))
     refine q_q q_ad (q_q q_as (RL.nil ?_))
     exact N.famK (j + 1) ⟨⟨by omega, fun i hi => (Nat.lt_succ_iff_lt_or_eq.1 hi).elim (fun h => hI i h) (fun e => by subst e; rw [hx, hy, hxy])⟩, by omega⟩ (q_a .nil) (.to rfl) .nil (.to rfl)
   ·
    refine W.exit (N.then_exit (N.then_exit (N.block_eq (N.next ?_))))
    refine W.keep .nil (.of [0, 1, 2] rfl) (q_sr (q_an ?_))
    refine W.ret ?_
    exact q_r [1, 2] (.cons (.tmp rfl) .nil) rfl rfl rfl ⟨by rw [decide_eq_true (List.ext_getElem? fun i => by by_cases h : i < l.length; exact hI i (by omega); rw [List.getElem?_eq_none (by omega), List.getElem?_eq_none (by omega)])]; rfl, rfl⟩
set_option maxRecDepth 100000 in
set_option maxHeartbeats 1600000 in
theorem few_ct (m : Md) (H1 : PH) (hM : m.In H1) (mach most : Int) (q : Option Addr) (n d : Nat) : Ct Tryz.prog 11 [.agg [.slice m.psi m.si.length m.csi, .slice m.pfe m.fe.length m.cfe, .slice m.prk m.rk.length m.crk, .slice m.pmc m.mc.length m.cmc, .slice m.pln m.ln.length m.cln, .slice m.pis m.is.length m.cis, .int .i64 m.da, .int .i64 m.sl, .int .i64 m.re, .int .i64 m.fa, .slice m.prl m.rl.length m.crl].toArray, .int .i64 mach, .slice q n d, .int .i64 most] [H1] (fun v Hs => v = .bool (pB (MdV m) && decide (1 ≤ mach) && decide (mach ≤ m.mc.length) && decide ((n : Int) ≤ most)) ∧ Hs = [H1]) := by
  refine Ct.body Tryz.func11 rfl Tryz.ntmps11 rfl ?_
  intro E F
  refine q_sr ?_
  refine q_bx 104 fun b4 => ?_
  refine q_an ?_
  refine q_sr (q_q (q_lw 104 u29 sz29) ?_)
  refine q_e (q_c ent19 [1] [1] (rvalid_ct m H1 hM)) ?_
  rintro _ _ ⟨_, ⟨rfl, rfl⟩, rfl⟩
  refine q_q q_mv ?_
  refine' q_and 11 14 3 [0, 1, 2, 3, 4, 8, 9, 10] [0, 1, 104] ?_ ?_ ?_
  rotate_left 1
  ·
   intro hg11
   refine q_g q_mv (q_g (q_b BinV.geq) (q_q Yld.pk ?_))
   exact q_m
  ·
   intro hg11
   refine q_gs (q_gs (q_q Yld.pk ?_))
   exact q_m
  refine q_q q_mv ?_
  refine' q_and 15 21 6 [0, 1, 2, 3, 4, 8, 9, 10, 14] [0, 1, 104] ?_ ?_ ?_
  rotate_left 1
  ·
   intro hg15
   refine q_g q_mv (q_g (q_fa fo29_3) (q_g (q_l 104 u24) (q_g (q_n u24) (q_g (q_b BinV.leq) (q_q Yld.pk ?_)))))
   exact q_m
  ·
   intro hg15
   repeat refine q_gs ?_
   refine q_q Yld.pk ?_
   exact q_m
  refine q_q q_mv ?_
  refine' q_and 22 27 5 [0, 1, 2, 3, 4, 8, 9, 10, 14, 21] [0, 1, 104] ?_ ?_ ?_
  rotate_left 1
  ·
   intro hg22
   refine q_g q_mv (q_g (q_n u30) (q_g q_mv (q_g (q_b BinV.leq) (q_q Yld.pk ?_))))
   exact q_m
  ·
   intro hg22
   repeat refine q_gs ?_
   refine q_q Yld.pk ?_
   exact q_m
  refine q_an ?_
  refine q_k [8] [0, 1, 104] ?_
  refine W.ret ?_
  exact q_r [1] (.cons (.tmp rfl) .nil) rfl rfl rfl ⟨rfl, rfl⟩
set_option maxRecDepth 100000 in
set_option maxHeartbeats 400000 in
theorem exampleC_ct (nm : Ky) (kd : Int) : Ct Tryz.prog 65 [.string nm, .int .i64 kd] [] (fun v Hs => ∃ b, v = .agg [.string nm, .int .i64 kd, .int .i64 1, .int .i64 0, .int .i64 0, .int .i64 1, .slice (some ⟨b, 0, none⟩) 1 1].toArray ∧ Hs = [single b (.cells [.int .i64 1].toArray 3 (0, 0))]) := by
  refine Ct.body Tryz.func65 rfl Tryz.ntmps65 rfl ?_
  intro E F
  refine q_sr ?_
  refine q_al 104 zc64 fun b4 => ?_
  refine q_nn (q_sr (q_q q_mv (q_q q_mv ?_)))
  refine q_e (Eff.buildSlice 107 u55 sz3 zc3 rfl rfl (.cons rfl rfl .nil) rfl) ?_
  rintro _ _ ⟨b7, rfl, rfl⟩
  refine q_q (Yld.buildP lay64 (.cons rfl rfl (.cons rfl rfl (.cons rfl rfl (.cons rfl rfl (.cons rfl rfl .nil))))) rfl) (q_s 104 sz64 ?_)
  refine q_nn (q_k [4] [0, 104, 107] ?_)
  refine W.ret ?_
  exact q_r [107] (.cons (q_rc 104 u64 sz64) .nil) rfl rfl rfl ⟨_, rfl, rfl⟩
set_option maxRecDepth 100000 in
set_option maxHeartbeats 3200000 in
theorem example_ct  : Ct Tryz.prog 33 [] [] (fun v Hs => ∃ p1 p2 p3 p4 p5 q1 q2 q3 H', v = .agg (exM p1 p2 p3 p4 p5 q1 q2 q3).c.toArray ∧ (exM p1 p2 p3 p4 p5 q1 q2 q3).In H' ∧ Hs = [H']) := by
  refine Ct.body Tryz.func33 rfl Tryz.ntmps33 rfl ?_
  intro E F
  refine q_sr ?_
  refine q_al 100 zc29 fun b0 => ?_
  refine q_nn (q_sr (q_an ?_))
  refine q_sr ?_
  refine q_e (Eff.buildSlice 102 u22 sz9 zc9 rfl rfl (.cons rfl rfl .nil) rfl) ?_
  rintro _ _ ⟨b2, rfl, rfl⟩
  refine q_e (Eff.buildSlice 103 u22 sz9 zc9 rfl rfl (.cons rfl rfl .nil) rfl) ?_
  rintro _ _ ⟨b3, rfl, rfl⟩
  refine q_q (Yld.buildP lay93 (.cons rfl rfl (.cons rfl rfl (.cons rfl rfl .nil))) rfl) ?_
  refine q_e (Eff.buildSlice 105 u23 sz93 zc93 rfl rfl (.cons rfl rfl .nil) rfl) ?_
  rintro _ _ ⟨b5, rfl, rfl⟩
  refine q_q (Yld.buildP lay95 (.cons rfl rfl (.cons rfl rfl .nil)) rfl) ?_
  refine q_e (Eff.buildSlice 107 u24 sz95 zc95 rfl rfl (.cons rfl rfl .nil) rfl) ?_
  rintro _ _ ⟨b7, rfl, rfl⟩
  refine q_q q_mv ?_
  refine q_e (Eff.callV ent65 [] [151] rfl (.cons rfl (.cons rfl .nil)) (exampleC_ct ⟨#[106]⟩ 2) rfl rfl rfl rfl (by rintro _ _ ⟨_, _, rfl⟩; rfl)) ?_
  rintro _ _ ⟨_, ⟨e1, rfl, rfl⟩, rfl⟩
  refine q_q q_mv ?_
  refine q_e (Eff.callV ent65 [] [152] rfl (.cons rfl (.cons rfl .nil)) (exampleC_ct ⟨#[112]⟩ 1) rfl rfl rfl rfl (by rintro _ _ ⟨_, _, rfl⟩; rfl)) ?_
  rintro _ _ ⟨_, ⟨e2, rfl, rfl⟩, rfl⟩
  refine q_q q_mv ?_
  refine q_e (Eff.callV ent65 [] [153] rfl (.cons rfl (.cons rfl .nil)) (exampleC_ct ⟨#[103]⟩ 0) rfl rfl rfl rfl (by rintro _ _ ⟨_, _, rfl⟩; rfl)) ?_
  rintro _ _ ⟨_, ⟨e3, rfl, rfl⟩, rfl⟩
  refine q_e (Eff.buildSlice 114 u26 sz64 zc64 rfl rfl (.cons rfl rfl (.cons rfl rfl (.cons rfl rfl .nil))) rfl) ?_
  rintro _ _ ⟨b14, rfl, rfl⟩
  refine q_q (Yld.buildP lay29 (.cons rfl rfl (.cons rfl rfl (.cons rfl rfl (.cons rfl rfl (.cons rfl rfl (.cons rfl rfl (.cons rfl rfl .nil))))))) rfl) (q_s 100 sz29 ?_)
  refine q_nn (q_k [0] [0, 100, 102, 103, 105, 107, 114, 151, 152, 153] ?_)
  refine W.ret ?_
  refine N.merge 102 103 rfl rfl rfl fun ha0 => ?_
  refine N.merge 102 105 rfl rfl rfl fun ha1 => ?_
  refine N.merge 102 107 rfl rfl rfl fun ha2 => ?_
  refine N.merge 102 114 rfl rfl rfl fun ha3 => ?_
  refine N.merge 102 151 rfl rfl rfl fun ha4 => ?_
  refine N.merge 102 152 rfl rfl rfl fun ha5 => ?_
  refine N.merge 102 153 rfl rfl rfl fun ha6 => ?_
  exact q_r [102] (.cons (q_rc 100 u29 sz29) .nil) rfl rfl rfl ⟨(some ⟨b2, 0, none⟩), (some ⟨b3, 0, none⟩), (some ⟨b5, 0, none⟩), (some ⟨b7, 0, none⟩), (some ⟨b14, 0, none⟩), (some ⟨e1, 0, none⟩), (some ⟨e2, 0, none⟩), (some ⟨e3, 0, none⟩), _, rfl, ⟨((((((((Own.one (e := 9) (l := [Value.string ⟨#[97]⟩]) rfl (by simp [Value.oneCell']) rfl).sl).mono hjoin_l).mono hjoin_l).mono hjoin_l).mono hjoin_l).mono hjoin_l).mono hjoin_l).mono hjoin_l, ((((((((Own.one (e := 9) (l := [Value.string ⟨#[102]⟩]) rfl (by simp [Value.oneCell']) rfl).sl).mono ha0).mono hjoin_l).mono hjoin_l).mono hjoin_l).mono hjoin_l).mono hjoin_l).mono hjoin_l, (((((((Own.one (e := 93) (l := [Value.string ⟨#[114]⟩, .int .i64 1, .int .i64 1]) rfl (by simp [Value.oneCell']) rfl).sl).mono ha1).mono hjoin_l).mono hjoin_l).mono hjoin_l).mono hjoin_l).mono hjoin_l, ((((((Own.one (e := 95) (l := [Value.string ⟨#[109]⟩, .int .i64 1, .int .i64 0]) rfl (by simp [Value.oneCell']) rfl).sl).mono ha2).mono hjoin_l).mono hjoin_l).mono hjoin_l).mono hjoin_l, (Own.nil 162 3).sl.mono (fun _ _ h => nomatch h), (((((Own.mk (e := 64) (n := 7) (c := 3) (ls := [exIt 106 2 (some ⟨e1, 0, none⟩), exIt 112 1 (some ⟨e2, 0, none⟩), exIt 103 0 (some ⟨e3, 0, none⟩)].map It.c) [] (by intro l hl; obtain ⟨x, hx, rfl⟩ := List.mem_map.1 hl; simp only [List.mem_cons, List.not_mem_nil, or_false] at hx; rcases hx with rfl | rfl | rfl <;> exact ⟨rfl, by simp [It.c, exIt, Value.oneCell']⟩) (by simp) (by simp [maxLen]) (by rfl) (by rfl)).sl).mono ha3).mono hjoin_l).mono hjoin_l).mono hjoin_l, (Own.nil 97 7).sl.mono (fun _ _ h => nomatch h), fun x hx => by
    simp only [exM, List.mem_cons, List.not_mem_nil, or_false] at hx
    rcases hx with rfl | rfl | rfl
    · exact ((((Own.one (e := 3) (l := [Value.int .i64 1]) rfl (by simp [Value.oneCell']) rfl).sl).mono ha4).mono hjoin_l).mono hjoin_l
    · exact (((Own.one (e := 3) (l := [Value.int .i64 1]) rfl (by simp [Value.oneCell']) rfl).sl).mono ha5).mono hjoin_l
    · exact ((Own.one (e := 3) (l := [Value.int .i64 1]) rfl (by simp [Value.oneCell']) rfl).sl).mono ha6, fun x hx => nomatch hx⟩, rfl⟩
end Go.Proofs.YtboapdcmaeojgaaGreatDoor
namespace Go.Proofs.YtboapdcmaeojgaaGreatDoor
open SL Cat Fen
set_option linter.unusedVariables false
set_option linter.unusedSimpArgs false
theorem ent33 : Ent Tryz.prog 33 := ⟨_, _, Tryz.func33, by kernel_rfl, rfl⟩
theorem ent13 : Ent Tryz.prog 13 := ⟨_, _, Tryz.func13, by kernel_rfl, rfl⟩
theorem ent23 : Ent Tryz.prog 23 := ⟨_, _, Tryz.func23, by kernel_rfl, rfl⟩
theorem lay36 : layS Tryz.prog 36 = some ([.int .i64 0, .int .i64 0, .int .i64 0, .int .i64 0], [(0, 1), (1, 1), (2, 1), (3, 1)]) := by kernel_rfl
theorem ent15 : Ent Tryz.prog 15 := ⟨_, _, Tryz.func15, by kernel_rfl, rfl⟩
abbrev u33 := @Tryz.underlying33
theorem exTI {p1 p2 p3 p4 p5 q1 q2 q3 : Option Addr} (v s g : Int) (dn : List (Int × Int)) (hs : s = 0 ∨ s = 2) : TI (exM p1 p2 p3 p4 p5 q1 q2 q3) 1 (exT v s g dn) := by
  refine ⟨⟨fun u hu => ?_, ?_⟩, fun u hu => ?_⟩
  · simp only [exT, List.mem_cons, List.not_mem_nil, or_false] at hu
    rcases hu with rfl | rfl | rfl
    · exact ⟨rfl, .inr (.inr ⟨rfl, rfl, hs⟩)⟩
    · exact ⟨rfl, .inr (.inl ⟨rfl, rfl, .inl rfl, rfl⟩)⟩
    · exact ⟨rfl, .inl ⟨rfl, Int.le_refl _, rfl, .inl rfl, rfl⟩⟩
  · simp [exT, R]
  · simp only [exT, List.mem_cons, List.not_mem_nil, or_false] at hu
    rcases hu with rfl | rfl | rfl <;> simp only <;> omega
set_option maxRecDepth 100000 in
set_option maxHeartbeats 6400000 in
theorem awake_ct (H1 : PH) (hT : TabS H1) : Ct Tryz.prog 12 [] [H1] (fun v Hs => v = .bool true ∧ Hs = [H1]) := by
  refine Ct.body Tryz.func12 rfl Tryz.ntmps12 rfl ?_
  intro E F
  refine q_sr (q_an ?_)
  refine q_sr ?_
  refine q_e (q_c ent33 [] [150] example_ct) ?_
  rintro _ _ ⟨_, ⟨p1, p2, p3, p4, p5, q1, q2, q3, K0, rfl, hME, rfl⟩, rfl⟩
  refine RL.merge 1 150 rfl rfl rfl fun ha0 => ?_
  have hM2 : (exM p1 p2 p3 p4 p5 q1 q2 q3).In (hjoin H1 K0) := hME.mono ha0
  have hT2 : TabS (hjoin H1 K0) := hT.mono hjoin_l
  have hV := exM_valid p1 p2 p3 p4 p5 q1 q2 q3
  refine q_e (q_c ent13 [1] [1, 171, 172, 173, 174] (new_ct (exM p1 p2 p3 p4 p5 q1 q2 q3) (hjoin H1 K0) hM2 hT2 1 hV (by decide) (by simp [exM]))) ?_
  rintro _ _ ⟨_, ⟨bt, x0, rfl, hx0, rfl⟩, rfl⟩
  replace hx0 : x0.Is (exT 0 0 0 []) := hx0
  refine q_an ?_
  refine W.seq (q_sr (q_q q_mv ?_))
  refine q_q (Yld.bin rfl rfl (BinV.eqlPN u33)) (q_nn (q_k [1, 13] [0, 1, 150, 171, 172, 173, 174] ?_))
  first | (refine W.as (t := 13) rfl (boolF (by first | assumption | omega | (simp; done))) ?_; refine W.condF rfl ?_) | refine W.condF rfl ?_
  refine W.skip (N.next (q_sr (q_q q_mv ?_)))
  refine q_e (q_c ent23 [1, 171, 172, 173, 174] [1, 171, 172, 173, 174, 175] (tick_ct (exM p1 p2 p3 p4 p5 q1 q2 q3) (hjoin H1 K0) hM2 1 bt (exT 0 0 0 []) x0 hx0)) ?_
  rintro _ _ ⟨_, ⟨x1, rfl, hx1, rfl⟩, rfl⟩
  replace hx1 : x1.Is (exT 1 0 0 []) := hx1
  refine q_nn (q_sr (q_q q_mv ?_))
  refine q_e (q_c ent23 [1, 171, 172, 173, 174] [1, 171, 172, 173, 174, 175] (tick_ct (exM p1 p2 p3 p4 p5 q1 q2 q3) (hjoin H1 K0) hM2 1 bt (exT 1 0 0 []) x1 hx1)) ?_
  rintro _ _ ⟨_, ⟨x2, rfl, hx2, rfl⟩, rfl⟩
  replace hx2 : x2.Is (exT 2 0 0 []) := hx2
  refine q_nn (q_k [1] [0, 1, 150, 171, 172, 173, 174, 175] ?_)
  refine q_sr (q_q q_mv ?_)
  refine q_q (Yld.buildP lay36 (.cons rfl rfl (.cons rfl rfl .nil)) rfl) ?_
  refine q_e (q_c ent15 [1, 171, 172, 173, 174] [1, 171, 172, 173, 174] (do_ct (exM p1 p2 p3 p4 p5 q1 q2 q3) (hjoin H1 K0) hM2 1 bt (exT 2 0 0 []) x2 hx2 1 5 ⟨4, 1, 0, 0⟩ hV (exTI 2 0 0 [] (.inl rfl)) (by decide) (by decide))) ?_
  rintro _ _ ⟨_, ⟨x3, rfl, hx3, rfl⟩, rfl⟩
  have hdx3 : doP (kdOf (exM p1 p2 p3 p4 p5 q1 q2 q3) (Cm.it ⟨4, 1, 0, 0⟩)) 1 (exT 2 0 0 []) 1 5 ⟨4, 1, 0, 0⟩ = (exT 2 2 1 [(5, 2)], 0, 2) := ex_d1
  rw [hdx3] at hx3 ⊢
  replace hx3 : x3.Is (exT 2 2 1 [(5, 2)]) := hx3
  refine q_q q_mv (q_q q_x (q_q q_x (q_q q_as (q_an ?_))))
  refine q_k [1, 2, 3] [0, 1, 150, 171, 172, 173, 174, 175] ?_
  refine q_sr (q_q q_mv ?_)
  refine q_e (q_c ent23 [1, 171, 172, 173, 174] [1, 171, 172, 173, 174, 175] (tick_ct (exM p1 p2 p3 p4 p5 q1 q2 q3) (hjoin H1 K0) hM2 1 bt (exT 2 2 1 [(5, 2)]) x3 hx3)) ?_
  rintro _ _ ⟨_, ⟨x4, rfl, hx4, rfl⟩, rfl⟩
  replace hx4 : x4.Is (exT 2 2 1 [(5, 2)]) := hx4
  refine q_nn (q_sr (q_q q_mv ?_))
  refine q_q (Yld.buildP lay36 (.cons rfl rfl (.cons rfl rfl .nil)) rfl) ?_
  refine q_e (q_c ent15 [1, 171, 172, 173, 174] [1, 171, 172, 173, 174] (do_ct (exM p1 p2 p3 p4 p5 q1 q2 q3) (hjoin H1 K0) hM2 1 bt (exT 2 2 1 [(5, 2)]) x4 hx4 1 5 ⟨4, 1, 0, 0⟩ hV (exTI 2 2 1 [(5, 2)] (.inr rfl)) (by decide) (by decide))) ?_
  rintro _ _ ⟨_, ⟨x5, rfl, hx5, rfl⟩, rfl⟩
  have hdx5 : doP (kdOf (exM p1 p2 p3 p4 p5 q1 q2 q3) (Cm.it ⟨4, 1, 0, 0⟩)) 1 (exT 2 2 1 [(5, 2)]) 1 5 ⟨4, 1, 0, 0⟩ = (exT 2 2 1 [(5, 2)], 0, 2) := ex_d2
  rw [hdx5] at hx5 ⊢
  replace hx5 : x5.Is (exT 2 2 1 [(5, 2)]) := hx5
  refine q_q q_mv (q_q q_x (q_q q_x (q_q q_as (q_an ?_))))
  refine q_k [1, 2, 3, 4, 5] [0, 1, 150, 171, 172, 173, 174, 175] ?_
  refine q_sr (q_q q_mv ?_)
  refine q_q (Yld.buildP lay36 (.cons rfl rfl (.cons rfl rfl .nil)) rfl) ?_
  refine q_e (q_c ent15 [1, 171, 172, 173, 174] [1, 171, 172, 173, 174] (do_ct (exM p1 p2 p3 p4 p5 q1 q2 q3) (hjoin H1 K0) hM2 1 bt (exT 2 2 1 [(5, 2)]) x5 hx5 2 1 ⟨2, 1, 0, 0⟩ hV (exTI 2 2 1 [(5, 2)] (.inr rfl)) (by decide) (by decide))) ?_
  rintro _ _ ⟨_, ⟨x6, rfl, hx6, rfl⟩, rfl⟩
  have hdx6 : doP (kdOf (exM p1 p2 p3 p4 p5 q1 q2 q3) (Cm.it ⟨2, 1, 0, 0⟩)) 1 (exT 2 2 1 [(5, 2)]) 2 1 ⟨2, 1, 0, 0⟩ = (exT 2 0 2 [(1, 0)], 0, 0) := ex_d3
  rw [hdx6] at hx6 ⊢
  replace hx6 : x6.Is (exT 2 0 2 [(1, 0)]) := hx6
  refine q_q q_mv (q_q q_x (q_q q_x (q_q q_as (q_an ?_))))
  refine q_k [1, 2, 3, 4, 5, 6] [0, 1, 150, 171, 172, 173, 174, 175] ?_
  refine q_sr (q_q q_mv ?_)
  refine q_q (Yld.buildP lay36 (.cons rfl rfl (.cons rfl rfl .nil)) rfl) ?_
  refine q_e (q_c ent15 [1, 171, 172, 173, 174] [1, 171, 172, 173, 174] (do_ct (exM p1 p2 p3 p4 p5 q1 q2 q3) (hjoin H1 K0) hM2 1 bt (exT 2 0 2 [(1, 0)]) x6 hx6 1 6 ⟨5, 1, 0, 0⟩ hV (exTI 2 0 2 [(1, 0)] (.inl rfl)) (by decide) (by decide))) ?_
  rintro _ _ ⟨_, ⟨x7, rfl, hx7, rfl⟩, rfl⟩
  have hdx7 : doP (kdOf (exM p1 p2 p3 p4 p5 q1 q2 q3) (Cm.it ⟨5, 1, 0, 0⟩)) 1 (exT 2 0 2 [(1, 0)]) 1 6 ⟨5, 1, 0, 0⟩ = (exT 2 0 2 [(1, 0)], 12, 0) := ex_d4
  rw [hdx7] at hx7 ⊢
  replace hx7 : x7.Is (exT 2 0 2 [(1, 0)]) := hx7
  refine q_q q_mv (q_q q_x (q_q q_x (q_q q_as (q_an ?_))))
  refine q_k [2, 3, 4, 5, 6, 8] [0, 1, 150, 171, 172, 173, 174, 175] ?_
  refine q_sr (q_q q_mv (q_q (q_b BinV.eql) (q_q q_mv ?_)))
  refine' q_and 46 49 3 [2, 3, 4, 5, 6, 8, 44, 45] [0, 1, 150, 171, 172, 173, 174, 175] ?_ ?_ ?_
  rotate_left 1
  ·
   intro hg46
   refine q_g q_mv (q_g (q_b BinV.eql) (q_q Yld.pk ?_))
   exact q_m
  ·
   intro hg46
   refine q_gs (q_gs (q_q Yld.pk ?_))
   exact q_m
  refine q_q q_mv ?_
  refine' q_and 50 53 3 [2, 3, 4, 5, 6, 8, 44, 45, 49] [0, 1, 150, 171, 172, 173, 174, 175] ?_ ?_ ?_
  rotate_left 1
  ·
   intro hg50
   refine q_g q_mv (q_g (q_b BinV.eql) (q_q Yld.pk ?_))
   exact q_m
  ·
   intro hg50
   refine q_gs (q_gs (q_q Yld.pk ?_))
   exact q_m
  refine q_q q_mv ?_
  refine' q_and 54 57 3 [2, 3, 4, 5, 6, 8, 44, 45, 49, 53] [0, 1, 150, 171, 172, 173, 174, 175] ?_ ?_ ?_
  rotate_left 1
  ·
   intro hg54
   refine q_g q_mv (q_g (q_b BinV.eql) (q_q Yld.pk ?_))
   exact q_m
  ·
   intro hg54
   refine q_gs (q_gs (q_q Yld.pk ?_))
   exact q_m
  refine q_q q_mv ?_
  refine' q_and 58 61 3 [2, 3, 4, 5, 6, 8, 44, 45, 49, 53, 57] [0, 1, 150, 171, 172, 173, 174, 175] ?_ ?_ ?_
  rotate_left 1
  ·
   intro hg58
   refine q_g q_mv (q_g (q_b BinV.eql) (q_q Yld.pk ?_))
   exact q_m
  ·
   intro hg58
   refine q_gs (q_gs (q_q Yld.pk ?_))
   exact q_m
  refine q_q q_mv ?_
  refine' q_and 62 65 3 [2, 3, 4, 5, 6, 8, 44, 45, 49, 53, 57, 61] [0, 1, 150, 171, 172, 173, 174, 175] ?_ ?_ ?_
  rotate_left 1
  ·
   intro hg62
   refine q_g q_mv (q_g (q_b BinV.eql) (q_q Yld.pk ?_))
   exact q_m
  ·
   intro hg62
   refine q_gs (q_gs (q_q Yld.pk ?_))
   exact q_m
  refine q_an ?_
  refine q_k [0] [0, 1, 150, 171, 172, 173, 174, 175] ?_
  refine W.ret ?_
  refine N.shrink 1 rfl hjoin_l ?_
  exact q_r [1] (.cons (.tmp rfl) .nil) rfl rfl rfl ⟨rfl, rfl⟩
end Go.Proofs.YtboapdcmaeojgaaGreatDoor
namespace Go.Proofs.YtboapdcmaeojgaaGreatDoor
open SL Cat Fen
set_option linter.unusedVariables false
set_option linter.unusedSimpArgs false
theorem fo59_5 : fieldOff Tryz.prog 59 5 = some 5 := by kernel_rfl
theorem fo59_1 : fieldOff Tryz.prog 59 1 = some 1 := by kernel_rfl
theorem sz59 : sz Tryz.prog 59 6 := (by kernel_rfl : (Tryz.prog.info? 59).map (·.size) = some 6)
theorem ent46 : Ent Tryz.prog 46 := ⟨_, _, Tryz.func46, by kernel_rfl, rfl⟩
theorem zc59 : zc Tryz.prog 59 [.int .i64 0, .slice none 0 0, .int .i64 0, .slice none 0 0, .slice none 0 0, .slice none 0 0] := (by kernel_rfl : ((Tryz.prog.info? 59).bind (·.zero)).map (fun v => v.cells.toList) = some [.int .i64 0, .slice none 0 0, .int .i64 0, .slice none 0 0, .slice none 0 0, .slice none 0 0])
theorem lay59 : layS Tryz.prog 59 = some ([.int .i64 0, .slice none 0 0, .int .i64 0, .slice none 0 0, .slice none 0 0, .slice none 0 0], [(0, 1), (1, 1), (2, 1), (3, 1), (4, 1), (5, 1)]) := by kernel_rfl
theorem ent47 : Ent Tryz.prog 47 := ⟨_, _, Tryz.func47, by kernel_rfl, rfl⟩
abbrev u59 := @Tryz.underlying59
structure Fen.Rt where
  pu : Option Addr
  cu : Nat
  us : List U
  HU : PH
  gen : Int
  ps : Option Addr
  cs : Nat
  st : List Int
  HS : PH
  pv : Option Addr
  cv : Nat
  va : List Int
  HV : PH
  pc : Option Addr
  cc : Nat
  cl : List Cl
  HC : PH
structure Fen.Rt.In (x : Rt) : Prop where
  u : Sl x.HU x.pu x.cu 5 (x.us.map U.c)
  s : Sl x.HS x.ps x.cs 1 (iz x.st)
  v : Sl x.HV x.pv x.cv 1 (iz x.va)
  c : Sl x.HC x.pc x.cc 4 (x.cl.map Cl.c)
def Fen.Rt.setU (x : Rt) (p : Option Addr) (c : Nat) (us : List U) (H : PH) : Rt := { x with pu := p, cu := c, us := us, HU := H }
theorem Fen.Rt.In.setU {x : Rt} (h : x.In) {p : Option Addr} {c : Nat} {us : List U} {H : PH} (hS : Sl H p c 5 (us.map U.c)) : (x.setU p c us H).In := ⟨hS, h.s, h.v, h.c⟩
structure Fen.Rt.Is (x : Rt) (t : T) : Prop where
  us : x.us = t.us
  gn : x.gen = t.gen
  st : x.st = t.dn.map (·.1)
  va : x.va = t.dn.map (·.2)
  cl : x.cl = t.cs
def Fen.fvU (us : List U) (it : Int) : U × Bool := match fndU us it with
  | some u => (u, true)
  | none => (⟨0, 0, 0, 0, 0⟩, false)
theorem fvU_some {us : List U} {it : Int} {u : U} (h : fndU us it = some u) : fvU us it = (u, true) := by unfold fvU; rw [h]
theorem fvU_none {us : List U} {it : Int} (h : fndU us it = none) : fvU us it = (⟨0, 0, 0, 0, 0⟩, false) := by unfold fvU; rw [h]
theorem fndU_at {us : List U} {it : Int} {j : Nat} {u : U} (hu : us[j]? = some u) (ho : opn it u = true) (hI : ∀ (i : Nat) a, i < j → us[i]? = some a → opn it a = false) : fndU us it = some u := fndU_some (fnd_of hu ho hI) hu
theorem fndU_no {us : List U} {it : Int} (hI : ∀ (i : Nat) a, i < us.length → us[i]? = some a → opn it a = false) : fndU us it = none := fndU_none.2 (fnd_no fun a ha => by
  obtain ⟨i, hi⟩ := List.getElem?_of_mem ha
  exact hI i a (List.getElem?_eq_some_iff.1 hi).1 hi)
theorem put_at {l : List U} {u : U} {j : Nat} (hj : j ≤ l.length) (h1 : ∀ (i : Nat) a, i < j → l[i]? = some a → lt u a = true) (h2 : ∀ a, l[j]? = some a → lt u a = false) :
    ((∃ a, l[j]? = some a ∧ a.it = u.it ∧ a.rp = u.rp) → putR l u = l.take j ++ [u] ++ l.drop (j + 1)) ∧ ((∀ a, l[j]? = some a → ¬ (a.it = u.it ∧ a.rp = u.rp)) → putR l u = l.take j ++ [u] ++ l.drop j) := by
  obtain ⟨e1, e2⟩ := takeWhile_at hj h1 h2
  unfold putR
  rw [e1, e2]
  constructor
  · rintro ⟨a, ha, h3⟩
    have hlt := (List.getElem?_eq_some_iff.1 ha).1
    have e3 : l.drop j = a :: l.drop (j + 1) := by rw [List.drop_eq_getElem_cons hlt, (List.getElem?_eq_some_iff.1 ha).2]
    rw [e3]
    simp only [h3, and_self, if_true]
    simp
  · intro h3
    by_cases hlt : j < l.length
    · have e3 : l.drop j = l[j] :: l.drop (j + 1) := List.drop_eq_getElem_cons hlt
      rw [e3]
      simp only
      rw [if_neg (h3 _ (List.getElem?_eq_getElem hlt))]
      simp
    · rw [List.drop_eq_nil_of_le (by omega)]
      simp
theorem putR_len (l : List U) (u : U) : (putR l u).length ≤ l.length + 1 := by
  unfold putR
  have h1 := congrArg List.length (List.takeWhile_append_dropWhile (p := lt u) (l := l))
  rw [List.length_append] at h1
  rw [List.length_append, List.length_cons]
  split
  · rename_i x r hx
    rw [hx, List.length_cons] at h1
    split
    · omega
    · rw [List.length_cons]; omega
  · simp only [List.length_nil]; omega
structure Fen.RI where
  j : Nat
  y : Option U
  m : Int
structure Fen.WI where
  j : Nat
  H : PH
  p : Option Addr
  c : Nat
set_option maxRecDepth 100000 in
set_option maxHeartbeats 400000 in
theorem rkind_ct (m : Md) (H1 : PH) (hM : m.In H1) (z : Int) : Ct Tryz.prog 47 [.agg [.slice m.psi m.si.length m.csi, .slice m.pfe m.fe.length m.cfe, .slice m.prk m.rk.length m.crk, .slice m.pmc m.mc.length m.cmc, .slice m.pln m.ln.length m.cln, .slice m.pis m.is.length m.cis, .int .i64 m.da, .int .i64 m.sl, .int .i64 m.re, .int .i64 m.fa, .slice m.prl m.rl.length m.crl].toArray, .int .i64 z] [H1] (fun v Hs => v = .int .i64 (kdOf m z) ∧ Hs = [H1]) := by
  refine Ct.body Tryz.func47 rfl Tryz.ntmps47 rfl ?_
  intro E F
  have hMis := hM.is
  have hmi := hM.is.len_le
  simp only [List.length_map, maxLen] at hmi
  refine q_sr ?_
  refine q_bx 102 fun b2 => ?_
  refine q_an ?_
  refine W.seq (q_sr (q_q q_mv (q_q (q_b BinV.lss) (q_q q_mv ?_))))
  refine' q_or 7 13 6 [0, 1, 2, 4, 5, 6] [0, 1, 102] ?_ ?_ ?_
  rotate_left 1
  ·
   intro hg7
   refine q_g q_mv (q_g (q_fa fo29_5) (q_g (q_l 102 u26) (q_g (q_n u26) (q_g (q_b BinV.gtr) (q_q Yld.pk ?_)))))
   exact q_m
  ·
   intro hg7
   repeat refine q_gs ?_
   refine q_q Yld.pk ?_
   exact q_m
  refine q_nn (q_k [1, 2, 13] [0, 1, 102] ?_)
  refine W.cond rfl (fun hc13 => ?_) (fun hc13 => ?_)
  ·
   simp only [Bool.or_eq_true, decide_eq_true_eq] at hc13
   have hk1 : kdOf m z = -1 := by unfold kdOf; exact if_pos hc13
   refine q_sr (q_an ?_)
   refine W.ret (N.then_ret ?_)
   exact q_r [1] (.cons (.tmp rfl) .nil) rfl rfl rfl ⟨by rw [hk1]; rfl, rfl⟩
  ·
   simp only [Bool.or_eq_false_iff, decide_eq_false_iff_not] at hc13
   obtain ⟨y, hy, hky⟩ := kdOf_in (m := m) (n := z) ⟨by omega, by omega⟩
   have hly : (m.is.map It.c)[(z - 1).toNat]? = some y.c := by rw [List.getElem?_map, hy]; rfl
   refine W.skip (N.next (q_sr (q_q (q_fa fo29_5) (q_q (q_l 102 u26) (q_q q_mv ?_)))))
   refine q_q q_sb ?_
   refine q_q (q_ix u26 sz64) (q_q (q_fa fo64_1) ?_)
   refine q_q (by first | exact q_rF 102 1 u3 | exact q_rF 1 1 u3) ?_
   refine q_an ?_
   refine q_k [4] [0, 1, 102] ?_
   refine W.ret ?_
   exact q_r [1] (.cons (.tmp rfl) .nil) rfl rfl rfl ⟨by rw [hky]; rfl, rfl⟩
set_option maxRecDepth 100000 in
set_option maxHeartbeats 400000 in
theorem ropen_ct (x : Rt) (mach : Int) (hx : x.In) (it : Int) : Ct Tryz.prog 46 [.agg [.int .i64 mach, .slice x.pu x.us.length x.cu, .int .i64 x.gen, .slice x.ps x.st.length x.cs, .slice x.pv x.va.length x.cv, .slice x.pc x.cl.length x.cc].toArray, .int .i64 it] [x.HC] (fun v Hs => v = .int .i64 (opens x.cl it : Nat) ∧ Hs = [x.HC]) := by
  refine Ct.body Tryz.func46 rfl Tryz.ntmps46 rfl ?_
  intro E F
  obtain ⟨hSu, hSs, hSv, hSc⟩ := id hx
  have hmu := hSu.len_le
  have hms := hSs.len_le
  have hmv := hSv.len_le
  have hmc := hSc.len_le
  simp only [List.length_map, iz_len, maxLen] at hmu hms hmv hmc
  refine q_sr ?_
  refine q_bx 102 fun b2 => ?_
  refine q_an ?_
  refine q_sr (q_an ?_)
  refine W.seq (q_sr (q_an ?_))
  refine W.block ?_
  refine W.loopK (ι := Nat) (fun j => (j ≤ x.cl.length)) (fun j => [(5, .int .i64 (opens (x.cl.take j) it : Nat)), (6, .int .i64 (j : Nat))]) (fun j => []) (fun j => x.cl.length - j) (.of [1, 2] rfl) (.of [0, 1, 102] rfl) 0 ?_ ?_ ?_ ?_
  · exact Nat.zero_le _
  · exact (q_a (q_a .nil))
  · exact .nil
  rintro j hj
  refine q_k [5, 6, 1, 2] [0, 1, 102] ?_
  refine W.seq (q_sr (q_q q_mv (q_q (q_fa fo59_5) (q_q (q_l 102 u57) (q_q (q_n u57) (q_q (q_b BinV.lss) (q_nn (q_k [1, 2, 5, 6, 11] [0, 1, 102] ?_))))))))
  first | refine W.condD rfl (fun hc11 => ?_) (fun hc11 => ?_) | (refine W.cond rfl (fun hc11 => ?_) (fun hc11 => ?_) <;> try simp only [Bool.or_eq_true, Bool.and_eq_true, Bool.not_eq_true', Bool.not_eq_false', decide_eq_true_eq, Bool.or_eq_false_iff, Bool.and_eq_false_iff, decide_eq_false_iff_not, beq_iff_eq, beq_eq_false_iff_ne, ne_eq, Decidable.not_not] at hc11)
  ·
   obtain ⟨c, hc⟩ : ∃ c, x.cl[j]? = some c := ⟨_, List.getElem?_eq_getElem (show j < x.cl.length by first | omega | (simp only [List.length_map] at *; omega))⟩
   have hlc : (x.cl.map Cl.c)[j]? = some c.c := by simp [hc]
   have hol := opens_le (x.cl.take j) it
   rw [List.length_take] at hol
   refine W.skip (N.next (W.seq (W.block (q_sr (q_q (q_fa fo59_5) (q_q (q_l 102 u57) (q_q q_mv ?_)))))))
   refine q_q (q_ix u57 sz38) (q_q (q_fa fo38_0) ?_)
   refine q_q (by first | exact (by first | exact q_r1 1 u3 | exact q_r1 102 u3) | exact (by first | exact q_rF 1 0 u3 | exact q_rF 102 0 u3)) ?_
   refine q_q q_mv (q_q (q_b BinV.eql) (q_nn (q_k [1, 2, 5, 6, 21] [0, 1, 102] ?_)))
   first | refine W.condD rfl (fun hc21 => ?_) (fun hc21 => ?_) | (refine W.cond rfl (fun hc21 => ?_) (fun hc21 => ?_) <;> try simp only [Bool.or_eq_true, Bool.and_eq_true, Bool.not_eq_true', Bool.not_eq_false', decide_eq_true_eq, Bool.or_eq_false_iff, Bool.and_eq_false_iff, decide_eq_false_iff_not, beq_iff_eq, beq_eq_false_iff_ne, ne_eq, Decidable.not_not] at hc21)
   ·
    refine W.region (q_q q_mv ?_)
    refine q_q q_ad (q_q q_as (RL.nil (N.block_normal (N.next (W.region (q_q q_mv ?_))))))
    refine q_q q_ad (q_q q_as (RL.nil ?_))
    exact N.famK (j + 1) ⟨by omega, by omega⟩ (.as rfl (by rw [opens_take it hc, if_pos hc21]; simp) (q_a .nil)) (.to rfl) .nil (.to rfl)
   ·
    refine W.skip (N.block_normal (N.next (W.region (q_q q_mv ?_))))
    refine q_q q_ad (q_q q_as (RL.nil ?_))
    exact N.famK (j + 1) ⟨by omega, by omega⟩ (.as rfl (by rw [opens_take it hc, if_neg hc21]; simp) (q_a .nil)) (.to rfl) .nil (.to rfl)
  ·
   have hend : j = x.cl.length := by omega
   rw [hend, List.take_length]
   refine W.exit (N.then_exit (N.then_exit (N.block_eq (N.next (q_k [5] [0, 1, 102] ?_)))))
   refine q_sr (q_q q_mv (q_an ?_))
   refine W.ret ?_
   exact q_r [1] (.cons (.tmp rfl) .nil) rfl rfl rfl ⟨rfl, rfl⟩
set_option maxRecDepth 100000 in
set_option maxHeartbeats 3200000 in
theorem rlist_ct (x : Rt) (mach : Int) (hx : x.In) (hb : x.us.length ≤ 900000) : Ct Tryz.prog 21 [.agg [.int .i64 mach, .slice x.pu x.us.length x.cu, .int .i64 x.gen, .slice x.ps x.st.length x.cs, .slice x.pv x.va.length x.cv, .slice x.pc x.cl.length x.cc].toArray] [x.HU, x.HC] (fun v Hs => ∃ H' p' c', v = .slice p' x.us.length c' ∧ Own H' p' c' 48 5 ((listP x.us x.cl).map U.c) ∧ Hs = [x.HU, x.HC, H']) := by
  refine Ct.body Tryz.func21 rfl Tryz.ntmps21 rfl ?_
  intro E F
  obtain ⟨hSu, hSs, hSv, hSc⟩ := id hx
  have hmu := hSu.len_le
  have hms := hSs.len_le
  have hmv := hSv.len_le
  have hmc := hSc.len_le
  simp only [List.length_map, iz_len, maxLen] at hmu hms hmv hmc
  refine q_sr ?_
  refine q_bx 101 fun b1 => ?_
  refine q_an ?_
  refine q_sr ?_
  refine q_e (Eff.buildSlice 105 u41 sz48 zc48 rfl rfl .nil rfl) ?_
  rintro _ _ ⟨b5, rfl, rfl⟩
  refine q_q (q_fa fo59_1) (q_q (q_l 101 u41) ?_)
  refine q_e (Eff.appendE (tc := 105) (sc := 1) (ms := x.us) (ls := ([] : List U)) U.c u41 el48 rfl rfl rfl rfl (Own.none0 rfl : Own _ _ 0 48 5 (([] : List U).map U.c)) rfl hSu rfl (fun a _ => U.one a) (by decide) (by simp; omega) (by simp [maxLen]; omega)) ?_
  rintro _ _ ⟨G1, p1, c1, rfl, hO1, rfl⟩
  simp only [List.nil_append] at hO1 ⊢
  refine q_an ?_
  refine q_k [1, 3] [0, 1, 2, 101, 105] ?_
  refine W.seq (q_sr (q_an ?_))
  refine W.block ?_
  refine W.loopK (ι := UI) (fun z => (z.j ≤ x.us.length ∧ Own z.H p1 c1 48 5 ((blend (callsOf x.cl) x.us z.j).map U.c))) (fun z => [(4, .int .i64 (z.j : Nat))]) (fun z => [(105, z.H)]) (fun z => x.us.length - z.j) (.of [1, 3] rfl) (.of [0, 1, 2, 101] rfl) ⟨0, G1⟩ ?_ ?_ ?_ ?_
  · exact ⟨Nat.zero_le _, by rw [blend_zero]; exact hO1⟩
  · exact (q_a .nil)
  · exact (.to rfl)
  rintro z ⟨hj, hO⟩
  refine q_k [4, 1, 3] [105, 0, 1, 2, 101] ?_
  refine W.seq (q_sr (q_q q_mv (q_q q_mv (q_q (q_n u41) (q_q (q_b BinV.lss) (q_nn ?_))))))
  first | refine W.condD rfl (fun hc12 => ?_) (fun hc12 => ?_) | (refine W.cond rfl (fun hc12 => ?_) (fun hc12 => ?_) <;> try simp only [Bool.or_eq_true, Bool.and_eq_true, Bool.not_eq_true', Bool.not_eq_false', decide_eq_true_eq, Bool.or_eq_false_iff, Bool.and_eq_false_iff, decide_eq_false_iff_not, beq_iff_eq, beq_eq_false_iff_ne, ne_eq, Decidable.not_not] at hc12)
  ·
   obtain ⟨u, hu⟩ : ∃ u, x.us[z.j]? = some u := ⟨_, List.getElem?_eq_getElem (by omega)⟩
   have hlu := uz_get (blend_get (f := callsOf x.cl) hu)
   have hbl := blend_len (callsOf x.cl) x.us z.j
   refine W.skip (N.next (q_k [1, 3, 4] [0, 1, 2, 101, 105] ?_))
   refine W.seq (W.block ?_)
   refine W.draw (.q 0 (.q 1 (.q 2 (.q 3 (.q 4 (.q 5 (.q 6 (.one 7 (.one 8 (.q 9 (.q 10 (.one 11 .done)))))))))))) (.of [0, 1, 101] rfl) mix (by kernel_rfl) (by kernel_rfl) (q_d rfl q_mv (q_d rfl q_mv (q_d rfl (q_lw 101 u59 sz59) (q_d rfl q_mv (q_d rfl q_mv ?_)))))
   refine q_d rfl (q_ix u41 sz48) (q_d rfl (q_fa fo48_0) ?_)
   refine q_o rfl (Yld.eff (by first | exact (by first | exact q_r1 1 u3 | exact q_r1 2 u3 | exact q_r1 101 u3 | exact q_r1 105 u3) | exact (by first | exact q_rF 1 0 u3 | exact q_rF 2 0 u3 | exact q_rF 101 0 u3 | exact q_rF 105 0 u3))) ?_
   rintro _ _ ⟨rfl, rfl⟩
   refine q_o rfl (q_c ent46 [2] [2] (ropen_ct x mach hx u.it)) ?_
   rintro _ _ ⟨_, ⟨rfl, rfl⟩, rfl⟩
   refine q_d rfl (q_ix u41 sz48) (q_d rfl (q_fa fo48_4) ?_)
   refine q_o0 rfl (Eff.storeRow (tc := 105) (j := 4) sz3 rfl rfl rfl hO hlu rfl rfl rfl rfl rfl) ?_
   rintro _ _ ⟨Hb, hOb, rfl⟩
   replace hOb : Own Hb p1 c1 48 5 ((blend (callsOf x.cl) x.us (z.j + 1)).map U.c) := by rw [← blend_set hu, List.map_set]; exact hOb
   refine DL.done (N.block_normal (N.next (q_k [1, 3, 4] [0, 1, 2, 101, 105] ?_)))
   refine W.region (q_q q_mv ?_)
   refine q_q q_ad (q_q q_as (RL.nil ?_))
   exact N.famK ⟨z.j + 1, Hb⟩ ⟨⟨by dsimp only; omega, hOb⟩, by dsimp only; omega⟩ (q_a .nil) (.to rfl) (.to rfl) (.to rfl)
  ·
   have hend : z.j = x.us.length := by omega
   rw [hend, blend_end] at hO
   refine W.exit (N.then_exit (N.then_exit (N.block_eq (N.next (q_k [3] [0, 1, 2, 101, 105] ?_)))))
   refine q_sr (q_q q_mv (q_an ?_))
   refine W.ret ?_
   exact q_r [1, 2, 105] (.cons (.tmp rfl) .nil) rfl rfl rfl ⟨z.H, p1, c1, rfl, hO, rfl⟩
def Fen.newK (is : List It) (mach : Int) (j : Nat) (x : It) (k : Nat) : List U := newN is mach j ++ ((x.on.take k).filter fun z => decide (z = mach)).map fun _ => newU mach j x
theorem newK_zero (is : List It) (mach : Int) (j : Nat) (x : It) : newK is mach j x 0 = newN is mach j := by unfold newK; simp
theorem newK_in {is : List It} {mach : Int} {j : Nat} {x : It} {k : Nat} (h : x.on[k]? = some mach) : newK is mach j x (k + 1) = newK is mach j x k ++ [newU mach j x] := by
  unfold newK; rw [tsnoc h, List.filter_append]; simp
theorem newK_out {is : List It} {mach : Int} {j : Nat} {x : It} {k : Nat} {z : Int} (h : x.on[k]? = some z) (hz : z ≠ mach) : newK is mach j x (k + 1) = newK is mach j x k := by
  unfold newK; rw [tsnoc h, List.filter_append]; simp [hz]
theorem Cat.MsV.lt {n : Nat} {l : List Int} (h : MsV n l) {i : Nat} {a : Int} (ha : l[i]? = some a) : ∀ (k : Nat) (b : Int), l[i + 1 + k]? = some b → a < b
  | 0, b, hb => by
    have := (h.2 (i + 1) b (List.getElem?_eq_some_iff.1 hb).1 hb).2 (by omega) a ha
    exact this
  | k + 1, b, hb => by
    have hlt := (List.getElem?_eq_some_iff.1 hb).1
    obtain ⟨c, hc⟩ : ∃ c, l[i + 1 + k]? = some c := ⟨_, List.getElem?_eq_getElem (by omega)⟩
    have h1 := MsV.lt h ha k c hc
    have h2 := (h.2 (i + 1 + (k + 1)) b hlt hb).2 (by omega) c hc
    omega
theorem Cat.MsV.nodup {n : Nat} {l : List Int} (h : MsV n l) : l.Nodup := by
  rw [List.nodup_iff_pairwise_ne, List.pairwise_iff_getElem]
  intro i j hi hj hij e
  have := h.lt (List.getElem?_eq_getElem hi) (j - i - 1) l[j] (by rw [show i + 1 + (j - i - 1) = j by omega]; exact List.getElem?_eq_getElem hj)
  omega
theorem filt_one {l : List Int} (hn : l.Nodup) (a : Int) : (l.filter fun z => decide (z = a)) = if a ∈ l then [a] else [] := by
  induction l with
  | nil => rfl
  | cons x l ih =>
    rw [List.nodup_cons] at hn
    rw [List.filter_cons, ih hn.2]
    by_cases e : x = a
    · subst e; simp [hn.1]
    · have e2 : ¬ a = x := fun h => e h.symm
      simp [e, e2]
theorem newK_end {m : Md} (hv : MdV m) {mach : Int} {j : Nat} {x : It} (h : m.is[j]? = some x) : newK m.is mach j x x.on.length = newN m.is mach (j + 1) := by
  unfold newK
  rw [List.take_length, filt_one (hv.it x (List.mem_of_getElem? h)).2.1.nodup]
  by_cases hm : mach ∈ x.on
  · rw [if_pos hm, newN_in h hm]; rfl
  · rw [if_neg hm, newN_out h hm]; simp
theorem newK_le {m : Md} (hv : MdV m) {mach : Int} {j : Nat} {x : It} (h : m.is[j]? = some x) (k : Nat) : (newK m.is mach j x k).length ≤ j + 1 := by
  unfold newK
  have h1 := newN_le (is := m.is) (mach := mach) j
  have h2 := ((List.take_sublist k x.on).filter fun z => decide (z = mach)).length_le
  rw [filt_one (hv.it x (List.mem_of_getElem? h)).2.1.nodup] at h2
  have h3 : (if mach ∈ x.on then [mach] else []).length ≤ 1 := by split <;> simp
  rw [List.length_append, List.length_map]; omega
set_option maxRecDepth 100000 in
set_option maxHeartbeats 3200000 in
theorem rnew_ct (m : Md) (H1 : PH) (hM : m.In H1) (mach : Int) (hv : MdV m) : Ct Tryz.prog 22 [.agg [.slice m.psi m.si.length m.csi, .slice m.pfe m.fe.length m.cfe, .slice m.prk m.rk.length m.crk, .slice m.pmc m.mc.length m.cmc, .slice m.pln m.ln.length m.cln, .slice m.pis m.is.length m.cis, .int .i64 m.da, .int .i64 m.sl, .int .i64 m.re, .int .i64 m.fa, .slice m.prl m.rl.length m.crl].toArray, .int .i64 mach] [H1] (fun v Hs => ∃ y : Rt, v = .agg [.int .i64 mach, .slice y.pu y.us.length y.cu, .int .i64 y.gen, .slice y.ps y.st.length y.cs, .slice y.pv y.va.length y.cv, .slice y.pc y.cl.length y.cc].toArray ∧ y.In ∧ y.Is (newT m mach) ∧ Hs = [H1, y.HU, y.HS, y.HV, y.HC]) := by
  refine Ct.body Tryz.func22 rfl Tryz.ntmps22 rfl ?_
  intro E F
  have hMis := hM.is
  have hmi := hMis.len_le
  simp only [List.length_map, maxLen] at hmi
  have hn5 := hv.n5
  refine W.seq ?_
  refine W.imp (Imp.empty _ 160) ?_
  refine W.imp (Imp.empty _ 161) ?_
  refine W.imp (Imp.empty _ 162) ?_
  refine W.imp (Imp.empty _ 163) (W.region ?_)
  refine q_bx 102 fun b2 => ?_
  refine q_al 104 zc59 fun b4 => ?_
  refine q_nn (q_sr (q_q q_mv ?_))
  refine q_q (Yld.buildP lay59 (.cons rfl rfl .nil) rfl) ?_
  refine q_al 105 zc59 fun b5 => ?_
  refine q_s 105 sz59 ?_
  refine q_nn (W.seq (q_sr (q_an ?_)))
  refine W.block ?_
  refine W.loopK (ι := WI) (fun z => (z.j ≤ m.is.length ∧ Own z.H z.p z.c 48 5 ((newN m.is mach z.j).map U.c))) (fun z => [(6, .int .i64 ((z.j : Int) + 1))]) (fun z => [(105, single b5 (.cells [.int .i64 mach, .slice z.p (newN m.is mach z.j).length z.c, .int .i64 0, .slice none 0 0, .slice none 0 0, .slice none 0 0].toArray 59 (0, 0))), (160, z.H)]) (fun z => m.is.length - z.j) (.of [1, 2, 4, 5] rfl) (.of [0, 1, 102, 104, 161, 162, 163] rfl) ⟨0, emp, none, 0⟩ ?_ ?_ ?_ ?_
  · exact ⟨Nat.zero_le _, Own.nil _ _⟩
  · exact (q_a .nil)
  · exact (.to rfl)
  rintro z ⟨hj, hO⟩
  refine q_k [6, 1, 2, 4, 5] [105, 160, 0, 1, 102, 104, 161, 162, 163] ?_
  refine W.seq (q_sr (q_q q_mv (q_q (q_fa fo29_5) (q_q (q_l 102 u26) (q_q (q_n u26) (q_q (q_b BinV.leq) (q_nn (q_k [1, 2, 4, 5, 6, 16] [0, 1, 102, 104, 105, 160, 161, 162, 163] ?_))))))))
  first | refine W.condD rfl (fun hc16 => ?_) (fun hc16 => ?_) | (refine W.cond rfl (fun hc16 => ?_) (fun hc16 => ?_) <;> try simp only [Bool.or_eq_true, Bool.and_eq_true, Bool.not_eq_true', Bool.not_eq_false', decide_eq_true_eq, Bool.or_eq_false_iff, Bool.and_eq_false_iff, decide_eq_false_iff_not, beq_iff_eq, beq_eq_false_iff_ne, ne_eq, Decidable.not_not] at hc16)
  ·
   obtain ⟨x, hx⟩ : ∃ x, m.is[z.j]? = some x := ⟨_, List.getElem?_eq_getElem (by omega)⟩
   have hlx : (m.is.map It.c)[((z.j : Int) + 1 - 1).toNat]? = some x.c := by rw [show ((z.j : Int) + 1 - 1).toNat = z.j by omega, List.getElem?_map, hx]; rfl
   have hkx : kdOf m ((z.j : Int) + 1) = x.kd := by
     unfold kdOf
     rw [if_neg (by omega), show ((z.j : Int) + 1 - 1).toNat = z.j by omega, hx]
   have hon := hM.on x (List.mem_of_getElem? hx)
   have hml := hon.len_le
   simp only [iz_len, maxLen] at hml
   refine W.skip (N.next (W.seq (W.block (q_sr (q_q (q_fa fo29_5) (q_q (q_l 102 u26) (q_q q_mv ?_)))))))
   refine q_q q_sb ?_
   refine q_q (q_ix u26 sz64) (q_q (q_fa fo64_6) ?_)
   refine q_q (by first | exact q_rF 1 6 u55 | exact q_rF 102 6 u55 | exact q_rF 104 6 u55 | exact q_rF 161 6 u55 | exact q_rF 162 6 u55 | exact q_rF 163 6 u55 | exact q_rF 105 6 u55 | exact q_rF 160 6 u55) ?_
   refine q_an ?_
   refine q_k [1, 2, 4, 5, 6, 7] [0, 1, 102, 104, 105, 160, 161, 162, 163] ?_
   refine q_sr (q_an ?_)
   refine W.block ?_
   refine W.loopK (ι := WI) (fun w => (w.j ≤ x.on.length ∧ Own w.H w.p w.c 48 5 ((newK m.is mach z.j x w.j).map U.c))) (fun w => [(8, .int .i64 (w.j : Nat))]) (fun w => [(105, single b5 (.cells [.int .i64 mach, .slice w.p (newK m.is mach z.j x w.j).length w.c, .int .i64 0, .slice none 0 0, .slice none 0 0, .slice none 0 0].toArray 59 (0, 0))), (160, w.H)]) (fun w => x.on.length - w.j) (.of [1, 2, 4, 5, 6, 7] rfl) (.of [0, 1, 102, 104, 161, 162, 163] rfl) ⟨0, z.H, z.p, z.c⟩ ?_ ?_ ?_ ?_
   · exact ⟨Nat.zero_le _, by rw [newK_zero]; exact hO⟩
   · exact (q_a .nil)
   · exact (.as rfl (by rw [newK_zero]) (.to rfl))
   rintro w ⟨hwj, hOw⟩
   refine q_k [8, 1, 2, 4, 5, 6, 7] [105, 160, 0, 1, 102, 104, 161, 162, 163] ?_
   refine W.seq (q_sr (q_q q_mv (q_q q_mv (q_q (q_n u55) (q_q (q_b BinV.lss) (q_nn ?_))))))
   first | refine W.condD rfl (fun hc29 => ?_) (fun hc29 => ?_) | (refine W.cond rfl (fun hc29 => ?_) (fun hc29 => ?_) <;> try simp only [Bool.or_eq_true, Bool.and_eq_true, Bool.not_eq_true', Bool.not_eq_false', decide_eq_true_eq, Bool.or_eq_false_iff, Bool.and_eq_false_iff, decide_eq_false_iff_not, beq_iff_eq, beq_eq_false_iff_ne, ne_eq, Decidable.not_not] at hc29)
   ·
    obtain ⟨a, ha⟩ : ∃ a, x.on[w.j]? = some a := ⟨_, List.getElem?_eq_getElem (by omega)⟩
    have hla := iz_get ha
    have hnk := newK_le (mach := mach) hv hx w.j
    refine W.skip (N.next (q_k [1, 2, 4, 5, 6, 7, 8] [0, 1, 102, 104, 105, 160, 161, 162, 163] ?_))
    refine W.seq (W.block (W.seq (q_sr (q_q q_mv (q_q q_mv ?_)))))
    refine q_q (q_ix u55 sz3) ?_
    refine q_q (by first | exact (by first | exact q_r1 1 u3 | exact q_r1 102 u3 | exact q_r1 104 u3 | exact q_r1 161 u3 | exact q_r1 162 u3 | exact q_r1 163 u3 | exact q_r1 105 u3 | exact q_r1 160 u3) | exact (by first | exact q_rF 1 0 u3 | exact q_rF 102 0 u3 | exact q_rF 104 0 u3 | exact q_rF 161 0 u3 | exact q_rF 162 0 u3 | exact q_rF 163 0 u3 | exact q_rF 105 0 u3 | exact q_rF 160 0 u3)) ?_
    refine q_q q_mv (q_q (q_b BinV.neq) (q_nn (q_k [1, 2, 4, 5, 6, 7, 8, 37] [0, 1, 102, 104, 105, 160, 161, 162, 163] ?_)))
    first | refine W.condD rfl (fun hc37 => ?_) (fun hc37 => ?_) | (refine W.cond rfl (fun hc37 => ?_) (fun hc37 => ?_) <;> try simp only [Bool.or_eq_true, Bool.and_eq_true, Bool.not_eq_true', Bool.not_eq_false', decide_eq_true_eq, Bool.or_eq_false_iff, Bool.and_eq_false_iff, decide_eq_false_iff_not, beq_iff_eq, beq_eq_false_iff_ne, ne_eq, Decidable.not_not] at hc37)
    ·
     refine W.exit (N.then_exit (N.block_eq (N.next (W.region (q_q q_mv ?_)))))
     refine q_q q_ad (q_q q_as (RL.nil ?_))
     exact N.famK ⟨w.j + 1, w.H, w.p, w.c⟩ ⟨⟨by dsimp only; omega, by dsimp only; rw [newK_out ha hc37]; exact hOw⟩, by dsimp only; omega⟩ (q_a .nil) (.to rfl) (.as rfl (by rw [newK_out ha hc37]) (.to rfl)) (.to rfl)
    ·
     have hc37 : a = mach := Classical.not_not.1 hc37
     rw [hc37] at ha
     refine W.skip (N.next (q_sr (q_q q_mv ?_)))
     refine q_q (Yld.buildP lay48 (.cons rfl rfl .nil) rfl) ?_
     refine q_al 109 zc48 fun b9 => ?_
     refine q_s 109 sz48 ?_
     refine q_nn (W.seq (q_sr (q_q (q_lw 102 u29 sz29) (q_q q_mv ?_))))
     refine q_e (q_c ent47 [1] [1] (rkind_ct m H1 hM ((z.j : Int) + 1))) ?_
     rintro _ _ ⟨_, ⟨rfl, rfl⟩, rfl⟩
     rw [hkx]
     refine q_q (q_b BinV.eql) (q_nn (q_k [1, 2, 4, 5, 6, 7, 8, 9, 43] [0, 1, 102, 104, 105, 109, 160, 161, 162, 163] ?_))
     first | refine W.condD rfl (fun hc43 => ?_) (fun hc43 => ?_) | (refine W.cond rfl (fun hc43 => ?_) (fun hc43 => ?_) <;> try simp only [Bool.or_eq_true, Bool.and_eq_true, Bool.not_eq_true', Bool.not_eq_false', decide_eq_true_eq, Bool.or_eq_false_iff, Bool.and_eq_false_iff, decide_eq_false_iff_not, beq_iff_eq, beq_eq_false_iff_ne, ne_eq, Decidable.not_not] at hc43)
     ·
      refine W.region (q_q q_mv (q_q (q_fa fo48_1) (q_s 109 sz3 ?_)))
      refine q_nn (W.region (q_q (q_fa fo59_1) (q_q (q_l 105 u41) (q_q (q_lw 109 u48 sz48) ?_))))
      refine q_e (Eff.buildSlice 149 u41 sz48 zc48 rfl rfl (.cons rfl rfl .nil) rfl) ?_
      rintro _ _ ⟨b49, rfl, rfl⟩
      refine q_e (Eff.appendE (tc := 160) (sc := 149) (ms := [newU mach z.j x]) U.c u41 el48 rfl rfl rfl rfl hOw rfl (Own.one (l := (newU mach z.j x).c) rfl (U.one _) (by unfold newU U.c; first | (rw [if_pos hc43]; rfl) | (rw [if_neg hc43]; rfl))).sl rfl (fun a _ => U.one a) (by decide) (by simp; omega) (by simp [maxLen]; omega)) ?_
      rintro _ _ ⟨Ha, pa, ca, rfl, hOa, rfl⟩
      refine q_q (q_fa fo59_1) (q_s 105 sz41 ?_)
      refine RL.nil (N.block_normal (N.next (q_k [1, 2, 4, 5, 6, 7, 8] [0, 1, 102, 104, 105, 109, 149, 160, 161, 162, 163] ?_)))
      refine W.region (q_q q_mv ?_)
      refine q_q q_ad (q_q q_as (RL.nil ?_))
      exact N.famK ⟨w.j + 1, Ha, pa, ca⟩ ⟨⟨by dsimp only; omega, by dsimp only; rw [newK_in ha]; exact hOa⟩, by dsimp only; omega⟩ (q_a .nil) (.to rfl) (.as rfl (by rw [newK_in ha]) (.to rfl)) (.to rfl)
     ·
      refine W.skip (N.next (W.region (q_q (q_fa fo59_1) (q_q (q_l 105 u41) (q_q (q_lw 109 u48 sz48) ?_)))))
      refine q_e (Eff.buildSlice 149 u41 sz48 zc48 rfl rfl (.cons rfl rfl .nil) rfl) ?_
      rintro _ _ ⟨b49, rfl, rfl⟩
      refine q_e (Eff.appendE (tc := 160) (sc := 149) (ms := [newU mach z.j x]) U.c u41 el48 rfl rfl rfl rfl hOw rfl (Own.one (l := (newU mach z.j x).c) rfl (U.one _) (by unfold newU U.c; first | (rw [if_pos hc43]; rfl) | (rw [if_neg hc43]; rfl))).sl rfl (fun a _ => U.one a) (by decide) (by simp; omega) (by simp [maxLen]; omega)) ?_
      rintro _ _ ⟨Ha, pa, ca, rfl, hOa, rfl⟩
      refine q_q (q_fa fo59_1) (q_s 105 sz41 ?_)
      refine RL.nil (N.block_normal (N.next (q_k [1, 2, 4, 5, 6, 7, 8] [0, 1, 102, 104, 105, 109, 149, 160, 161, 162, 163] ?_)))
      refine W.region (q_q q_mv ?_)
      refine q_q q_ad (q_q q_as (RL.nil ?_))
      exact N.famK ⟨w.j + 1, Ha, pa, ca⟩ ⟨⟨by dsimp only; omega, by dsimp only; rw [newK_in ha]; exact hOa⟩, by dsimp only; omega⟩ (q_a .nil) (.to rfl) (.as rfl (by rw [newK_in ha]) (.to rfl)) (.to rfl)
   ·
    have hend : w.j = x.on.length := by omega
    rw [hend, newK_end hv hx] at hOw ⊢
    refine W.exit (N.then_exit (N.then_exit (N.block_eq (N.block_normal (N.next (q_k [1, 2, 4, 5, 6] [0, 1, 102, 104, 105, 160, 161, 162, 163] ?_))))))
    refine W.region (q_q q_mv ?_)
    refine q_q q_ad (q_q q_as (RL.nil ?_))
    exact N.famK ⟨z.j + 1, w.H, w.p, w.c⟩ ⟨⟨by dsimp only; omega, by dsimp only; exact hOw⟩, by dsimp only; omega⟩ (q_a .nil) (.to rfl) (.as rfl (by rfl) (.to rfl)) (.to rfl)
  ·
   have hend : z.j = m.is.length := by omega
   rw [hend] at hO ⊢
   refine W.exit (N.then_exit (N.then_exit (N.block_eq (N.next (q_k [4, 5] [0, 1, 102, 104, 105, 160, 161, 162, 163] ?_)))))
   refine q_sr (q_q (q_lw 105 u59 sz59) (q_s 104 sz59 ?_))
   refine q_nn (W.ret ?_)
   exact q_r [1, 160, 161, 162, 163] (.cons (q_rc 104 u59 sz59) .nil) rfl rfl rfl ⟨⟨z.p, z.c, newN m.is mach m.is.length, z.H, 0, none, 0, [], emp, none, 0, [], emp, none, 0, [], emp⟩, rfl, ⟨hO.sl, sl_nil1 _, sl_nil1 _, (Own.nil 38 4).sl⟩, ⟨rfl, rfl, rfl, rfl, rfl⟩, rfl⟩
end Go.Proofs.YtboapdcmaeojgaaGreatDoor
namespace Go.Proofs.YtboapdcmaeojgaaGreatDoor
open SL Cat Fen
set_option linter.unusedVariables false
set_option linter.unusedSimpArgs false
theorem ent189 : Ent Tryz.prog 189 := ⟨_, _, Tryz.func189, by kernel_rfl, rfl⟩
set_option maxRecDepth 100000 in
set_option maxHeartbeats 1600000 in
theorem rfind_ct (x : Rt) (mach : Int) (hx : x.In) (it : Int) : Ct Tryz.prog 52 [.agg [.int .i64 mach, .slice x.pu x.us.length x.cu, .int .i64 x.gen, .slice x.ps x.st.length x.cs, .slice x.pv x.va.length x.cv, .slice x.pc x.cl.length x.cc].toArray, .int .i64 it] [x.HU] (fun v Hs => v = .tuple [.agg (fvU x.us it).1.c.toArray, .bool (fvU x.us it).2].toArray ∧ Hs = [x.HU]) := by
  refine Ct.body Tryz.func52 rfl Tryz.ntmps52 rfl ?_
  intro E F
  obtain ⟨hSu, hSs, hSv, hSc⟩ := id hx
  have hmu := hSu.len_le
  have hms := hSs.len_le
  have hmv := hSv.len_le
  have hmc := hSc.len_le
  simp only [List.length_map, iz_len, maxLen] at hmu hms hmv hmc
  refine q_sr ?_
  refine q_bx 102 fun b2 => ?_
  refine q_al 104 zc48 fun b4 => ?_
  refine q_an ?_
  refine W.seq (q_sr (q_an ?_))
  refine W.block ?_
  refine W.loopK (ι := Nat) (fun j => (j ≤ x.us.length ∧ ∀ (i : Nat) a, i < j → x.us[i]? = some a → opn it a = false)) (fun j => [(6, .int .i64 (j : Nat))]) (fun j => []) (fun j => x.us.length - j) (.of [1, 2, 4] rfl) (.of [0, 1, 102, 104] rfl) 0 ?_ ?_ ?_ ?_
  · exact ⟨Nat.zero_le _, fun _ _ h => absurd h (Nat.not_lt_zero _)⟩
  · exact (q_a .nil)
  · exact .nil
  rintro j ⟨hj, hI⟩
  refine q_k [6, 1, 2, 4] [0, 1, 102, 104] ?_
  refine W.seq (q_sr (q_q q_mv (q_q (q_fa fo59_1) (q_q (q_l 102 u41) (q_q (q_n u41) (q_q (q_b BinV.lss) (q_nn (q_k [1, 2, 4, 6, 11] [0, 1, 102, 104] ?_))))))))
  first | refine W.condD rfl (fun hc11 => ?_) (fun hc11 => ?_) | (refine W.cond rfl (fun hc11 => ?_) (fun hc11 => ?_) <;> try simp only [Bool.or_eq_true, Bool.and_eq_true, Bool.not_eq_true', Bool.not_eq_false', decide_eq_true_eq, Bool.or_eq_false_iff, Bool.and_eq_false_iff, decide_eq_false_iff_not, beq_iff_eq, beq_eq_false_iff_ne, ne_eq, Decidable.not_not] at hc11)
  ·
   obtain ⟨u, hu⟩ : ∃ u, x.us[j]? = some u := ⟨_, List.getElem?_eq_getElem (show j < x.us.length by first | omega | (simp only [List.length_map] at *; omega))⟩
   have hlu : (x.us.map U.c)[j]? = some u.c := by simp [hu]
   refine W.skip (N.next (W.seq (W.block (q_sr (q_q (q_fa fo59_1) (q_q (q_l 102 u41) (q_q q_mv ?_)))))))
   refine q_q (q_ix u41 sz48) (q_q (q_fa fo48_0) ?_)
   refine q_q (by first | exact (by first | exact q_r1 1 u3 | exact q_r1 102 u3 | exact q_r1 104 u3) | exact (by first | exact q_rF 1 0 u3 | exact q_rF 102 0 u3 | exact q_rF 104 0 u3)) ?_
   refine q_q q_mv (q_q (q_b BinV.eql) (q_q q_mv ?_))
   refine' q_and 22 30 8 [1, 2, 4, 6, 11, 14, 15, 16, 17, 18, 19, 20, 21] [0, 1, 102, 104] ?_ ?_ ?_
   rotate_left 1
   ·
    intro hg22
    refine q_g (q_fa fo59_1) (q_g (q_l 102 u41) (q_g q_mv ?_))
    refine q_g (q_ix u41 sz48) (q_g (q_fa fo48_2) ?_)
    refine q_g (by first | exact q_rF 1 2 u3 | exact q_rF 102 2 u3 | exact q_rF 104 2 u3) ?_
    refine q_g (q_b BinV.neq) (q_q Yld.pk ?_)
    exact q_m
   ·
    intro hg22
    repeat refine q_gs ?_
    refine q_q Yld.pk ?_
    exact q_m
   refine q_nn (q_k [1, 2, 4, 6, 30] [0, 1, 102, 104] ?_)
   refine W.cond rfl (fun hc30 => ?_) (fun hc30 => ?_)
   ·
    have hfv := fvU_some (fndU_at hu hc30 hI)
    refine q_sr (q_q (q_fa fo59_1) (q_q (q_l 102 u41) (q_q q_mv ?_)))
    refine q_q (q_ix u41 sz48) ?_
    refine q_q (by first | exact q_rA 1 u48 sz48 | exact q_rA 102 u48 sz48 | exact q_rA 104 u48 sz48) ?_
    refine q_s 104 sz48 ?_
    refine q_an ?_
    refine q_k [4, 5] [0, 1, 102, 104] ?_
    refine W.ret (N.block_ret (N.then_ret (N.then_ret (N.block_ret (N.then_ret ?_)))))
    exact q_r [1] (.cons (q_rc 104 u48 sz48) (.cons (.tmp rfl) .nil)) rfl rfl rfl ⟨by rw [hfv]; rfl, rfl⟩
   ·
    refine W.skip (N.block_normal (N.next (W.region (q_q q_mv ?_))))
    refine q_q q_ad (q_q q_as (RL.nil ?_))
    exact N.famK (j + 1) ⟨⟨by omega, fun q y hq hy => (Nat.lt_succ_iff_lt_or_eq.1 hq).elim (fun h => hI q y h hy) (fun e => by subst e; rw [hu] at hy; cases hy; exact hc30)⟩, by omega⟩ (q_a .nil) (.to rfl) .nil (.to rfl)
  ·
   have hfv := fvU_none (fndU_no fun i a hi ha => hI i a (by omega) ha)
   refine W.exit (N.then_exit (N.then_exit (N.block_eq (N.next (q_k [4] [0, 1, 102, 104] ?_)))))
   refine q_sr ?_
   refine q_q (Yld.buildP lay48 .nil rfl) (q_s 104 sz48 ?_)
   refine q_an ?_
   refine W.ret ?_
   exact q_r [1] (.cons (q_rc 104 u48 sz48) (.cons (.tmp rfl) .nil)) rfl rfl rfl ⟨by rw [hfv]; rfl, rfl⟩
set_option maxRecDepth 100000 in
set_option maxHeartbeats 3200000 in
theorem rput_ct (l : List U) (H : PH) (p : Option Addr) (c n : Nat) (hn : n = l.length) (hS : Sl H p c 5 (l.map U.c)) (u : U) (hb : l.length ≤ 1000000) : Ct Tryz.prog 189 [.slice p n c, .agg [.int .i64 u.it, .int .i64 u.rp, .int .i64 u.st, .int .i64 u.va, .int .i64 u.ca].toArray] [H] (fun v Hs => ∃ H' p' c', v = .slice p' (putR l u).length c' ∧ Own H' p' c' 48 5 ((putR l u).map U.c) ∧ Hs = [H']) := by
  refine Ct.body Tryz.func189 rfl Tryz.ntmps189 rfl ?_
  intro E F
  subst hn
  have hmx := hS.len_le
  simp only [List.length_map, maxLen] at hmx
  refine q_sr ?_
  refine q_bx 103 fun b3 => ?_
  refine q_an ?_
  refine q_sr (q_an ?_)
  refine W.seq (W.block ?_)
  refine W.loopK (ι := Nat) (fun j => (j ≤ l.length ∧ ∀ (i : Nat) a, i < j → l[i]? = some a → lt u a = true)) (fun j => [(5, .int .i64 (j : Nat))]) (fun j => []) (fun j => l.length - j) (.of [0, 3] rfl) (.of [0, 1, 103] rfl) 0 ?_ ?_ ?_ ?_
  · exact ⟨Nat.zero_le _, fun _ _ h => absurd h (Nat.not_lt_zero _)⟩
  · exact (q_a .nil)
  · exact .nil
  rintro j ⟨hj, hI⟩
  refine q_k [5, 0, 3] [0, 1, 103] ?_
  refine W.seq (W.seq ?_)
  refine W.draw (.q 0 (.q 1 (.q 2 (.q 3 (.q 4 (.q 5 (.q 6 (.q 7 (.q 8 (.q 9 (.q 10 (.q 11 (.q 12 (.q 13 (.q 14 (.q 15 (.q 16 (.q 17 (.q 18 (.q 19 (.q 20 (.q 21 (.q 22 (.q 23 (.q 24 (.q 25 (.q 26 (.q 27 (.q 28 (.q 29 (.q 30 (.q 31 (.q 32 (.q 33 .done)))))))))))))))))))))))))))))))))) (.of [0, 1, 103] rfl) mix (by kernel_rfl) (by kernel_rfl) (q_d rfl q_mv (q_d rfl q_mv (q_d rfl (q_n u41) ?_)))
  refine q_d rfl (q_b BinV.lss) (q_d rfl q_mv ?_)
  refine' DL.and (t := 11) (d := 40) 29 rfl (.of [0, 3, 5, 7, 8, 9, 10] rfl) (.of [0, 1, 103] rfl) ?_ ?_ ?_
  rotate_left 1
  ·
   intro hg11
   have hj2 : j < l.length := by have := of_decide_eq_true hg11; omega
   have hlw : (l.map U.c)[j]? = some (U.c (l[j]?.getD (⟨0, 0, 0, 0, 0⟩ : U))) := by rw [List.getElem?_map, List.getElem?_eq_getElem hj2]; rfl
   refine DL.gq rfl rfl rfl q_mv rfl ?_
   refine DL.gq rfl rfl rfl q_mv rfl ?_
   refine DL.gq rfl rfl rfl (q_ix u41 sz48) rfl ?_
   refine DL.gq rfl rfl rfl (q_fa fo48_0) rfl ?_
   refine DL.gq rfl rfl rfl (by first | exact (by first | exact q_r1 1 u3 | exact q_r1 103 u3) | exact (by first | exact q_rF 1 0 u3 | exact q_rF 103 0 u3)) rfl ?_
   refine DL.gq rfl rfl rfl (q_fa fo48_0) rfl ?_
   refine DL.gq rfl rfl rfl (q_l 103 u3) rfl ?_
   refine DL.gq rfl rfl rfl (q_b BinV.lss) rfl ?_
   refine DL.gq rfl rfl rfl q_mv rfl ?_
   refine' DL.or (t := 20) (d := 39) 19 rfl (.of [0, 3, 5, 7, 8, 9, 10, 11, 12, 13, 14, 15, 16, 17, 18, 19] rfl) (.of [0, 1, 103] rfl) ?_ ?_ ?_
   rotate_left 1
   ·
    intro hg20
    refine DL.gq rfl rfl rfl q_mv rfl ?_
    refine DL.gq rfl rfl rfl q_mv rfl ?_
    refine DL.gq rfl rfl rfl (q_ix u41 sz48) rfl ?_
    refine DL.gq rfl rfl rfl (q_fa fo48_0) rfl ?_
    refine DL.gq rfl rfl rfl (by first | exact (by first | exact q_r1 1 u3 | exact q_r1 103 u3) | exact (by first | exact q_rF 1 0 u3 | exact q_rF 103 0 u3)) rfl ?_
    refine DL.gq rfl rfl rfl (q_fa fo48_0) rfl ?_
    refine DL.gq rfl rfl rfl (q_l 103 u3) rfl ?_
    refine DL.gq rfl rfl rfl (q_b BinV.eql) rfl ?_
    refine DL.gq rfl rfl rfl q_mv rfl ?_
    refine' DL.and (t := 29) (d := 38) 9 rfl (.of [0, 3, 5, 7, 8, 9, 10, 11, 12, 13, 14, 15, 16, 17, 18, 19, 20, 21, 22, 23, 24, 25, 26, 27, 28] rfl) (.of [0, 1, 103] rfl) ?_ ?_ ?_
    rotate_left 1
    ·
     intro hg29
     refine DL.gq rfl rfl rfl q_mv rfl ?_
     refine DL.gq rfl rfl rfl q_mv rfl ?_
     refine DL.gq rfl rfl rfl (q_ix u41 sz48) rfl ?_
     refine DL.gq rfl rfl rfl (q_fa fo48_1) rfl ?_
     refine DL.gq rfl rfl rfl (by first | exact q_rF 1 1 u3 | exact q_rF 103 1 u3) rfl ?_
     refine DL.gq rfl rfl rfl (q_fa fo48_1) rfl ?_
     refine DL.gq rfl rfl rfl (q_l 103 u3) rfl ?_
     refine DL.gq rfl rfl rfl (q_b BinV.lss) rfl ?_
     refine DL.gq rfl rfl rfl Yld.pk rfl ?_
     exact DL.meet (.to rfl) (.to rfl)
    ·
     intro hg29
     repeat refine q_ds ?_
     refine DL.gq rfl rfl rfl Yld.pk rfl ?_
     exact DL.meet (.to rfl) (.to rfl)
    refine DL.gq rfl rfl rfl Yld.pk rfl ?_
    exact DL.meet (.to rfl) (.to rfl)
   ·
    intro hg20
    repeat refine q_ds ?_
    refine DL.gskipU rfl rfl rfl rfl ?_
    refine DL.gskipU rfl rfl rfl rfl ?_
    refine DL.gskipU rfl rfl rfl rfl ?_
    refine DL.gskipU rfl rfl rfl rfl ?_
    refine DL.gskipU rfl rfl rfl rfl ?_
    refine DL.gskipU rfl rfl rfl rfl ?_
    refine DL.gskipU rfl rfl rfl rfl ?_
    refine DL.gskipU rfl rfl rfl rfl (q_ds ?_)
    refine DL.gq rfl rfl rfl Yld.pk rfl ?_
    exact DL.meet (.to rfl) (.to rfl)
   refine q_d rfl Yld.pk ?_
   exact DL.meet (.to rfl) (.to rfl)
  ·
   intro hg11
   repeat refine q_ds ?_
   refine DL.gskipU rfl rfl rfl rfl ?_
   refine DL.gskipU rfl rfl rfl rfl ?_
   refine DL.gskipU rfl rfl rfl rfl ?_
   refine DL.gskipU rfl rfl rfl rfl ?_
   refine DL.gskipU rfl rfl rfl rfl ?_
   refine DL.gskipU rfl rfl rfl rfl ?_
   refine DL.gskipU rfl rfl rfl rfl ?_
   refine DL.gskipU rfl rfl rfl rfl ?_
   refine DL.gskipU rfl rfl rfl rfl ?_
   refine DL.gskipU rfl rfl rfl rfl ?_
   refine DL.gskipU rfl rfl rfl rfl ?_
   refine DL.gskipU rfl rfl rfl rfl ?_
   refine DL.gskipU rfl rfl rfl rfl ?_
   refine DL.gskipU rfl rfl rfl rfl ?_
   refine DL.gskipU rfl rfl rfl rfl ?_
   refine DL.gskipU rfl rfl rfl rfl ?_
   refine DL.gskipU rfl rfl rfl rfl ?_
   refine DL.gskipU rfl rfl rfl rfl (q_ds ?_)
   refine q_d rfl Yld.pk ?_
   exact DL.meet (.to rfl) (.to rfl)
  refine DL.done (N.next (q_k [0, 3, 5, 40] [0, 1, 103] ?_))
  refine W.cond rfl (fun hc40 => ?_) (fun hc40 => ?_)
  ·
   rw [Bool.and_eq_true, decide_eq_true_eq] at hc40
   have hj3 : j < l.length := by have := hc40.1; omega
   obtain ⟨a, ha⟩ : ∃ a, l[j]? = some a := ⟨_, List.getElem?_eq_getElem hj3⟩
   have hla : lt u a = true := by have h := hc40.2; rw [ha] at h; exact h
   refine W.skip (N.next (W.block (W.region (q_q q_mv ?_))))
   refine q_q q_ad (q_q q_as (RL.nil (N.block_normal ?_)))
   exact N.famK (j + 1) ⟨⟨by omega, fun q b hq hb2 => (Nat.lt_succ_iff_lt_or_eq.1 hq).elim (fun h => hI q b h hb2) (fun e => by subst e; rw [ha] at hb2; cases hb2; exact hla)⟩, by omega⟩ (q_a .nil) (.to rfl) .nil (.to rfl)
  ·
   have hno : ∀ a, l[j]? = some a → lt u a = false := fun a ha => by
     have hj3 := (List.getElem?_eq_some_iff.1 ha).1
     rw [decide_eq_true (show (j : Int) < l.length by omega), Bool.true_and, ha] at hc40
     exact hc40
   have hpa := put_at hj hI hno
   refine W.exit (N.then_exit (N.then_exit (N.block_eq (N.next (W.seq ?_)))))
   refine W.draw (.q 1 (.q 2 (.q 3 (.q 5 (.two 0 (.two 4 (.one 6 (.one 7 (.q 8 .done))) 6 (.one 4 (.one 7 (.q 8 .done)))) 6 (.one 0 (.one 4 (.one 7 (.q 8 .done))))))))) (.of [0, 1, 103] rfl) mix (by kernel_rfl) (by kernel_rfl) (q_d rfl q_mv (q_d rfl q_mv ?_))
   refine q_d rfl (Yld.sliceH u41 sz48 rfl rfl (by omega) (by first | omega | (simp; done) | (simp; omega))) ?_
   refine q_d rfl (q_lw 103 u48 sz48) ?_
   refine DL.two ?_ ?_
   ·
    refine q_o rfl (Eff.buildSlice 143 u41 sz48 zc48 rfl rfl .nil rfl) ?_
    rintro _ _ ⟨b43, rfl, rfl⟩
    refine DL.two ?_ ?_
    ·
     refine q_o rfl (Eff.appendE (tc := 143) (sc := 1) (ms := l.take j) (ls := ([] : List U)) U.c u41 el48 rfl rfl rfl rfl (Own.none0 rfl : Own _ _ 0 48 5 (([] : List U).map U.c)) rfl (by rw [List.map_take]; exact hS.take j) (by simp; omega) (fun a _ => U.one a) (by decide) (by simp; omega) (by simp [maxLen]; omega)) ?_
     rintro _ _ ⟨H1, p1, c1, rfl, hO1, rfl⟩
     refine q_o rfl (Eff.buildSlice 149 u41 sz48 zc48 rfl rfl (.cons rfl rfl .nil) rfl) ?_
     rintro _ _ ⟨b49, rfl, rfl⟩
     refine q_o rfl (Eff.appendE (tc := 143) (sc := 149) (ms := [u]) U.c u41 el48 rfl rfl rfl rfl hO1 rfl (Own.one (l := u.c) rfl (U.one u) rfl).sl rfl (fun a _ => U.one a) (by decide) (by simp; omega) (by simp [maxLen]; omega)) ?_
     rintro _ _ ⟨H2, p2, c2, rfl, hO2, rfl⟩
     refine q_d rfl q_as (DL.done (N.next (q_k [0, 3, 5, 6] [0, 1, 103, 143, 149] ?_)))
     refine W.seq (W.seq ?_)
     refine W.draw (.q 0 (.q 1 (.q 2 (.q 3 (.q 4 (.q 5 (.q 6 (.q 7 (.q 8 (.q 9 (.q 10 (.q 11 (.q 12 (.q 13 (.q 14 (.q 15 (.q 16 (.q 17 (.q 18 (.q 19 (.q 20 (.q 21 (.q 22 (.q 23 .done)))))))))))))))))))))))) (.of [0, 1, 103, 143, 149] rfl) mix (by kernel_rfl) (by kernel_rfl) (q_d rfl q_mv (q_d rfl q_mv (q_d rfl (q_n u41) (q_d rfl (q_b BinV.lss) (q_d rfl q_mv ?_)))))
     refine' DL.and (t := 55) (d := 64) 9 rfl (.of [0, 3, 5, 6, 51, 52, 53, 54] rfl) (.of [0, 1, 103, 143, 149] rfl) ?_ ?_ ?_
     rotate_left 1
     ·
      intro hg55
      have hj2 : j < l.length := by have := of_decide_eq_true hg55; omega
      have hlw : (l.map U.c)[j]? = some (U.c (l[j]?.getD (⟨0, 0, 0, 0, 0⟩ : U))) := by rw [List.getElem?_map, List.getElem?_eq_getElem hj2]; rfl
      refine DL.gq rfl rfl rfl q_mv rfl ?_
      refine DL.gq rfl rfl rfl q_mv rfl ?_
      refine DL.gq rfl rfl rfl (q_ix u41 sz48) rfl ?_
      refine DL.gq rfl rfl rfl (q_fa fo48_0) rfl ?_
      refine DL.gq rfl rfl rfl (by first | exact (by first | exact q_r1 143 u3 | exact q_r1 149 u3 | exact q_r1 1 u3 | exact q_r1 103 u3) | exact (by first | exact q_rF 143 0 u3 | exact q_rF 149 0 u3 | exact q_rF 1 0 u3 | exact q_rF 103 0 u3)) rfl ?_
      refine DL.gq rfl rfl rfl (q_fa fo48_0) rfl ?_
      refine DL.gq rfl rfl rfl (q_l 103 u3) rfl ?_
      refine DL.gq rfl rfl rfl (q_b BinV.eql) rfl (q_d rfl Yld.pk ?_)
      exact DL.meet (.to rfl) (.to rfl)
     ·
      intro hg55
      repeat refine q_ds ?_
      refine q_d rfl Yld.pk ?_
      exact DL.meet (.to rfl) (.to rfl)
     refine q_d rfl q_mv ?_
     refine' DL.and (t := 65) (d := 74) 9 rfl (.of [0, 3, 5, 6, 51, 52, 53, 54, 64] rfl) (.of [0, 1, 103, 143, 149] rfl) ?_ ?_ ?_
     rotate_left 1
     ·
      intro hg65
      have hg65b := (Bool.and_eq_true _ _ ▸ hg65 : _ ∧ _).1
      have hj2 : j < l.length := by have := of_decide_eq_true hg65b; omega
      have hlw : (l.map U.c)[j]? = some (U.c (l[j]?.getD (⟨0, 0, 0, 0, 0⟩ : U))) := by rw [List.getElem?_map, List.getElem?_eq_getElem hj2]; rfl
      refine DL.gq rfl rfl rfl q_mv rfl ?_
      refine DL.gq rfl rfl rfl q_mv rfl ?_
      refine DL.gq rfl rfl rfl (q_ix u41 sz48) rfl ?_
      refine DL.gq rfl rfl rfl (q_fa fo48_1) rfl ?_
      refine DL.gq rfl rfl rfl (by first | exact q_rF 143 1 u3 | exact q_rF 149 1 u3 | exact q_rF 1 1 u3 | exact q_rF 103 1 u3) rfl ?_
      refine DL.gq rfl rfl rfl (q_fa fo48_1) rfl ?_
      refine DL.gq rfl rfl rfl (q_l 103 u3) rfl ?_
      refine DL.gq rfl rfl rfl (q_b BinV.eql) rfl (q_d rfl Yld.pk ?_)
      exact DL.meet (.to rfl) (.to rfl)
     ·
      intro hg65
      repeat refine q_ds ?_
      refine q_d rfl Yld.pk ?_
      exact DL.meet (.to rfl) (.to rfl)
     refine DL.done (N.next (q_k [0, 5, 6, 74] [0, 1, 103, 143, 149] ?_))
     refine W.cond rfl (fun hc74 => ?_) (fun hc74 => ?_)
     ·
      obtain ⟨jj, hjj⟩ : ∃ jj, jj = j + 1 := ⟨_, rfl⟩
      have hpu : putR l u = l.take j ++ [u] ++ l.drop jj := hjj ▸ hpa.1 (by
        simp only [Bool.and_eq_true, decide_eq_true_eq] at hc74
        have hj3 : j < l.length := by omega
        rw [List.getElem?_eq_getElem hj3] at hc74
        exact ⟨_, List.getElem?_eq_getElem hj3, hc74.1.2, hc74.2⟩)
      have hj4 : j < l.length := by
        simp only [Bool.and_eq_true, decide_eq_true_eq] at hc74
        omega
      refine W.region (q_q q_mv ?_)
      refine q_q q_ad (q_an ?_)
      refine q_sr (q_q q_mv (q_q q_mv (q_q q_mv ?_)))
      refine q_q (Yld.sliceL u41 sz48 rfl rfl (by omega) (by first | omega | (simp; done) | (simp; omega))) ?_
      refine q_e (Eff.appendE (tc := 143) (sc := 1) (ms := (l.drop jj)) U.c u41 el48 rfl rfl rfl rfl hO2 rfl (by rw [List.map_drop, hjj]; first | exact hS.drop (k := j + 1) (by simp; omega) | exact hS.drop (k := j) (by simp; omega)) (by simp; omega) (fun a _ => U.one a) (by decide) (by simp; omega) (by simp [maxLen]; omega)) ?_
      rintro _ _ ⟨H3, p3, c3, rfl, hO3, rfl⟩
      refine q_an ?_
      refine q_k [4] [0, 1, 103, 143, 149] ?_
      refine W.ret ?_
      exact q_r [143] (.cons (.tmp rfl) .nil) rfl rfl rfl ⟨H3, p3, c3, by rw [hpu]; rfl, by rw [hpu]; exact hO3, rfl⟩
     ·
      obtain ⟨jj, hjj⟩ : ∃ jj, jj = j := ⟨_, rfl⟩
      have hpu : putR l u = l.take j ++ [u] ++ l.drop jj := hjj ▸ hpa.2 (fun a ha h3 => by
        have hj3 := (List.getElem?_eq_some_iff.1 ha).1
        rw [decide_eq_true (show (j : Int) < l.length by omega), ha] at hc74
        simp [h3] at hc74)
      refine W.skip (N.next (q_sr (q_q q_mv (q_q q_mv (q_q q_mv ?_)))))
      refine q_q (Yld.sliceL u41 sz48 rfl rfl (by omega) (by first | omega | (simp; done) | (simp; omega))) ?_
      refine q_e (Eff.appendE (tc := 143) (sc := 1) (ms := (l.drop jj)) U.c u41 el48 rfl rfl rfl rfl hO2 rfl (by rw [List.map_drop, hjj]; first | exact hS.drop (k := j + 1) (by simp; omega) | exact hS.drop (k := j) (by simp; omega)) (by simp; omega) (fun a _ => U.one a) (by decide) (by simp; omega) (by simp [maxLen]; omega)) ?_
      rintro _ _ ⟨H3, p3, c3, rfl, hO3, rfl⟩
      refine q_an ?_
      refine q_k [4] [0, 1, 103, 143, 149] ?_
      refine W.ret ?_
      exact q_r [143] (.cons (.tmp rfl) .nil) rfl rfl rfl ⟨H3, p3, c3, by rw [hpu]; rfl, by rw [hpu]; exact hO3, rfl⟩
    ·
     refine q_o rfl (Eff.buildSlice 149 u41 sz48 zc48 rfl rfl (.cons rfl rfl .nil) rfl) ?_
     rintro _ _ ⟨b49, rfl, rfl⟩
     refine q_o rfl (Eff.appendE (tc := 143) (sc := 1) (ms := l.take j) (ls := ([] : List U)) U.c u41 el48 rfl rfl rfl rfl (Own.none0 rfl : Own _ _ 0 48 5 (([] : List U).map U.c)) rfl (by rw [List.map_take]; exact hS.take j) (by simp; omega) (fun a _ => U.one a) (by decide) (by simp; omega) (by simp [maxLen]; omega)) ?_
     rintro _ _ ⟨H1, p1, c1, rfl, hO1, rfl⟩
     refine q_o rfl (Eff.appendE (tc := 143) (sc := 149) (ms := [u]) U.c u41 el48 rfl rfl rfl rfl hO1 rfl (Own.one (l := u.c) rfl (U.one u) rfl).sl rfl (fun a _ => U.one a) (by decide) (by simp; omega) (by simp [maxLen]; omega)) ?_
     rintro _ _ ⟨H2, p2, c2, rfl, hO2, rfl⟩
     refine q_d rfl q_as (DL.done (N.next (q_k [0, 3, 5, 6] [0, 1, 103, 143, 149] ?_)))
     refine W.seq (W.seq ?_)
     refine W.draw (.q 0 (.q 1 (.q 2 (.q 3 (.q 4 (.q 5 (.q 6 (.q 7 (.q 8 (.q 9 (.q 10 (.q 11 (.q 12 (.q 13 (.q 14 (.q 15 (.q 16 (.q 17 (.q 18 (.q 19 (.q 20 (.q 21 (.q 22 (.q 23 .done)))))))))))))))))))))))) (.of [0, 1, 103, 143, 149] rfl) mix (by kernel_rfl) (by kernel_rfl) (q_d rfl q_mv (q_d rfl q_mv (q_d rfl (q_n u41) (q_d rfl (q_b BinV.lss) (q_d rfl q_mv ?_)))))
     refine' DL.and (t := 55) (d := 64) 9 rfl (.of [0, 3, 5, 6, 51, 52, 53, 54] rfl) (.of [0, 1, 103, 143, 149] rfl) ?_ ?_ ?_
     rotate_left 1
     ·
      intro hg55
      have hj2 : j < l.length := by have := of_decide_eq_true hg55; omega
      have hlw : (l.map U.c)[j]? = some (U.c (l[j]?.getD (⟨0, 0, 0, 0, 0⟩ : U))) := by rw [List.getElem?_map, List.getElem?_eq_getElem hj2]; rfl
      refine DL.gq rfl rfl rfl q_mv rfl ?_
      refine DL.gq rfl rfl rfl q_mv rfl ?_
      refine DL.gq rfl rfl rfl (q_ix u41 sz48) rfl ?_
      refine DL.gq rfl rfl rfl (q_fa fo48_0) rfl ?_
      refine DL.gq rfl rfl rfl (by first | exact (by first | exact q_r1 143 u3 | exact q_r1 149 u3 | exact q_r1 1 u3 | exact q_r1 103 u3) | exact (by first | exact q_rF 143 0 u3 | exact q_rF 149 0 u3 | exact q_rF 1 0 u3 | exact q_rF 103 0 u3)) rfl ?_
      refine DL.gq rfl rfl rfl (q_fa fo48_0) rfl ?_
      refine DL.gq rfl rfl rfl (q_l 103 u3) rfl ?_
      refine DL.gq rfl rfl rfl (q_b BinV.eql) rfl (q_d rfl Yld.pk ?_)
      exact DL.meet (.to rfl) (.to rfl)
     ·
      intro hg55
      repeat refine q_ds ?_
      refine q_d rfl Yld.pk ?_
      exact DL.meet (.to rfl) (.to rfl)
     refine q_d rfl q_mv ?_
     refine' DL.and (t := 65) (d := 74) 9 rfl (.of [0, 3, 5, 6, 51, 52, 53, 54, 64] rfl) (.of [0, 1, 103, 143, 149] rfl) ?_ ?_ ?_
     rotate_left 1
     ·
      intro hg65
      have hg65b := (Bool.and_eq_true _ _ ▸ hg65 : _ ∧ _).1
      have hj2 : j < l.length := by have := of_decide_eq_true hg65b; omega
      have hlw : (l.map U.c)[j]? = some (U.c (l[j]?.getD (⟨0, 0, 0, 0, 0⟩ : U))) := by rw [List.getElem?_map, List.getElem?_eq_getElem hj2]; rfl
      refine DL.gq rfl rfl rfl q_mv rfl ?_
      refine DL.gq rfl rfl rfl q_mv rfl ?_
      refine DL.gq rfl rfl rfl (q_ix u41 sz48) rfl ?_
      refine DL.gq rfl rfl rfl (q_fa fo48_1) rfl ?_
      refine DL.gq rfl rfl rfl (by first | exact q_rF 143 1 u3 | exact q_rF 149 1 u3 | exact q_rF 1 1 u3 | exact q_rF 103 1 u3) rfl ?_
      refine DL.gq rfl rfl rfl (q_fa fo48_1) rfl ?_
      refine DL.gq rfl rfl rfl (q_l 103 u3) rfl ?_
      refine DL.gq rfl rfl rfl (q_b BinV.eql) rfl (q_d rfl Yld.pk ?_)
      exact DL.meet (.to rfl) (.to rfl)
     ·
      intro hg65
      repeat refine q_ds ?_
      refine q_d rfl Yld.pk ?_
      exact DL.meet (.to rfl) (.to rfl)
     refine DL.done (N.next (q_k [0, 5, 6, 74] [0, 1, 103, 143, 149] ?_))
     refine W.cond rfl (fun hc74 => ?_) (fun hc74 => ?_)
     ·
      obtain ⟨jj, hjj⟩ : ∃ jj, jj = j + 1 := ⟨_, rfl⟩
      have hpu : putR l u = l.take j ++ [u] ++ l.drop jj := hjj ▸ hpa.1 (by
        simp only [Bool.and_eq_true, decide_eq_true_eq] at hc74
        have hj3 : j < l.length := by omega
        rw [List.getElem?_eq_getElem hj3] at hc74
        exact ⟨_, List.getElem?_eq_getElem hj3, hc74.1.2, hc74.2⟩)
      have hj4 : j < l.length := by
        simp only [Bool.and_eq_true, decide_eq_true_eq] at hc74
        omega
      refine W.region (q_q q_mv ?_)
      refine q_q q_ad (q_an ?_)
      refine q_sr (q_q q_mv (q_q q_mv (q_q q_mv ?_)))
      refine q_q (Yld.sliceL u41 sz48 rfl rfl (by omega) (by first | omega | (simp; done) | (simp; omega))) ?_
      refine q_e (Eff.appendE (tc := 143) (sc := 1) (ms := (l.drop jj)) U.c u41 el48 rfl rfl rfl rfl hO2 rfl (by rw [List.map_drop, hjj]; first | exact hS.drop (k := j + 1) (by simp; omega) | exact hS.drop (k := j) (by simp; omega)) (by simp; omega) (fun a _ => U.one a) (by decide) (by simp; omega) (by simp [maxLen]; omega)) ?_
      rintro _ _ ⟨H3, p3, c3, rfl, hO3, rfl⟩
      refine q_an ?_
      refine q_k [4] [0, 1, 103, 143, 149] ?_
      refine W.ret ?_
      exact q_r [143] (.cons (.tmp rfl) .nil) rfl rfl rfl ⟨H3, p3, c3, by rw [hpu]; rfl, by rw [hpu]; exact hO3, rfl⟩
     ·
      obtain ⟨jj, hjj⟩ : ∃ jj, jj = j := ⟨_, rfl⟩
      have hpu : putR l u = l.take j ++ [u] ++ l.drop jj := hjj ▸ hpa.2 (fun a ha h3 => by
        have hj3 := (List.getElem?_eq_some_iff.1 ha).1
        rw [decide_eq_true (show (j : Int) < l.length by omega), ha] at hc74
        simp [h3] at hc74)
      refine W.skip (N.next (q_sr (q_q q_mv (q_q q_mv (q_q q_mv ?_)))))
      refine q_q (Yld.sliceL u41 sz48 rfl rfl (by omega) (by first | omega | (simp; done) | (simp; omega))) ?_
      refine q_e (Eff.appendE (tc := 143) (sc := 1) (ms := (l.drop jj)) U.c u41 el48 rfl rfl rfl rfl hO2 rfl (by rw [List.map_drop, hjj]; first | exact hS.drop (k := j + 1) (by simp; omega) | exact hS.drop (k := j) (by simp; omega)) (by simp; omega) (fun a _ => U.one a) (by decide) (by simp; omega) (by simp [maxLen]; omega)) ?_
      rintro _ _ ⟨H3, p3, c3, rfl, hO3, rfl⟩
      refine q_an ?_
      refine q_k [4] [0, 1, 103, 143, 149] ?_
      refine W.ret ?_
      exact q_r [143] (.cons (.tmp rfl) .nil) rfl rfl rfl ⟨H3, p3, c3, by rw [hpu]; rfl, by rw [hpu]; exact hO3, rfl⟩
   ·
    refine q_o rfl (Eff.buildSlice 149 u41 sz48 zc48 rfl rfl (.cons rfl rfl .nil) rfl) ?_
    rintro _ _ ⟨b49, rfl, rfl⟩
    refine q_o rfl (Eff.buildSlice 143 u41 sz48 zc48 rfl rfl .nil rfl) ?_
    rintro _ _ ⟨b43, rfl, rfl⟩
    refine q_o rfl (Eff.appendE (tc := 143) (sc := 1) (ms := l.take j) (ls := ([] : List U)) U.c u41 el48 rfl rfl rfl rfl (Own.none0 rfl : Own _ _ 0 48 5 (([] : List U).map U.c)) rfl (by rw [List.map_take]; exact hS.take j) (by simp; omega) (fun a _ => U.one a) (by decide) (by simp; omega) (by simp [maxLen]; omega)) ?_
    rintro _ _ ⟨H1, p1, c1, rfl, hO1, rfl⟩
    refine q_o rfl (Eff.appendE (tc := 143) (sc := 149) (ms := [u]) U.c u41 el48 rfl rfl rfl rfl hO1 rfl (Own.one (l := u.c) rfl (U.one u) rfl).sl rfl (fun a _ => U.one a) (by decide) (by simp; omega) (by simp [maxLen]; omega)) ?_
    rintro _ _ ⟨H2, p2, c2, rfl, hO2, rfl⟩
    refine q_d rfl q_as (DL.done (N.next (q_k [0, 3, 5, 6] [0, 1, 103, 143, 149] ?_)))
    refine W.seq (W.seq ?_)
    refine W.draw (.q 0 (.q 1 (.q 2 (.q 3 (.q 4 (.q 5 (.q 6 (.q 7 (.q 8 (.q 9 (.q 10 (.q 11 (.q 12 (.q 13 (.q 14 (.q 15 (.q 16 (.q 17 (.q 18 (.q 19 (.q 20 (.q 21 (.q 22 (.q 23 .done)))))))))))))))))))))))) (.of [0, 1, 103, 143, 149] rfl) mix (by kernel_rfl) (by kernel_rfl) (q_d rfl q_mv (q_d rfl q_mv (q_d rfl (q_n u41) (q_d rfl (q_b BinV.lss) (q_d rfl q_mv ?_)))))
    refine' DL.and (t := 55) (d := 64) 9 rfl (.of [0, 3, 5, 6, 51, 52, 53, 54] rfl) (.of [0, 1, 103, 143, 149] rfl) ?_ ?_ ?_
    rotate_left 1
    ·
     intro hg55
     have hj2 : j < l.length := by have := of_decide_eq_true hg55; omega
     have hlw : (l.map U.c)[j]? = some (U.c (l[j]?.getD (⟨0, 0, 0, 0, 0⟩ : U))) := by rw [List.getElem?_map, List.getElem?_eq_getElem hj2]; rfl
     refine DL.gq rfl rfl rfl q_mv rfl ?_
     refine DL.gq rfl rfl rfl q_mv rfl ?_
     refine DL.gq rfl rfl rfl (q_ix u41 sz48) rfl ?_
     refine DL.gq rfl rfl rfl (q_fa fo48_0) rfl ?_
     refine DL.gq rfl rfl rfl (by first | exact (by first | exact q_r1 143 u3 | exact q_r1 149 u3 | exact q_r1 1 u3 | exact q_r1 103 u3) | exact (by first | exact q_rF 143 0 u3 | exact q_rF 149 0 u3 | exact q_rF 1 0 u3 | exact q_rF 103 0 u3)) rfl ?_
     refine DL.gq rfl rfl rfl (q_fa fo48_0) rfl ?_
     refine DL.gq rfl rfl rfl (q_l 103 u3) rfl ?_
     refine DL.gq rfl rfl rfl (q_b BinV.eql) rfl (q_d rfl Yld.pk ?_)
     exact DL.meet (.to rfl) (.to rfl)
    ·
     intro hg55
     repeat refine q_ds ?_
     refine q_d rfl Yld.pk ?_
     exact DL.meet (.to rfl) (.to rfl)
    refine q_d rfl q_mv ?_
    refine' DL.and (t := 65) (d := 74) 9 rfl (.of [0, 3, 5, 6, 51, 52, 53, 54, 64] rfl) (.of [0, 1, 103, 143, 149] rfl) ?_ ?_ ?_
    rotate_left 1
    ·
     intro hg65
     have hg65b := (Bool.and_eq_true _ _ ▸ hg65 : _ ∧ _).1
     have hj2 : j < l.length := by have := of_decide_eq_true hg65b; omega
     have hlw : (l.map U.c)[j]? = some (U.c (l[j]?.getD (⟨0, 0, 0, 0, 0⟩ : U))) := by rw [List.getElem?_map, List.getElem?_eq_getElem hj2]; rfl
     refine DL.gq rfl rfl rfl q_mv rfl ?_
     refine DL.gq rfl rfl rfl q_mv rfl ?_
     refine DL.gq rfl rfl rfl (q_ix u41 sz48) rfl ?_
     refine DL.gq rfl rfl rfl (q_fa fo48_1) rfl ?_
     refine DL.gq rfl rfl rfl (by first | exact q_rF 143 1 u3 | exact q_rF 149 1 u3 | exact q_rF 1 1 u3 | exact q_rF 103 1 u3) rfl ?_
     refine DL.gq rfl rfl rfl (q_fa fo48_1) rfl ?_
     refine DL.gq rfl rfl rfl (q_l 103 u3) rfl ?_
     refine DL.gq rfl rfl rfl (q_b BinV.eql) rfl (q_d rfl Yld.pk ?_)
     exact DL.meet (.to rfl) (.to rfl)
    ·
     intro hg65
     repeat refine q_ds ?_
     refine q_d rfl Yld.pk ?_
     exact DL.meet (.to rfl) (.to rfl)
    refine DL.done (N.next (q_k [0, 5, 6, 74] [0, 1, 103, 143, 149] ?_))
    refine W.cond rfl (fun hc74 => ?_) (fun hc74 => ?_)
    ·
     obtain ⟨jj, hjj⟩ : ∃ jj, jj = j + 1 := ⟨_, rfl⟩
     have hpu : putR l u = l.take j ++ [u] ++ l.drop jj := hjj ▸ hpa.1 (by
       simp only [Bool.and_eq_true, decide_eq_true_eq] at hc74
       have hj3 : j < l.length := by omega
       rw [List.getElem?_eq_getElem hj3] at hc74
       exact ⟨_, List.getElem?_eq_getElem hj3, hc74.1.2, hc74.2⟩)
     have hj4 : j < l.length := by
       simp only [Bool.and_eq_true, decide_eq_true_eq] at hc74
       omega
     refine W.region (q_q q_mv ?_)
     refine q_q q_ad (q_an ?_)
     refine q_sr (q_q q_mv (q_q q_mv (q_q q_mv ?_)))
     refine q_q (Yld.sliceL u41 sz48 rfl rfl (by omega) (by first | omega | (simp; done) | (simp; omega))) ?_
     refine q_e (Eff.appendE (tc := 143) (sc := 1) (ms := (l.drop jj)) U.c u41 el48 rfl rfl rfl rfl hO2 rfl (by rw [List.map_drop, hjj]; first | exact hS.drop (k := j + 1) (by simp; omega) | exact hS.drop (k := j) (by simp; omega)) (by simp; omega) (fun a _ => U.one a) (by decide) (by simp; omega) (by simp [maxLen]; omega)) ?_
     rintro _ _ ⟨H3, p3, c3, rfl, hO3, rfl⟩
     refine q_an ?_
     refine q_k [4] [0, 1, 103, 143, 149] ?_
     refine W.ret ?_
     exact q_r [143] (.cons (.tmp rfl) .nil) rfl rfl rfl ⟨H3, p3, c3, by rw [hpu]; rfl, by rw [hpu]; exact hO3, rfl⟩
    ·
     obtain ⟨jj, hjj⟩ : ∃ jj, jj = j := ⟨_, rfl⟩
     have hpu : putR l u = l.take j ++ [u] ++ l.drop jj := hjj ▸ hpa.2 (fun a ha h3 => by
       have hj3 := (List.getElem?_eq_some_iff.1 ha).1
       rw [decide_eq_true (show (j : Int) < l.length by omega), ha] at hc74
       simp [h3] at hc74)
     refine W.skip (N.next (q_sr (q_q q_mv (q_q q_mv (q_q q_mv ?_)))))
     refine q_q (Yld.sliceL u41 sz48 rfl rfl (by omega) (by first | omega | (simp; done) | (simp; omega))) ?_
     refine q_e (Eff.appendE (tc := 143) (sc := 1) (ms := (l.drop jj)) U.c u41 el48 rfl rfl rfl rfl hO2 rfl (by rw [List.map_drop, hjj]; first | exact hS.drop (k := j + 1) (by simp; omega) | exact hS.drop (k := j) (by simp; omega)) (by simp; omega) (fun a _ => U.one a) (by decide) (by simp; omega) (by simp [maxLen]; omega)) ?_
     rintro _ _ ⟨H3, p3, c3, rfl, hO3, rfl⟩
     refine q_an ?_
     refine q_k [4] [0, 1, 103, 143, 149] ?_
     refine W.ret ?_
     exact q_r [143] (.cons (.tmp rfl) .nil) rfl rfl rfl ⟨H3, p3, c3, by rw [hpu]; rfl, by rw [hpu]; exact hO3, rfl⟩
set_option maxRecDepth 100000 in
set_option maxHeartbeats 1600000 in
theorem rreplica_ct (x : Rt) (mach : Int) (hx : x.In) (kf : Int → Int) (hI : Inv kf mach x.us) (it num : Int) : Ct Tryz.prog 147 [.agg [.int .i64 mach, .slice x.pu x.us.length x.cu, .int .i64 x.gen, .slice x.ps x.st.length x.cs, .slice x.pv x.va.length x.cv, .slice x.pc x.cl.length x.cc].toArray, .int .i64 it, .int .i64 num] [x.HU] (fun v Hs => ∃ (y : Option U) (m : Int), v = .tuple [.agg (y.getD (⟨0, 0, 0, 0, 0⟩ : U)).c.toArray, .bool y.isSome, .int .i64 m].toArray ∧ RepI x.us it num y m ∧ Hs = [x.HU]) := by
  refine Ct.body Tryz.func147 rfl Tryz.ntmps147 rfl ?_
  intro E F
  obtain ⟨hSu, hSs, hSv, hSc⟩ := id hx
  have hmu := hSu.len_le
  have hms := hSs.len_le
  have hmv := hSv.len_le
  have hmc := hSc.len_le
  simp only [List.length_map, iz_len, maxLen] at hmu hms hmv hmc
  refine q_sr ?_
  refine q_bx 103 fun b3 => ?_
  refine q_al 106 zc48 fun b6 => ?_
  refine q_q q_as (q_an ?_)
  refine q_sr ?_
  refine q_q (Yld.buildP lay48 .nil rfl) ?_
  refine q_al 109 zc48 fun b9 => ?_
  refine q_s 109 sz48 ?_
  refine q_q q_as (q_an ?_)
  refine q_k [1, 2, 3, 6, 9, 10, 11] [0, 1, 103, 106, 109] ?_
  refine W.seq (q_sr (q_an ?_))
  refine W.block ?_
  refine W.loopK (ι := RI) (fun z => (z.j ≤ x.us.length ∧ RepI (x.us.take z.j) it num z.y z.m)) (fun z => [(10, .bool z.y.isSome), (11, .int .i64 z.m), (12, .int .i64 (z.j : Nat))]) (fun z => [(109, single b9 (.cells (z.y.getD (⟨0, 0, 0, 0, 0⟩ : U)).c.toArray 48 (0, 0)))]) (fun z => x.us.length - z.j) (.of [1, 2, 3, 6, 9] rfl) (.of [0, 1, 103, 106] rfl) ⟨0, none, 0⟩ ?_ ?_ ?_ ?_
  · exact ⟨Nat.zero_le _, RepI.zero _ _⟩
  · exact (q_a (q_a (q_a .nil)))
  · exact (.to rfl)
  rintro z ⟨hj, hR⟩
  refine q_k [10, 11, 12, 1, 2, 3, 6, 9] [109, 0, 1, 103, 106] ?_
  refine W.seq (q_sr (q_q q_mv (q_q (q_fa fo59_1) (q_q (q_l 103 u41) (q_q (q_n u41) (q_q (q_b BinV.lss) (q_nn (q_k [1, 2, 3, 6, 9, 10, 11, 12, 18] [0, 1, 103, 106, 109] ?_))))))))
  first | refine W.condD rfl (fun hc18 => ?_) (fun hc18 => ?_) | (refine W.cond rfl (fun hc18 => ?_) (fun hc18 => ?_) <;> try simp only [Bool.or_eq_true, Bool.and_eq_true, Bool.not_eq_true', Bool.not_eq_false', decide_eq_true_eq, Bool.or_eq_false_iff, Bool.and_eq_false_iff, decide_eq_false_iff_not, beq_iff_eq, beq_eq_false_iff_ne, ne_eq, Decidable.not_not] at hc18)
  ·
   obtain ⟨u, hu⟩ : ∃ u, x.us[z.j]? = some u := ⟨_, List.getElem?_eq_getElem (show z.j < x.us.length by first | omega | (simp only [List.length_map] at *; omega))⟩
   have hlu : (x.us.map U.c)[z.j]? = some u.c := by simp [hu]
   refine W.skip (N.next (W.seq (W.block (W.seq (q_sr (q_q (q_fa fo59_1) (q_q (q_l 103 u41) (q_q q_mv ?_))))))))
   refine q_q (q_ix u41 sz48) (q_q (q_fa fo48_0) ?_)
   refine q_q (by first | exact (by first | exact q_r1 1 u3 | exact q_r1 103 u3 | exact q_r1 106 u3 | exact q_r1 109 u3) | exact (by first | exact q_rF 1 0 u3 | exact q_rF 103 0 u3 | exact q_rF 106 0 u3 | exact q_rF 109 0 u3)) ?_
   refine q_q q_mv (q_q (q_b BinV.neq) (q_nn (q_k [1, 2, 3, 6, 9, 10, 11, 12, 28] [0, 1, 103, 106, 109] ?_)))
   first | refine W.condD rfl (fun hc28 => ?_) (fun hc28 => ?_) | (refine W.cond rfl (fun hc28 => ?_) (fun hc28 => ?_) <;> try simp only [Bool.or_eq_true, Bool.and_eq_true, Bool.not_eq_true', Bool.not_eq_false', decide_eq_true_eq, Bool.or_eq_false_iff, Bool.and_eq_false_iff, decide_eq_false_iff_not, beq_iff_eq, beq_eq_false_iff_ne, ne_eq, Decidable.not_not] at hc28)
   ·
    refine W.exit (N.then_exit (N.block_eq (N.next (W.region (q_q q_mv ?_)))))
    refine q_q q_ad (q_q q_as (RL.nil ?_))
    exact N.famK ⟨z.j + 1, z.y, z.m⟩ ⟨⟨by dsimp only; omega, hR.miss hu hc28⟩, by dsimp only; omega⟩ (q_a (q_a (q_a .nil))) (.to rfl) (.to rfl) (.to rfl)
   ·
    refine W.skip (N.next (q_sr (q_q (q_fa fo59_1) (q_q (q_l 103 u41) (q_q q_mv ?_)))))
    refine q_q (q_ix u41 sz48) (q_q (q_fa fo48_1) ?_)
    refine q_q (by first | exact q_rF 1 1 u3 | exact q_rF 103 1 u3 | exact q_rF 106 1 u3 | exact q_rF 109 1 u3) ?_
    refine q_an ?_
    refine q_k [1, 2, 3, 6, 9, 10, 11, 12] [0, 1, 103, 106, 109] ?_
    refine q_sr (q_q (q_fa fo59_1) (q_q (q_l 103 u41) (q_q q_mv ?_)))
    refine q_q (q_ix u41 sz48) (q_q (q_fa fo48_1) ?_)
    refine q_q (by first | exact q_rF 1 1 u3 | exact q_rF 103 1 u3 | exact q_rF 106 1 u3 | exact q_rF 109 1 u3) ?_
    refine q_q q_mv (q_q (q_b BinV.eql) (q_nn (q_k [1, 2, 3, 6, 9, 10, 11, 12, 42] [0, 1, 103, 106, 109] ?_)))
    first | refine W.condD rfl (fun hc42 => ?_) (fun hc42 => ?_) | (refine W.cond rfl (fun hc42 => ?_) (fun hc42 => ?_) <;> try simp only [Bool.or_eq_true, Bool.and_eq_true, Bool.not_eq_true', Bool.not_eq_false', decide_eq_true_eq, Bool.or_eq_false_iff, Bool.and_eq_false_iff, decide_eq_false_iff_not, beq_iff_eq, beq_eq_false_iff_ne, ne_eq, Decidable.not_not] at hc42)
    ·
     refine W.region (q_q (q_fa fo59_1) (q_q (q_l 103 u41) (q_q q_mv ?_)))
     refine q_q (q_ix u41 sz48) ?_
     refine q_q (by first | exact q_rA 1 u48 sz48 | exact q_rA 103 u48 sz48 | exact q_rA 106 u48 sz48 | exact q_rA 109 u48 sz48) ?_
     refine q_s 109 sz48 ?_
     refine q_q q_as (RL.nil (N.block_normal (N.next (q_k [1, 2, 3, 6, 9, 10, 11, 12] [0, 1, 103, 106, 109] ?_))))
     refine W.region (q_q q_mv ?_)
     refine q_q q_ad (q_q q_as (RL.nil ?_))
     exact N.famK ⟨z.j + 1, some u, u.rp⟩ ⟨⟨by dsimp only; omega, by have := hR.hit hI hu (Classical.not_not.1 hc28); rw [if_pos hc42] at this; exact this⟩, by dsimp only; omega⟩ (q_a (q_a (q_a .nil))) (.to rfl) (.to rfl) (.to rfl)
    ·
     refine W.skip (N.block_normal (N.next (W.region (q_q q_mv ?_))))
     refine q_q q_ad (q_q q_as (RL.nil ?_))
     exact N.famK ⟨z.j + 1, z.y, u.rp⟩ ⟨⟨by dsimp only; omega, by have := hR.hit hI hu (Classical.not_not.1 hc28); rw [if_neg hc42] at this; exact this⟩, by dsimp only; omega⟩ (q_a (q_a (q_a .nil))) (.to rfl) (.to rfl) (.to rfl)
  ·
   have hfull := hR.full (show z.j = x.us.length by omega)
   refine W.exit (N.then_exit (N.then_exit (N.block_eq (N.next (q_k [6, 9, 10, 11] [0, 1, 103, 106, 109] ?_)))))
   refine q_sr (q_q (q_lw 109 u48 sz48) (q_q q_mv (q_q q_mv (q_s 106 sz48 ?_))))
   refine q_q q_as (q_an ?_)
   refine q_k [6, 7, 8] [0, 1, 103, 106, 109] ?_
   refine W.ret ?_
   exact q_r [1] (.cons (q_rc 106 u48 sz48) (.cons (.tmp rfl) (.cons (.tmp rfl) .nil))) rfl rfl rfl ⟨z.y, z.m, rfl, hfull, rfl⟩
set_option maxRecDepth 100000 in
set_option maxHeartbeats 1600000 in
theorem rwith_ct (x : Rt) (mach : Int) (hx : x.In) (u : U) (s : Int) (hb : x.us.length ≤ 1000000) : Ct Tryz.prog 148 [.agg [.int .i64 mach, .slice x.pu x.us.length x.cu, .int .i64 x.gen, .slice x.ps x.st.length x.cs, .slice x.pv x.va.length x.cv, .slice x.pc x.cl.length x.cc].toArray, .agg [.int .i64 u.it, .int .i64 u.rp, .int .i64 u.st, .int .i64 u.va, .int .i64 u.ca].toArray, .int .i64 s] [x.HU] (fun v Hs => ∃ H' p' c', v = .agg [.int .i64 mach, .slice (x.setU p' c' (putR x.us { u with st := s }) H').pu (x.setU p' c' (putR x.us { u with st := s }) H').us.length (x.setU p' c' (putR x.us { u with st := s }) H').cu, .int .i64 (x.setU p' c' (putR x.us { u with st := s }) H').gen, .slice (x.setU p' c' (putR x.us { u with st := s }) H').ps (x.setU p' c' (putR x.us { u with st := s }) H').st.length (x.setU p' c' (putR x.us { u with st := s }) H').cs, .slice (x.setU p' c' (putR x.us { u with st := s }) H').pv (x.setU p' c' (putR x.us { u with st := s }) H').va.length (x.setU p' c' (putR x.us { u with st := s }) H').cv, .slice (x.setU p' c' (putR x.us { u with st := s }) H').pc (x.setU p' c' (putR x.us { u with st := s }) H').cl.length (x.setU p' c' (putR x.us { u with st := s }) H').cc].toArray ∧ Sl H' p' c' 5 ((putR x.us { u with st := s }).map U.c) ∧ Hs = [H']) := by
  refine Ct.body Tryz.func148 rfl Tryz.ntmps148 rfl ?_
  intro E F
  refine q_sr ?_
  refine q_bx 103 fun b3 => ?_
  refine q_bx 104 fun b4 => ?_
  refine q_al 106 zc59 fun b6 => ?_
  refine q_nn (q_sr (q_q q_mv (q_q (q_fa fo48_2) (q_s 104 sz3 ?_))))
  refine q_nn (q_k [3, 4, 6] [0, 1, 103, 104, 106] ?_)
  refine q_sr (q_q (q_fa fo59_1) (q_q (q_l 103 u41) (q_q (q_lw 104 u48 sz48) ?_)))
  refine q_e (q_c ent189 [1] [1] (rput_ct x.us x.HU x.pu x.cu x.us.length rfl hx.u { u with st := s } hb)) ?_
  rintro _ _ ⟨_, ⟨Hp, pp, cp, rfl, hOp, rfl⟩, rfl⟩
  refine q_q (q_fa fo59_1) (q_s 103 sz41 ?_)
  refine q_nn (q_k [3, 6] [0, 1, 103, 104, 106] ?_)
  refine q_sr (q_q (q_lw 103 u59 sz59) (q_s 106 sz59 ?_))
  refine q_nn (W.ret ?_)
  exact q_r [1] (.cons (q_rc 106 u59 sz59) .nil) rfl rfl rfl ⟨Hp, pp, cp, rfl, hOp.sl, rfl⟩
def Fen.wo (us : List U) (it : Int) : List U := us.filter fun u => decide (u.it ≠ it)
theorem wo_in {us : List U} {it : Int} {j : Nat} {u : U} (hu : us[j]? = some u) (h : u.it ≠ it) : wo (us.take (j + 1)) it = wo (us.take j) it ++ [u] := by
  unfold wo; rw [tsnoc hu, List.filter_append]; simp [h]
theorem wo_out {us : List U} {it : Int} {j : Nat} {u : U} (hu : us[j]? = some u) (h : u.it = it) : wo (us.take (j + 1)) it = wo (us.take j) it := by
  unfold wo; rw [tsnoc hu, List.filter_append]; simp [h]
theorem wo_len (us : List U) (it : Int) (j : Nat) : (wo (us.take j) it).length ≤ us.length := by
  unfold wo; have := List.length_filter_le (fun u : U => decide (u.it ≠ it)) (us.take j); rw [List.length_take] at this; omega
set_option maxRecDepth 100000 in
set_option maxHeartbeats 1600000 in
theorem rwithout_ct (x : Rt) (mach : Int) (hx : x.In) (it : Int) (hb : x.us.length ≤ 1000000) : Ct Tryz.prog 149 [.agg [.int .i64 mach, .slice x.pu x.us.length x.cu, .int .i64 x.gen, .slice x.ps x.st.length x.cs, .slice x.pv x.va.length x.cv, .slice x.pc x.cl.length x.cc].toArray, .int .i64 it] [x.HU] (fun v Hs => ∃ H' p' c', v = .agg [.int .i64 mach, .slice (x.setU p' c' (wo x.us it) H').pu (x.setU p' c' (wo x.us it) H').us.length (x.setU p' c' (wo x.us it) H').cu, .int .i64 (x.setU p' c' (wo x.us it) H').gen, .slice (x.setU p' c' (wo x.us it) H').ps (x.setU p' c' (wo x.us it) H').st.length (x.setU p' c' (wo x.us it) H').cs, .slice (x.setU p' c' (wo x.us it) H').pv (x.setU p' c' (wo x.us it) H').va.length (x.setU p' c' (wo x.us it) H').cv, .slice (x.setU p' c' (wo x.us it) H').pc (x.setU p' c' (wo x.us it) H').cl.length (x.setU p' c' (wo x.us it) H').cc].toArray ∧ Sl H' p' c' 5 ((wo x.us it).map U.c) ∧ Hs = [H']) := by
  refine Ct.body Tryz.func149 rfl Tryz.ntmps149 rfl ?_
  intro E F
  obtain ⟨hSu, hSs, hSv, hSc⟩ := id hx
  have hmu := hSu.len_le
  have hms := hSs.len_le
  have hmv := hSv.len_le
  have hmc := hSc.len_le
  simp only [List.length_map, iz_len, maxLen] at hmu hms hmv hmc
  refine q_sr ?_
  refine q_bx 102 fun b2 => ?_
  refine q_al 104 zc59 fun b4 => ?_
  refine q_nn (q_sr ?_)
  refine q_e (Eff.buildSlice 107 u41 sz48 zc48 rfl rfl .nil rfl) ?_
  rintro _ _ ⟨b7, rfl, rfl⟩
  refine q_an ?_
  refine W.seq (q_sr (q_an ?_))
  refine W.block ?_
  refine W.loopK (ι := WI) (fun z => (z.j ≤ x.us.length ∧ Own z.H z.p z.c 48 5 ((wo (x.us.take z.j) it).map U.c))) (fun z => [(5, .slice z.p (wo (x.us.take z.j) it).length z.c), (6, .int .i64 (z.j : Nat))]) (fun z => [(107, z.H)]) (fun z => x.us.length - z.j) (.of [1, 2, 4] rfl) (.of [0, 1, 102, 104] rfl) ⟨0, single b7 (.cells #[] 48 (0, 0)), some ⟨b7, 0, none⟩, 0⟩ ?_ ?_ ?_ ?_
  · exact ⟨Nat.zero_le _, Own.none0 rfl⟩
  · exact (q_a (q_a .nil))
  · exact (.to rfl)
  rintro z ⟨hj, hO⟩
  refine q_k [5, 6, 1, 2, 4] [107, 0, 1, 102, 104] ?_
  refine W.seq (q_sr (q_q q_mv (q_q (q_fa fo59_1) (q_q (q_l 102 u41) (q_q (q_n u41) (q_q (q_b BinV.lss) (q_nn (q_k [1, 2, 4, 5, 6, 12] [0, 1, 102, 104, 107] ?_))))))))
  first | refine W.condD rfl (fun hc12 => ?_) (fun hc12 => ?_) | (refine W.cond rfl (fun hc12 => ?_) (fun hc12 => ?_) <;> try simp only [Bool.or_eq_true, Bool.and_eq_true, Bool.not_eq_true', Bool.not_eq_false', decide_eq_true_eq, Bool.or_eq_false_iff, Bool.and_eq_false_iff, decide_eq_false_iff_not, beq_iff_eq, beq_eq_false_iff_ne, ne_eq, Decidable.not_not] at hc12)
  ·
   obtain ⟨u, hu⟩ : ∃ u, x.us[z.j]? = some u := ⟨_, List.getElem?_eq_getElem (show z.j < x.us.length by first | omega | (simp only [List.length_map] at *; omega))⟩
   have hlu : (x.us.map U.c)[z.j]? = some u.c := by simp [hu]
   have hwl := wo_len x.us it z.j
   refine W.skip (N.next (W.seq (W.block (q_sr (q_q (q_fa fo59_1) (q_q (q_l 102 u41) (q_q q_mv ?_)))))))
   refine q_q (q_ix u41 sz48) (q_q (q_fa fo48_0) ?_)
   refine q_q (by first | exact (by first | exact q_r1 1 u3 | exact q_r1 102 u3 | exact q_r1 104 u3 | exact q_r1 107 u3) | exact (by first | exact q_rF 1 0 u3 | exact q_rF 102 0 u3 | exact q_rF 104 0 u3 | exact q_rF 107 0 u3)) ?_
   refine q_q q_mv (q_q (q_b BinV.neq) (q_nn (q_k [1, 2, 4, 5, 6, 22] [0, 1, 102, 104, 107] ?_)))
   first | refine W.condD rfl (fun hc22 => ?_) (fun hc22 => ?_) | (refine W.cond rfl (fun hc22 => ?_) (fun hc22 => ?_) <;> try simp only [Bool.or_eq_true, Bool.and_eq_true, Bool.not_eq_true', Bool.not_eq_false', decide_eq_true_eq, Bool.or_eq_false_iff, Bool.and_eq_false_iff, decide_eq_false_iff_not, beq_iff_eq, beq_eq_false_iff_ne, ne_eq, Decidable.not_not] at hc22)
   ·
    refine W.region (q_q q_mv (q_q (q_fa fo59_1) (q_q (q_l 102 u41) (q_q q_mv ?_))))
    refine q_q (q_ix u41 sz48) ?_
    refine q_q (by first | exact q_rA 1 u48 sz48 | exact q_rA 102 u48 sz48 | exact q_rA 104 u48 sz48 | exact q_rA 107 u48 sz48) ?_
    refine q_e (Eff.buildSlice 129 u41 sz48 zc48 rfl rfl (.cons rfl rfl .nil) rfl) ?_
    rintro _ _ ⟨b29, rfl, rfl⟩
    refine q_e (Eff.appendE (tc := 107) (sc := 129) (ms := [u]) U.c u41 el48 rfl rfl rfl rfl hO rfl (Own.one (l := u.c) rfl (U.one u) rfl).sl rfl (fun a _ => U.one a) (by decide) (by simp; omega) (by simp [maxLen]; omega)) ?_
    rintro _ _ ⟨Ha, pa, ca, rfl, hOa, rfl⟩
    refine q_q q_as (RL.nil (N.block_normal (N.next (q_k [1, 2, 4, 5, 6] [0, 1, 102, 104, 107, 129] ?_))))
    refine W.region (q_q q_mv ?_)
    refine q_q q_ad (q_q q_as (RL.nil ?_))
    exact N.famK ⟨z.j + 1, Ha, pa, ca⟩ ⟨⟨by dsimp only; omega, by dsimp only; rw [wo_in hu hc22]; exact hOa⟩, by dsimp only; omega⟩ (.as rfl (by rw [wo_in hu hc22]) (q_a .nil)) (.to rfl) (.to rfl) (.to rfl)
   ·
    refine W.skip (N.block_normal (N.next (W.region (q_q q_mv ?_))))
    refine q_q q_ad (q_q q_as (RL.nil ?_))
    exact N.famK ⟨z.j + 1, z.H, z.p, z.c⟩ ⟨⟨by dsimp only; omega, by dsimp only; rw [wo_out hu (Classical.not_not.1 hc22)]; exact hO⟩, by dsimp only; omega⟩ (.as rfl (by rw [wo_out hu (Classical.not_not.1 hc22)]) (q_a .nil)) (.to rfl) (.to rfl) (.to rfl)
  ·
   have hend : z.j = x.us.length := by omega
   rw [hend, List.take_length] at hO ⊢
   refine W.exit (N.then_exit (N.then_exit (N.block_eq (N.next (q_sr (q_q q_mv (q_q (q_fa fo59_1) (q_s 102 sz41 ?_))))))))
   refine q_nn (q_k [2, 4] [0, 1, 102, 104, 107] ?_)
   refine q_sr (q_q (q_lw 102 u59 sz59) (q_s 104 sz59 ?_))
   refine q_nn (W.ret ?_)
   exact q_r [107] (.cons (q_rc 104 u59 sz59) .nil) rfl rfl rfl ⟨z.H, z.p, z.c, rfl, hO.sl, rfl⟩
set_option maxRecDepth 100000 in
set_option maxHeartbeats 1600000 in
theorem rfits_ct (m : Md) (H1 : PH) (hM : m.In H1) (c : Cm) : Ct Tryz.prog 103 [.agg [.slice m.psi m.si.length m.csi, .slice m.pfe m.fe.length m.cfe, .slice m.prk m.rk.length m.crk, .slice m.pmc m.mc.length m.cmc, .slice m.pln m.ln.length m.cln, .slice m.pis m.is.length m.cis, .int .i64 m.da, .int .i64 m.sl, .int .i64 m.re, .int .i64 m.fa, .slice m.prl m.rl.length m.crl].toArray, .agg [.int .i64 c.kd, .int .i64 c.it, .int .i64 c.rp, .int .i64 c.va].toArray] [H1] (fun v Hs => v = .bool (decide (kdFit (kdOf m c.it) c)) ∧ Hs = [H1]) := by
  refine Ct.body Tryz.func103 rfl Tryz.ntmps103 rfl ?_
  intro E F
  refine q_sr ?_
  refine q_bx 102 fun b2 => ?_
  refine q_bx 103 fun b3 => ?_
  refine q_an ?_
  refine q_sr (q_q (q_lw 102 u29 sz29) (q_q (q_fa fo36_1) (q_q (q_l 103 u3) ?_)))
  refine q_e (q_c ent47 [1] [1] (rkind_ct m H1 hM c.it)) ?_
  rintro _ _ ⟨_, ⟨rfl, rfl⟩, rfl⟩
  refine q_an ?_
  refine q_k [3, 5] [0, 1, 102, 103] ?_
  refine W.seq (q_sr (q_q (q_fa fo36_0) (q_q (q_l 103 u3) (q_nn (W.block (W.seq (q_sr (q_q (q_b BinV.eql) (q_an ?_)))))))))
  first | refine W.condD rfl (fun hc12 => ?_) (fun hc12 => ?_) | (refine W.cond rfl (fun hc12 => ?_) (fun hc12 => ?_) <;> try simp only [Bool.or_eq_true, Bool.and_eq_true, Bool.not_eq_true', Bool.not_eq_false', decide_eq_true_eq, Bool.or_eq_false_iff, Bool.and_eq_false_iff, decide_eq_false_iff_not, beq_iff_eq, beq_eq_false_iff_ne, ne_eq, Decidable.not_not] at hc12)
  ·
   refine W.skip (N.next ?_)
   first | refine W.condD rfl (fun hc12 => ?_) (fun hc12 => ?_) | (refine W.cond rfl (fun hc12 => ?_) (fun hc12 => ?_) <;> try simp only [Bool.or_eq_true, Bool.and_eq_true, Bool.not_eq_true', Bool.not_eq_false', decide_eq_true_eq, Bool.or_eq_false_iff, Bool.and_eq_false_iff, decide_eq_false_iff_not, beq_iff_eq, beq_eq_false_iff_ne, ne_eq, Decidable.not_not] at hc12)
   ·
    refine q_sr (q_q q_mv (q_q (q_b BinV.eql) (q_an ?_)))
    refine q_k [4] [0, 1, 102, 103] ?_
    refine W.ret (N.block_ret (N.then_ret ?_))
    exact q_r [1] (.cons (.tmp rfl) .nil) rfl rfl rfl ⟨by show Value.bool _ = Value.bool _; congr 1; rw [Bool.eq_iff_iff]; simp only [Bool.or_eq_true, Bool.false_eq_true, false_iff, decide_eq_true_eq]; unfold kdFit; omega, rfl⟩
   ·
    refine q_sr (q_q (q_b BinV.eql) (q_an ?_))
    refine q_k [5, 11, 17] [0, 1, 102, 103] ?_
    first | refine W.condD rfl (fun hc17 => ?_) (fun hc17 => ?_) | (refine W.cond rfl (fun hc17 => ?_) (fun hc17 => ?_) <;> try simp only [Bool.or_eq_true, Bool.and_eq_true, Bool.not_eq_true', Bool.not_eq_false', decide_eq_true_eq, Bool.or_eq_false_iff, Bool.and_eq_false_iff, decide_eq_false_iff_not, beq_iff_eq, beq_eq_false_iff_ne, ne_eq, Decidable.not_not] at hc17)
    ·
     refine q_sr (q_q q_mv (q_q (q_b BinV.eql) (q_an ?_)))
     refine q_k [4] [0, 1, 102, 103] ?_
     refine W.ret (N.block_ret (N.then_ret ?_))
     exact q_r [1] (.cons (.tmp rfl) .nil) rfl rfl rfl ⟨by show Value.bool _ = Value.bool _; congr 1; rw [Bool.eq_iff_iff]; simp only [Bool.or_eq_true, Bool.false_eq_true, false_iff, decide_eq_true_eq]; unfold kdFit; omega, rfl⟩
    ·
     refine q_sr (q_q (q_b BinV.eql) (q_an ?_))
     first | refine W.condD rfl (fun hc21 => ?_) (fun hc21 => ?_) | (refine W.cond rfl (fun hc21 => ?_) (fun hc21 => ?_) <;> try simp only [Bool.or_eq_true, Bool.and_eq_true, Bool.not_eq_true', Bool.not_eq_false', decide_eq_true_eq, Bool.or_eq_false_iff, Bool.and_eq_false_iff, decide_eq_false_iff_not, beq_iff_eq, beq_eq_false_iff_ne, ne_eq, Decidable.not_not] at hc21)
     ·
      refine q_sr (q_q q_mv (q_q (q_b BinV.eql) (q_an ?_)))
      refine q_k [4] [0, 1, 102, 103] ?_
      refine W.ret (N.block_ret (N.then_ret ?_))
      exact q_r [1] (.cons (.tmp rfl) .nil) rfl rfl rfl ⟨by show Value.bool _ = Value.bool _; congr 1; rw [Bool.eq_iff_iff]; simp only [Bool.or_eq_true, Bool.false_eq_true, false_iff, decide_eq_true_eq]; unfold kdFit; omega, rfl⟩
     ·
      refine W.seq (q_sr (q_q (q_b BinV.eql) (q_an ?_)))
      refine q_k [5, 11, 25] [0, 1, 102, 103] ?_
      first | refine W.condD rfl (fun hc25 => ?_) (fun hc25 => ?_) | (refine W.cond rfl (fun hc25 => ?_) (fun hc25 => ?_) <;> try simp only [Bool.or_eq_true, Bool.and_eq_true, Bool.not_eq_true', Bool.not_eq_false', decide_eq_true_eq, Bool.or_eq_false_iff, Bool.and_eq_false_iff, decide_eq_false_iff_not, beq_iff_eq, beq_eq_false_iff_ne, ne_eq, Decidable.not_not] at hc25)
      ·
       refine W.skip (N.next ?_)
       first | refine W.condD rfl (fun hc25 => ?_) (fun hc25 => ?_) | (refine W.cond rfl (fun hc25 => ?_) (fun hc25 => ?_) <;> try simp only [Bool.or_eq_true, Bool.and_eq_true, Bool.not_eq_true', Bool.not_eq_false', decide_eq_true_eq, Bool.or_eq_false_iff, Bool.and_eq_false_iff, decide_eq_false_iff_not, beq_iff_eq, beq_eq_false_iff_ne, ne_eq, Decidable.not_not] at hc25)
       ·
        refine q_sr (q_q q_mv (q_q (q_b BinV.eql) (q_q q_mv ?_)))
        refine' q_or 30 33 3 [5, 11, 25, 28, 29] [0, 1, 102, 103] ?_ ?_ ?_
        rotate_left 1
        ·
         intro hg30
         refine q_g q_mv (q_g (q_b BinV.eql) (q_q Yld.pk ?_))
         exact q_m
        ·
         intro hg30
         refine q_gs (q_gs (q_q Yld.pk ?_))
         exact q_m
        refine q_an ?_
        refine q_k [4] [0, 1, 102, 103] ?_
        refine W.ret (N.block_ret (N.then_ret ?_))
        exact q_r [1] (.cons (.tmp rfl) .nil) rfl rfl rfl ⟨by show Value.bool _ = Value.bool _; congr 1; rw [Bool.eq_iff_iff]; simp only [Bool.or_eq_true, Bool.false_eq_true, false_iff, decide_eq_true_eq]; unfold kdFit; omega, rfl⟩
       ·
        refine W.skip (N.block_normal (N.next (q_sr (q_an ?_))))
        refine W.ret ?_
        exact q_r [1] (.cons (.tmp rfl) .nil) rfl rfl rfl ⟨by show Value.bool _ = Value.bool _; congr 1; rw [Bool.eq_iff_iff]; simp only [Bool.or_eq_true, Bool.false_eq_true, false_iff, decide_eq_true_eq]; unfold kdFit; omega, rfl⟩
      ·
       refine W.region (q_q (q_b BinV.eql) (q_an ?_))
       first | refine W.condD rfl (fun hc25 => ?_) (fun hc25 => ?_) | (refine W.cond rfl (fun hc25 => ?_) (fun hc25 => ?_) <;> try simp only [Bool.or_eq_true, Bool.and_eq_true, Bool.not_eq_true', Bool.not_eq_false', decide_eq_true_eq, Bool.or_eq_false_iff, Bool.and_eq_false_iff, decide_eq_false_iff_not, beq_iff_eq, beq_eq_false_iff_ne, ne_eq, Decidable.not_not] at hc25)
       ·
        refine q_sr (q_q q_mv (q_q (q_b BinV.eql) (q_q q_mv ?_)))
        refine' q_or 30 33 3 [5, 11, 25, 27, 28, 29] [0, 1, 102, 103] ?_ ?_ ?_
        rotate_left 1
        ·
         intro hg30
         refine q_g q_mv (q_g (q_b BinV.eql) (q_q Yld.pk ?_))
         exact q_m
        ·
         intro hg30
         refine q_gs (q_gs (q_q Yld.pk ?_))
         exact q_m
        refine q_an ?_
        refine q_k [4] [0, 1, 102, 103] ?_
        refine W.ret (N.block_ret (N.then_ret ?_))
        exact q_r [1] (.cons (.tmp rfl) .nil) rfl rfl rfl ⟨by show Value.bool _ = Value.bool _; congr 1; rw [Bool.eq_iff_iff]; simp only [Bool.or_eq_true, Bool.false_eq_true, false_iff, decide_eq_true_eq]; unfold kdFit; omega, rfl⟩
       ·
        refine W.skip (N.block_normal (N.next ?_))
        refine W.keep .nil (.of [0, 1, 102, 103] rfl) (q_sr (q_an ?_))
        refine W.ret ?_
        exact q_r [1] (.cons (.tmp rfl) .nil) rfl rfl rfl ⟨by show Value.bool _ = Value.bool _; congr 1; rw [Bool.eq_iff_iff]; simp only [Bool.or_eq_true, Bool.false_eq_true, false_iff, decide_eq_true_eq]; unfold kdFit; omega, rfl⟩
  ·
   refine W.region (q_q (q_b BinV.eql) (q_an ?_))
   refine q_k [5, 11, 12] [0, 1, 102, 103] ?_
   first | refine W.condD rfl (fun hc12 => ?_) (fun hc12 => ?_) | (refine W.cond rfl (fun hc12 => ?_) (fun hc12 => ?_) <;> try simp only [Bool.or_eq_true, Bool.and_eq_true, Bool.not_eq_true', Bool.not_eq_false', decide_eq_true_eq, Bool.or_eq_false_iff, Bool.and_eq_false_iff, decide_eq_false_iff_not, beq_iff_eq, beq_eq_false_iff_ne, ne_eq, Decidable.not_not] at hc12)
   ·
    refine q_sr (q_q q_mv (q_q (q_b BinV.eql) (q_an ?_)))
    refine q_k [4] [0, 1, 102, 103] ?_
    refine W.ret (N.block_ret (N.then_ret ?_))
    exact q_r [1] (.cons (.tmp rfl) .nil) rfl rfl rfl ⟨by show Value.bool _ = Value.bool _; congr 1; rw [Bool.eq_iff_iff]; simp only [Bool.or_eq_true, Bool.false_eq_true, false_iff, decide_eq_true_eq]; unfold kdFit; omega, rfl⟩
   ·
    refine q_sr (q_q (q_b BinV.eql) (q_an ?_))
    first | refine W.condD rfl (fun hc17 => ?_) (fun hc17 => ?_) | (refine W.cond rfl (fun hc17 => ?_) (fun hc17 => ?_) <;> try simp only [Bool.or_eq_true, Bool.and_eq_true, Bool.not_eq_true', Bool.not_eq_false', decide_eq_true_eq, Bool.or_eq_false_iff, Bool.and_eq_false_iff, decide_eq_false_iff_not, beq_iff_eq, beq_eq_false_iff_ne, ne_eq, Decidable.not_not] at hc17)
    ·
     refine q_sr (q_q q_mv (q_q (q_b BinV.eql) (q_an ?_)))
     refine q_k [4] [0, 1, 102, 103] ?_
     refine W.ret (N.block_ret (N.then_ret ?_))
     exact q_r [1] (.cons (.tmp rfl) .nil) rfl rfl rfl ⟨by show Value.bool _ = Value.bool _; congr 1; rw [Bool.eq_iff_iff]; simp only [Bool.or_eq_true, Bool.false_eq_true, false_iff, decide_eq_true_eq]; unfold kdFit; omega, rfl⟩
    ·
     refine q_sr (q_q (q_b BinV.eql) (q_an ?_))
     refine q_k [5, 11, 21] [0, 1, 102, 103] ?_
     first | refine W.condD rfl (fun hc21 => ?_) (fun hc21 => ?_) | (refine W.cond rfl (fun hc21 => ?_) (fun hc21 => ?_) <;> try simp only [Bool.or_eq_true, Bool.and_eq_true, Bool.not_eq_true', Bool.not_eq_false', decide_eq_true_eq, Bool.or_eq_false_iff, Bool.and_eq_false_iff, decide_eq_false_iff_not, beq_iff_eq, beq_eq_false_iff_ne, ne_eq, Decidable.not_not] at hc21)
     ·
      refine q_sr (q_q q_mv (q_q (q_b BinV.eql) (q_an ?_)))
      refine q_k [4] [0, 1, 102, 103] ?_
      refine W.ret (N.block_ret (N.then_ret ?_))
      exact q_r [1] (.cons (.tmp rfl) .nil) rfl rfl rfl ⟨by show Value.bool _ = Value.bool _; congr 1; rw [Bool.eq_iff_iff]; simp only [Bool.or_eq_true, Bool.false_eq_true, false_iff, decide_eq_true_eq]; unfold kdFit; omega, rfl⟩
     ·
      refine W.seq (q_sr (q_q (q_b BinV.eql) (q_an ?_)))
      first | refine W.condD rfl (fun hc25 => ?_) (fun hc25 => ?_) | (refine W.cond rfl (fun hc25 => ?_) (fun hc25 => ?_) <;> try simp only [Bool.or_eq_true, Bool.and_eq_true, Bool.not_eq_true', Bool.not_eq_false', decide_eq_true_eq, Bool.or_eq_false_iff, Bool.and_eq_false_iff, decide_eq_false_iff_not, beq_iff_eq, beq_eq_false_iff_ne, ne_eq, Decidable.not_not] at hc25)
      ·
       refine W.skip (N.next ?_)
       first | refine W.condD rfl (fun hc25 => ?_) (fun hc25 => ?_) | (refine W.cond rfl (fun hc25 => ?_) (fun hc25 => ?_) <;> try simp only [Bool.or_eq_true, Bool.and_eq_true, Bool.not_eq_true', Bool.not_eq_false', decide_eq_true_eq, Bool.or_eq_false_iff, Bool.and_eq_false_iff, decide_eq_false_iff_not, beq_iff_eq, beq_eq_false_iff_ne, ne_eq, Decidable.not_not] at hc25)
       ·
        refine q_sr (q_q q_mv (q_q (q_b BinV.eql) (q_q q_mv ?_)))
        refine' q_or 30 33 3 [5, 11, 21, 25, 26, 28, 29] [0, 1, 102, 103] ?_ ?_ ?_
        rotate_left 1
        ·
         intro hg30
         refine q_g q_mv (q_g (q_b BinV.eql) (q_q Yld.pk ?_))
         exact q_m
        ·
         intro hg30
         refine q_gs (q_gs (q_q Yld.pk ?_))
         exact q_m
        refine q_an ?_
        refine q_k [4] [0, 1, 102, 103] ?_
        refine W.ret (N.block_ret (N.then_ret ?_))
        exact q_r [1] (.cons (.tmp rfl) .nil) rfl rfl rfl ⟨by show Value.bool _ = Value.bool _; congr 1; rw [Bool.eq_iff_iff]; simp only [Bool.or_eq_true, Bool.false_eq_true, false_iff, decide_eq_true_eq]; unfold kdFit; omega, rfl⟩
       ·
        refine W.skip (N.block_normal (N.next ?_))
        refine W.keep .nil (.of [0, 1, 102, 103] rfl) (q_sr (q_an ?_))
        refine W.ret ?_
        exact q_r [1] (.cons (.tmp rfl) .nil) rfl rfl rfl ⟨by show Value.bool _ = Value.bool _; congr 1; rw [Bool.eq_iff_iff]; simp only [Bool.or_eq_true, Bool.false_eq_true, false_iff, decide_eq_true_eq]; unfold kdFit; omega, rfl⟩
      ·
       refine W.region (q_q (q_b BinV.eql) (q_an ?_))
       refine q_k [5, 25] [0, 1, 102, 103] ?_
       first | refine W.condD rfl (fun hc25 => ?_) (fun hc25 => ?_) | (refine W.cond rfl (fun hc25 => ?_) (fun hc25 => ?_) <;> try simp only [Bool.or_eq_true, Bool.and_eq_true, Bool.not_eq_true', Bool.not_eq_false', decide_eq_true_eq, Bool.or_eq_false_iff, Bool.and_eq_false_iff, decide_eq_false_iff_not, beq_iff_eq, beq_eq_false_iff_ne, ne_eq, Decidable.not_not] at hc25)
       ·
        refine q_sr (q_q q_mv (q_q (q_b BinV.eql) (q_q q_mv ?_)))
        refine' q_or 30 33 3 [5, 25, 28, 29] [0, 1, 102, 103] ?_ ?_ ?_
        rotate_left 1
        ·
         intro hg30
         refine q_g q_mv (q_g (q_b BinV.eql) (q_q Yld.pk ?_))
         exact q_m
        ·
         intro hg30
         refine q_gs (q_gs (q_q Yld.pk ?_))
         exact q_m
        refine q_an ?_
        refine q_k [4] [0, 1, 102, 103] ?_
        refine W.ret (N.block_ret (N.then_ret ?_))
        exact q_r [1] (.cons (.tmp rfl) .nil) rfl rfl rfl ⟨by show Value.bool _ = Value.bool _; congr 1; rw [Bool.eq_iff_iff]; simp only [Bool.or_eq_true, Bool.false_eq_true, false_iff, decide_eq_true_eq]; unfold kdFit; omega, rfl⟩
       ·
        refine W.skip (N.block_normal (N.next (q_sr (q_an ?_))))
        refine W.ret ?_
        exact q_r [1] (.cons (.tmp rfl) .nil) rfl rfl rfl ⟨by show Value.bool _ = Value.bool _; congr 1; rw [Bool.eq_iff_iff]; simp only [Bool.or_eq_true, Bool.false_eq_true, false_iff, decide_eq_true_eq]; unfold kdFit; omega, rfl⟩
end Go.Proofs.YtboapdcmaeojgaaGreatDoor
namespace Go.Proofs.YtboapdcmaeojgaaGreatDoor
open SL Cat Fen
set_option linter.unusedVariables false
set_option linter.unusedSimpArgs false
theorem ent52 : Ent Tryz.prog 52 := ⟨_, _, Tryz.func52, by kernel_rfl, rfl⟩
theorem ent147 : Ent Tryz.prog 147 := ⟨_, _, Tryz.func147, by kernel_rfl, rfl⟩
theorem ent148 : Ent Tryz.prog 148 := ⟨_, _, Tryz.func148, by kernel_rfl, rfl⟩
theorem ent149 : Ent Tryz.prog 149 := ⟨_, _, Tryz.func149, by kernel_rfl, rfl⟩
theorem fvU_t {us : List U} {it : Int} {u : U} (h : fvU us it = (u, true)) : fndU us it = some u := by
  unfold fvU at h
  split at h
  · rename_i w hw; rw [hw]; cases h; rfl
  · cases h
theorem fvU_f {us : List U} {it : Int} {u : U} (h : fvU us it = (u, false)) : fndU us it = none := by
  unfold fvU at h
  split at h
  · cases h
  · assumption
set_option maxRecDepth 100000 in
set_option maxHeartbeats 3200000 in
theorem rexecute_ct (m : Md) (H1 : PH) (hM : m.In H1) (x : Rt) (mach : Int) (hx : x.In) (c : Cm) (hI : Inv (kdOf m) mach x.us) (hf : Fits (kdOf m c.it) mach c) (hb : x.us.length ≤ 900000) : Ct Tryz.prog 104 [.agg [.slice m.psi m.si.length m.csi, .slice m.pfe m.fe.length m.cfe, .slice m.prk m.rk.length m.crk, .slice m.pmc m.mc.length m.cmc, .slice m.pln m.ln.length m.cln, .slice m.pis m.is.length m.cis, .int .i64 m.da, .int .i64 m.sl, .int .i64 m.re, .int .i64 m.fa, .slice m.prl m.rl.length m.crl].toArray, .agg [.int .i64 mach, .slice x.pu x.us.length x.cu, .int .i64 x.gen, .slice x.ps x.st.length x.cs, .slice x.pv x.va.length x.cv, .slice x.pc x.cl.length x.cc].toArray, .agg [.int .i64 c.kd, .int .i64 c.it, .int .i64 c.rp, .int .i64 c.va].toArray] [H1, x.HU, x.HC] (fun v Hs => ∃ H' p' c', v = .tuple [.agg [.int .i64 mach, .slice (x.setU p' c' (execP (decide (kdOf m c.it = 2)) x.us x.cl c).1 H').pu (x.setU p' c' (execP (decide (kdOf m c.it = 2)) x.us x.cl c).1 H').us.length (x.setU p' c' (execP (decide (kdOf m c.it = 2)) x.us x.cl c).1 H').cu, .int .i64 (x.setU p' c' (execP (decide (kdOf m c.it = 2)) x.us x.cl c).1 H').gen, .slice (x.setU p' c' (execP (decide (kdOf m c.it = 2)) x.us x.cl c).1 H').ps (x.setU p' c' (execP (decide (kdOf m c.it = 2)) x.us x.cl c).1 H').st.length (x.setU p' c' (execP (decide (kdOf m c.it = 2)) x.us x.cl c).1 H').cs, .slice (x.setU p' c' (execP (decide (kdOf m c.it = 2)) x.us x.cl c).1 H').pv (x.setU p' c' (execP (decide (kdOf m c.it = 2)) x.us x.cl c).1 H').va.length (x.setU p' c' (execP (decide (kdOf m c.it = 2)) x.us x.cl c).1 H').cv, .slice (x.setU p' c' (execP (decide (kdOf m c.it = 2)) x.us x.cl c).1 H').pc (x.setU p' c' (execP (decide (kdOf m c.it = 2)) x.us x.cl c).1 H').cl.length (x.setU p' c' (execP (decide (kdOf m c.it = 2)) x.us x.cl c).1 H').cc].toArray, .int .i64 (execP (decide (kdOf m c.it = 2)) x.us x.cl c).2.1, .int .i64 (execP (decide (kdOf m c.it = 2)) x.us x.cl c).2.2].toArray ∧ Sl H' p' c' 5 ((execP (decide (kdOf m c.it = 2)) x.us x.cl c).1.map U.c) ∧ Hs = [H1, H', x.HC]) := by
  refine Ct.body Tryz.func104 rfl Tryz.ntmps104 rfl ?_
  intro E F
  have hkf := hf.1
  unfold kdFit at hkf
  refine q_sr ?_
  refine q_bx 103 fun b3 => ?_
  refine q_bx 104 fun b4 => ?_
  refine q_bx 105 fun b5 => ?_
  refine q_al 106 zc59 fun b6 => ?_
  refine q_q q_as (q_an ?_)
  refine q_k [3, 4, 5, 6] [0, 1, 2, 3, 103, 104, 105, 106] ?_
  refine q_sr (q_q (q_lw 104 u59 sz59) (q_q (q_fa fo36_1) (q_q (q_l 105 u3) ?_)))
  refine q_e (q_c ent52 [2] [2] (rfind_ct x mach hx c.it)) ?_
  rintro _ _ ⟨_, ⟨rfl, rfl⟩, rfl⟩
  obtain ⟨⟨u, ub⟩, hfu⟩ : ∃ q, fvU x.us c.it = q := ⟨_, rfl⟩
  rw [hfu]
  refine q_q q_mv (q_q q_x (q_q q_x ?_))
  refine q_al 109 zc48 fun b9 => ?_
  refine q_s 109 sz48 ?_
  refine q_an ?_
  refine q_k [3, 4, 5, 6, 9, 10] [0, 1, 2, 3, 103, 104, 105, 106, 109] ?_
  refine W.seq (q_sr (q_q (q_fa fo36_0) (q_q (q_l 105 u3) (q_nn (W.block (q_sr (q_q (q_b BinV.eql) (q_an ?_))))))))
  first | refine W.condD rfl (fun hc23 => ?_) (fun hc23 => ?_) | (refine W.cond rfl (fun hc23 => ?_) (fun hc23 => ?_) <;> try simp only [Bool.or_eq_true, Bool.and_eq_true, Bool.not_eq_true', Bool.not_eq_false', decide_eq_true_eq, Bool.or_eq_false_iff, Bool.and_eq_false_iff, decide_eq_false_iff_not, beq_iff_eq, beq_eq_false_iff_ne, ne_eq, Decidable.not_not] at hc23)
  ·
   have hk := hc23
   refine q_sr (q_q (q_lw 104 u59 sz59) (q_q (q_fa fo36_1) (q_q (q_l 105 u3) (q_q (q_fa fo36_2) (q_q (q_l 105 u3) ?_)))))
   refine q_e (q_c ent147 [2] [2] (rreplica_ct x mach hx (kdOf m) hI c.it c.rp)) ?_
   rintro _ _ ⟨_, ⟨y, mx, rfl, hR, rfl⟩, rfl⟩
   refine q_q q_mv (q_q q_x (q_q q_x (q_q q_x ?_)))
   refine q_al 111 zc48 fun b11 => ?_
   refine q_s 111 sz48 ?_
   refine q_q q_as (q_an ?_)
   refine q_k [4, 5, 6, 9, 10, 11, 12, 13] [0, 1, 2, 3, 103, 104, 105, 106, 109, 111] ?_
   refine W.seq (q_sr (q_q q_mv (q_q q_mv ?_)))
   refine' q_and 36 40 4 [4, 5, 6, 9, 10, 11, 12, 13, 35] [0, 1, 2, 3, 103, 104, 105, 106, 109, 111] ?_ ?_ ?_
   rotate_left 1
   ·
    intro hg36
    refine q_g (q_fa fo48_2) (q_g (q_l 111 u3) (q_g (q_b BinV.eql) (q_q Yld.pk ?_)))
    exact q_m
   ·
    intro hg36
    repeat refine q_gs ?_
    refine q_q Yld.pk ?_
    exact q_m
   refine q_nn ?_
   refine W.cond rfl (fun hc40 => ?_) (fun hc40 => ?_)
   ·
    obtain ⟨y2, rfl⟩ : ∃ y2, y = some y2 := by
      cases y with
      | none => cases hc40
      | some y2 => exact ⟨_, rfl⟩
    have hex : (execP (decide (kdOf m c.it = 2)) x.us x.cl c) = (x.us, 0, 0) := exO_run hI hf hk hR (by simpa using hc40)
    refine q_sr (q_q (q_lw 104 u59 sz59) (q_s 106 sz59 ?_))
    refine q_q q_as (q_an ?_)
    refine q_k [6, 7, 8] [0, 1, 2, 3, 103, 104, 105, 106, 109, 111] ?_
    refine W.ret (N.then_ret (N.block_ret (N.then_ret ?_)))
    exact q_r [1, 2, 3] (.cons (q_rc 106 u59 sz59) (.cons (.tmp rfl) (.cons (.tmp rfl) .nil))) rfl rfl rfl ⟨x.HU, x.pu, x.cu, by rw [hex]; rfl, by rw [hex]; exact hx.u, rfl⟩
   ·
    refine W.skip (N.next (W.seq (q_sr (q_q q_mv (q_q q_mv ?_)))))
    refine' q_or 43 48 5 [4, 5, 6, 9, 10, 11, 12, 13, 35, 40, 42] [0, 1, 2, 3, 103, 104, 105, 106, 109, 111] ?_ ?_ ?_
    rotate_left 1
    ·
     intro hg43
     refine q_g q_mv (q_g (q_fa fo36_2) (q_g (q_l 105 u3) (q_g (q_b BinV.gtr) (q_q Yld.pk ?_))))
     exact q_m
    ·
     intro hg43
     repeat refine q_gs ?_
     refine q_q Yld.pk ?_
     exact q_m
    refine q_nn (q_k [4, 5, 6, 9, 10, 48] [0, 1, 2, 3, 103, 104, 105, 106, 109, 111] ?_)
    refine W.cond rfl (fun hc48 => ?_) (fun hc48 => ?_)
    ·
     have hex : (execP (decide (kdOf m c.it = 2)) x.us x.cl c) = (x.us, 9, 0) := exO_bad hI hf hk hR (by
       cases y with
       | none => exact .inr ⟨rfl, by simpa using hc48⟩
       | some y2 => exact .inl ⟨y2, rfl, fun h => by simp [h] at hc40⟩)
     refine q_sr (q_q (q_lw 104 u59 sz59) (q_s 106 sz59 ?_))
     refine q_q q_as (q_an ?_)
     refine q_k [6, 7, 8] [0, 1, 2, 3, 103, 104, 105, 106, 109, 111] ?_
     refine W.ret (N.then_ret (N.block_ret (N.then_ret ?_)))
     exact q_r [1, 2, 3] (.cons (q_rc 106 u59 sz59) (.cons (.tmp rfl) (.cons (.tmp rfl) .nil))) rfl rfl rfl ⟨x.HU, x.pu, x.cu, by rw [hex]; rfl, by rw [hex]; exact hx.u, rfl⟩
    ·
     obtain rfl : y = none := by
       cases y with
       | none => rfl
       | some y2 => cases hc48
     have hmx : ¬ c.rp < mx := by simpa using hc48
     refine W.skip (N.next (W.seq (q_sr (q_q q_mv (q_nn ?_)))))
     refine W.cond rfl (fun hc50 => ?_) (fun hc50 => ?_)
     ·
      have hfu2 := fvU_t (hfu.trans (congrArg (Prod.mk u) (show ub = true from hc50)))
      have hex : (execP (decide (kdOf m c.it = 2)) x.us x.cl c) = (putR (putR x.us { u with st := 3 }) ⟨c.it, c.rp, 0, 0, 0⟩, 0, 0) := exO_put2 hI hk hR hmx hfu2
      refine W.region (q_q (q_lw 104 u59 sz59) (q_q (q_lw 109 u48 sz48) ?_))
      refine q_e (q_c ent148 [2] [2] (rwith_ct x mach hx u 3 (by omega))) ?_
      rintro _ _ ⟨_, ⟨Hw, pw, cw, rfl, hSw, rfl⟩, rfl⟩
      refine q_s 104 sz59 ?_
      refine q_nn (q_k [4, 5, 6] [0, 1, 2, 3, 103, 104, 105, 106, 109, 111] ?_)
      refine q_sr (q_q (q_lw 104 u59 sz59) (q_q (q_fa fo36_1) (q_q (q_l 105 u3) (q_q (q_fa fo36_2) (q_q (q_l 105 u3) ?_)))))
      refine q_q (Yld.buildP lay48 (.cons rfl rfl (.cons rfl rfl .nil)) rfl) ?_
      refine q_e (q_c ent148 [2] [2] (rwith_ct (x.setU pw cw (putR x.us { u with st := 3 }) Hw) mach (hx.setU hSw) ⟨c.it, c.rp, 0, 0, 0⟩ 0 (by show (putR x.us { u with st := 3 }).length ≤ 1000000; have := putR_len x.us { u with st := 3 }; omega))) ?_
      rintro _ _ ⟨_, ⟨Hz, pz, cz, rfl, hSz, rfl⟩, rfl⟩
      refine q_s 106 sz59 ?_
      refine q_q q_as (q_an ?_)
      refine q_k [6, 7, 8] [0, 1, 2, 3, 103, 104, 105, 106, 109, 111] ?_
      refine W.ret (N.block_ret (N.then_ret ?_))
      exact q_r [1, 2, 3] (.cons (q_rc 106 u59 sz59) (.cons (.tmp rfl) (.cons (.tmp rfl) .nil))) rfl rfl rfl ⟨Hz, pz, cz, by rw [hex]; rfl, by rw [hex]; exact hSz, rfl⟩
     ·
      have hfu2 := fvU_f (hfu.trans (congrArg (Prod.mk u) (show ub = false from hc50)))
      have hex : (execP (decide (kdOf m c.it = 2)) x.us x.cl c) = (putR x.us ⟨c.it, c.rp, 0, 0, 0⟩, 0, 0) := exO_put hk hR hmx hfu2
      refine W.skip (N.next (q_k [4, 5, 6] [0, 1, 2, 3, 103, 104, 105, 106, 109, 111] ?_))
      refine q_sr (q_q (q_lw 104 u59 sz59) (q_q (q_fa fo36_1) (q_q (q_l 105 u3) (q_q (q_fa fo36_2) (q_q (q_l 105 u3) ?_)))))
      refine q_q (Yld.buildP lay48 (.cons rfl rfl (.cons rfl rfl .nil)) rfl) ?_
      refine q_e (q_c ent148 [2] [2] (rwith_ct x mach hx ⟨c.it, c.rp, 0, 0, 0⟩ 0 (by omega))) ?_
      rintro _ _ ⟨_, ⟨Hw, pw, cw, rfl, hSw, rfl⟩, rfl⟩
      refine q_s 106 sz59 ?_
      refine q_q q_as (q_an ?_)
      refine q_k [6, 7, 8] [0, 1, 2, 3, 103, 104, 105, 106, 109, 111] ?_
      refine W.ret (N.block_ret (N.then_ret ?_))
      exact q_r [1, 2, 3] (.cons (q_rc 106 u59 sz59) (.cons (.tmp rfl) (.cons (.tmp rfl) .nil))) rfl rfl rfl ⟨Hw, pw, cw, by rw [hex]; rfl, by rw [hex]; exact hSw, rfl⟩
  ·
   refine q_sr (q_q (q_b BinV.eql) (q_an ?_))
   refine q_k [3, 4, 5, 6, 9, 10, 22, 61] [0, 1, 2, 3, 103, 104, 105, 106, 109] ?_
   first | refine W.condD rfl (fun hc61 => ?_) (fun hc61 => ?_) | (refine W.cond rfl (fun hc61 => ?_) (fun hc61 => ?_) <;> try simp only [Bool.or_eq_true, Bool.and_eq_true, Bool.not_eq_true', Bool.not_eq_false', decide_eq_true_eq, Bool.or_eq_false_iff, Bool.and_eq_false_iff, decide_eq_false_iff_not, beq_iff_eq, beq_eq_false_iff_ne, ne_eq, Decidable.not_not] at hc61)
   ·
    have hk := hc61
    refine W.seq (q_sr (q_q q_mv (q_nn (q_k [4, 6, 9, 63] [0, 1, 2, 3, 103, 104, 105, 106, 109] ?_))))
    refine W.cond rfl (fun hc63 => ?_) (fun hc63 => ?_)
    ·
     have hfu2 := fvU_t (hfu.trans (congrArg (Prod.mk u) (show ub = true from hc63)))
     have hex : (execP (decide (kdOf m c.it = 2)) x.us x.cl c) = (putR x.us { u with st := 3 }, 0, 0) := ex1_some hI hk hfu2
     refine W.region (q_q (q_lw 104 u59 sz59) (q_q (q_lw 109 u48 sz48) ?_))
     refine q_e (q_c ent148 [2] [2] (rwith_ct x mach hx u 3 (by omega))) ?_
     rintro _ _ ⟨_, ⟨Hw, pw, cw, rfl, hSw, rfl⟩, rfl⟩
     refine q_s 104 sz59 ?_
     refine q_nn (q_k [4, 6] [0, 1, 2, 3, 103, 104, 105, 106, 109] ?_)
     refine q_sr (q_q (q_lw 104 u59 sz59) (q_s 106 sz59 ?_))
     refine q_q q_as (q_an ?_)
     refine W.ret (N.block_ret (N.then_ret ?_))
     exact q_r [1, 2, 3] (.cons (q_rc 106 u59 sz59) (.cons (.tmp rfl) (.cons (.tmp rfl) .nil))) rfl rfl rfl ⟨Hw, pw, cw, by rw [hex]; rfl, by rw [hex]; exact hSw, rfl⟩
    ·
     have hfu2 := fvU_f (hfu.trans (congrArg (Prod.mk u) (show ub = false from hc63)))
     have hex : (execP (decide (kdOf m c.it = 2)) x.us x.cl c) = (x.us, 0, 0) := ex1_none hk hfu2
     refine W.skip (N.next (q_sr (q_q (q_lw 104 u59 sz59) (q_s 106 sz59 ?_))))
     refine q_q q_as (q_an ?_)
     refine q_k [6, 7, 8] [0, 1, 2, 3, 103, 104, 105, 106, 109] ?_
     refine W.ret (N.block_ret (N.then_ret ?_))
     exact q_r [1, 2, 3] (.cons (q_rc 106 u59 sz59) (.cons (.tmp rfl) (.cons (.tmp rfl) .nil))) rfl rfl rfl ⟨x.HU, x.pu, x.cu, by rw [hex]; rfl, by rw [hex]; exact hx.u, rfl⟩
   ·
    refine q_sr (q_q (q_b BinV.eql) (q_an ?_))
    first | refine W.condD rfl (fun hc68 => ?_) (fun hc68 => ?_) | (refine W.cond rfl (fun hc68 => ?_) (fun hc68 => ?_) <;> try simp only [Bool.or_eq_true, Bool.and_eq_true, Bool.not_eq_true', Bool.not_eq_false', decide_eq_true_eq, Bool.or_eq_false_iff, Bool.and_eq_false_iff, decide_eq_false_iff_not, beq_iff_eq, beq_eq_false_iff_ne, ne_eq, Decidable.not_not] at hc68)
    ·
     have hk := hc68
     refine W.seq (q_sr (q_q q_mv (q_q q_mv ?_)))
     refine' q_and 71 75 4 [3, 4, 5, 6, 9, 10, 22, 61, 68, 69, 70] [0, 1, 2, 3, 103, 104, 105, 106, 109] ?_ ?_ ?_
     rotate_left 1
     ·
      intro hg71
      refine q_g (q_fa fo48_2) (q_g (q_l 109 u3) (q_g (q_b BinV.eql) (q_q Yld.pk ?_)))
      exact q_m
     ·
      intro hg71
      repeat refine q_gs ?_
      refine q_q Yld.pk ?_
      exact q_m
     refine q_nn (q_k [3, 4, 5, 6, 9, 10, 75] [0, 1, 2, 3, 103, 104, 105, 106, 109] ?_)
     refine W.cond rfl (fun hc75 => ?_) (fun hc75 => ?_)
     ·
      simp only [Bool.and_eq_true, decide_eq_true_eq] at hc75
      have hfu2 := fvU_t (hfu.trans (congrArg (Prod.mk u) (show ub = true from hc75.1)))
      have hex : (execP (decide (kdOf m c.it = 2)) x.us x.cl c) = (x.us, 9, 0) := ex2_bad hk hfu2 hc75.2
      refine q_sr (q_q (q_lw 104 u59 sz59) (q_s 106 sz59 ?_))
      refine q_q q_as (q_an ?_)
      refine q_k [6, 7, 8] [0, 1, 2, 3, 103, 104, 105, 106, 109] ?_
      refine W.ret (N.then_ret (N.block_ret (N.then_ret ?_)))
      exact q_r [1, 2, 3] (.cons (q_rc 106 u59 sz59) (.cons (.tmp rfl) (.cons (.tmp rfl) .nil))) rfl rfl rfl ⟨x.HU, x.pu, x.cu, by rw [hex]; rfl, by rw [hex]; exact hx.u, rfl⟩
     ·
      refine W.skip (N.next (W.seq (q_sr (q_q q_mv (q_q Yld.nt (q_nn ?_))))))
      refine W.cond rfl (fun hc78 => ?_) (fun hc78 => ?_)
      ·
       rw [Bool.not_eq_true'] at hc78
       have hfu2 := fvU_f (hfu.trans (congrArg (Prod.mk u) (show ub = false from hc78)))
       have hex0 := ex2_none (cs := x.cl) hI hf hk hfu2
       refine q_sr (q_q (q_fa fo36_1) (q_q (q_l 105 u3) ?_))
       refine q_q (Yld.buildP lay48 (.cons rfl rfl .nil) rfl) (q_s 109 sz48 ?_)
       refine q_nn (q_k [3, 4, 5, 6, 9] [0, 1, 2, 3, 103, 104, 105, 106, 109] ?_)
       refine q_sr (q_q (q_lw 103 u29 sz29) (q_q (q_fa fo36_1) (q_q (q_l 105 u3) ?_)))
       refine q_e (q_c ent47 [1] [1] (rkind_ct m H1 hM c.it)) ?_
       rintro _ _ ⟨_, ⟨rfl, rfl⟩, rfl⟩
       refine q_q (q_b BinV.eql) (q_nn (q_k [4, 5, 6, 9, 86] [0, 1, 2, 3, 103, 104, 105, 106, 109] ?_))
       first | refine W.condD rfl (fun hc86 => ?_) (fun hc86 => ?_) | (refine W.cond rfl (fun hc86 => ?_) (fun hc86 => ?_) <;> try simp only [Bool.or_eq_true, Bool.and_eq_true, Bool.not_eq_true', Bool.not_eq_false', decide_eq_true_eq, Bool.or_eq_false_iff, Bool.and_eq_false_iff, decide_eq_false_iff_not, beq_iff_eq, beq_eq_false_iff_ne, ne_eq, Decidable.not_not] at hc86)
       ·
        rw [if_pos hc86] at hex0
        have hex : (execP (decide (kdOf m c.it = 2)) x.us x.cl c) = _ := hex0
        refine W.region (q_q (q_fa fo36_3) (q_q (q_l 105 u2) (q_q (q_fa fo48_3) (q_s 109 sz2 ?_))))
        refine q_nn (q_k [4, 6, 9] [0, 1, 2, 3, 103, 104, 105, 106, 109] ?_)
        refine q_sr (q_q (q_lw 104 u59 sz59) (q_q (q_lw 109 u48 sz48) ?_))
        refine q_e (q_c ent148 [2] [2] (rwith_ct x mach hx ⟨c.it, 0, 0, c.va, 0⟩ 0 (by omega))) ?_
        rintro _ _ ⟨_, ⟨Hw, pw, cw, rfl, hSw, rfl⟩, rfl⟩
        refine q_s 106 sz59 ?_
        refine q_q q_as (q_an ?_)
        refine q_k [6, 7, 8] [0, 1, 2, 3, 103, 104, 105, 106, 109] ?_
        refine W.ret (N.block_ret (N.then_ret ?_))
        exact q_r [1, 2, 3] (.cons (q_rc 106 u59 sz59) (.cons (.tmp rfl) (.cons (.tmp rfl) .nil))) rfl rfl rfl ⟨Hw, pw, cw, by rw [hex]; rfl, by rw [hex]; exact hSw, rfl⟩
       ·
        rw [if_neg hc86] at hex0
        have hex : (execP (decide (kdOf m c.it = 2)) x.us x.cl c) = _ := hex0
        refine W.skip (N.next (q_sr (q_q (q_lw 104 u59 sz59) (q_q (q_lw 109 u48 sz48) ?_))))
        refine q_e (q_c ent148 [2] [2] (rwith_ct x mach hx ⟨c.it, 0, 0, 0, 0⟩ 0 (by omega))) ?_
        rintro _ _ ⟨_, ⟨Hw, pw, cw, rfl, hSw, rfl⟩, rfl⟩
        refine q_s 106 sz59 ?_
        refine q_q q_as (q_an ?_)
        refine q_k [6, 7, 8] [0, 1, 2, 3, 103, 104, 105, 106, 109] ?_
        refine W.ret (N.block_ret (N.then_ret ?_))
        exact q_r [1, 2, 3] (.cons (q_rc 106 u59 sz59) (.cons (.tmp rfl) (.cons (.tmp rfl) .nil))) rfl rfl rfl ⟨Hw, pw, cw, by rw [hex]; rfl, by rw [hex]; exact hSw, rfl⟩
      ·
       rw [Bool.not_eq_false'] at hc78
       have hfu2 := fvU_t (hfu.trans (congrArg (Prod.mk u) (show ub = true from hc78)))
       have hex : (execP (decide (kdOf m c.it = 2)) x.us x.cl c) = (putR x.us { u with st := 0 }, 0, 0) := ex2_some hI hk hfu2 (fun h => by rw [show ub = true from hc78, h] at hc75; cases hc75)
       refine W.skip (N.next (q_k [4, 6, 9] [0, 1, 2, 3, 103, 104, 105, 106, 109] ?_))
       refine q_sr (q_q (q_lw 104 u59 sz59) (q_q (q_lw 109 u48 sz48) ?_))
       refine q_e (q_c ent148 [2] [2] (rwith_ct x mach hx u 0 (by omega))) ?_
       rintro _ _ ⟨_, ⟨Hw, pw, cw, rfl, hSw, rfl⟩, rfl⟩
       refine q_s 106 sz59 ?_
       refine q_q q_as (q_an ?_)
       refine q_k [6, 7, 8] [0, 1, 2, 3, 103, 104, 105, 106, 109] ?_
       refine W.ret (N.block_ret (N.then_ret ?_))
       exact q_r [1, 2, 3] (.cons (q_rc 106 u59 sz59) (.cons (.tmp rfl) (.cons (.tmp rfl) .nil))) rfl rfl rfl ⟨Hw, pw, cw, by rw [hex]; rfl, by rw [hex]; exact hSw, rfl⟩
    ·
     refine W.seq (q_sr (q_q (q_b BinV.eql) (q_an ?_)))
     refine q_k [4, 5, 6, 9, 10, 22, 93] [0, 1, 2, 3, 103, 104, 105, 106, 109] ?_
     first | refine W.condD rfl (fun hc93 => ?_) (fun hc93 => ?_) | (refine W.cond rfl (fun hc93 => ?_) (fun hc93 => ?_) <;> try simp only [Bool.or_eq_true, Bool.and_eq_true, Bool.not_eq_true', Bool.not_eq_false', decide_eq_true_eq, Bool.or_eq_false_iff, Bool.and_eq_false_iff, decide_eq_false_iff_not, beq_iff_eq, beq_eq_false_iff_ne, ne_eq, Decidable.not_not] at hc93)
     ·
      refine W.skip (N.next ?_)
      first | (refine W.as (t := 93) rfl (boolT (by first | assumption | omega | (simp; done))) ?_; refine W.condT rfl ?_) | refine W.condT rfl ?_
      refine W.seq (q_sr (q_q q_mv (q_q Yld.nt (q_nn (q_k [4, 5, 6, 9, 97] [0, 1, 2, 3, 103, 104, 105, 106, 109] ?_)))))
      refine W.cond rfl (fun hc97 => ?_) (fun hc97 => ?_)
      ·
       rw [Bool.not_eq_true'] at hc97
       have hfu2 := fvU_f (hfu.trans (congrArg (Prod.mk u) (show ub = false from hc97)))
       have hex : (execP (decide (kdOf m c.it = 2)) x.us x.cl c) = (x.us, 6, 0) := ex34_none (by omega) hfu2
       refine q_sr (q_q (q_lw 104 u59 sz59) (q_s 106 sz59 ?_))
       refine q_q q_as (q_an ?_)
       refine q_k [6, 7, 8] [0, 1, 2, 3, 103, 104, 105, 106, 109] ?_
       refine W.ret (N.then_ret (N.block_ret (N.then_ret ?_)))
       exact q_r [1, 2, 3] (.cons (q_rc 106 u59 sz59) (.cons (.tmp rfl) (.cons (.tmp rfl) .nil))) rfl rfl rfl ⟨x.HU, x.pu, x.cu, by rw [hex]; rfl, by rw [hex]; exact hx.u, rfl⟩
      ·
       rw [Bool.not_eq_false'] at hc97
       have hfu2 := fvU_t (hfu.trans (congrArg (Prod.mk u) (show ub = true from hc97)))
       refine W.skip (N.next (W.seq (q_sr (q_q (q_fa fo36_0) (q_q (q_l 105 u3) (q_q (q_b BinV.eql) (q_nn (q_k [4, 6, 9, 101] [0, 1, 2, 3, 103, 104, 105, 106, 109] ?_))))))))
       first | refine W.condD rfl (fun hc101 => ?_) (fun hc101 => ?_) | (refine W.cond rfl (fun hc101 => ?_) (fun hc101 => ?_) <;> try simp only [Bool.or_eq_true, Bool.and_eq_true, Bool.not_eq_true', Bool.not_eq_false', decide_eq_true_eq, Bool.or_eq_false_iff, Bool.and_eq_false_iff, decide_eq_false_iff_not, beq_iff_eq, beq_eq_false_iff_ne, ne_eq, Decidable.not_not] at hc101)
       ·
        have hex : (execP (decide (kdOf m c.it = 2)) x.us x.cl c) = (putR x.us { u with st := 1 }, 0, 0) := ex3_some hI hc101 hfu2
        refine q_sr (q_q (q_lw 104 u59 sz59) (q_q (q_lw 109 u48 sz48) ?_))
        refine q_e (q_c ent148 [2] [2] (rwith_ct x mach hx u 1 (by omega))) ?_
        rintro _ _ ⟨_, ⟨Hw, pw, cw, rfl, hSw, rfl⟩, rfl⟩
        refine q_s 106 sz59 ?_
        refine q_q q_as (q_an ?_)
        refine q_k [6, 7, 8] [0, 1, 2, 3, 103, 104, 105, 106, 109] ?_
        refine W.ret (N.then_ret (N.block_ret (N.then_ret ?_)))
        exact q_r [1, 2, 3] (.cons (q_rc 106 u59 sz59) (.cons (.tmp rfl) (.cons (.tmp rfl) .nil))) rfl rfl rfl ⟨Hw, pw, cw, by rw [hex]; rfl, by rw [hex]; exact hSw, rfl⟩
       ·
        have hex : (execP (decide (kdOf m c.it = 2)) x.us x.cl c) = (putR x.us { u with st := 2 }, 0, u.va) := ex4_some hI (by omega) hfu2
        refine W.skip (N.next (W.seq ?_))
        refine W.draw (.q 0 (.q 1 (.q 3 (.q 4 (.one 2 (.one 5 (.q 6 (.q 7 .done)))))))) (.of [0, 1, 3, 103, 104, 105, 109] rfl) mix (by kernel_rfl) (by kernel_rfl) (q_d rfl (q_lw 104 u59 sz59) (q_d rfl (q_lw 109 u48 sz48) (q_d rfl (q_fa fo48_3) (q_d rfl (q_l 109 u2) ?_))))
        refine q_o rfl (q_c ent148 [2] [2] (rwith_ct x mach hx u 2 (by omega))) ?_
        rintro _ _ ⟨_, ⟨Hw, pw, cw, rfl, hSw, rfl⟩, rfl⟩
        refine q_o0 rfl (q_st 106 sz59) ?_
        rintro _ _ rfl
        refine q_d rfl q_as (q_d rfl q_as (DL.done (N.next (q_k [6, 7, 8] [0, 1, 2, 3, 103, 104, 105, 106, 109] ?_))))
        refine W.ret (N.block_ret (N.then_ret ?_))
        exact q_r [1, 2, 3] (.cons (q_rc 106 u59 sz59) (.cons (.tmp rfl) (.cons (.tmp rfl) .nil))) rfl rfl rfl ⟨Hw, pw, cw, by rw [hex]; rfl, by rw [hex]; exact hSw, rfl⟩
     ·
      refine W.region (q_q (q_b BinV.eql) (q_an ?_))
      first | refine W.condD rfl (fun hc93 => ?_) (fun hc93 => ?_) | (refine W.cond rfl (fun hc93 => ?_) (fun hc93 => ?_) <;> try simp only [Bool.or_eq_true, Bool.and_eq_true, Bool.not_eq_true', Bool.not_eq_false', decide_eq_true_eq, Bool.or_eq_false_iff, Bool.and_eq_false_iff, decide_eq_false_iff_not, beq_iff_eq, beq_eq_false_iff_ne, ne_eq, Decidable.not_not] at hc93)
      ·
       refine W.seq (q_sr (q_q q_mv (q_q Yld.nt (q_nn (q_k [4, 5, 6, 9, 97] [0, 1, 2, 3, 103, 104, 105, 106, 109] ?_)))))
       refine W.cond rfl (fun hc97 => ?_) (fun hc97 => ?_)
       ·
        rw [Bool.not_eq_true'] at hc97
        have hfu2 := fvU_f (hfu.trans (congrArg (Prod.mk u) (show ub = false from hc97)))
        have hex : (execP (decide (kdOf m c.it = 2)) x.us x.cl c) = (x.us, 6, 0) := ex34_none (by omega) hfu2
        refine q_sr (q_q (q_lw 104 u59 sz59) (q_s 106 sz59 ?_))
        refine q_q q_as (q_an ?_)
        refine q_k [6, 7, 8] [0, 1, 2, 3, 103, 104, 105, 106, 109] ?_
        refine W.ret (N.then_ret (N.block_ret (N.then_ret ?_)))
        exact q_r [1, 2, 3] (.cons (q_rc 106 u59 sz59) (.cons (.tmp rfl) (.cons (.tmp rfl) .nil))) rfl rfl rfl ⟨x.HU, x.pu, x.cu, by rw [hex]; rfl, by rw [hex]; exact hx.u, rfl⟩
       ·
        rw [Bool.not_eq_false'] at hc97
        have hfu2 := fvU_t (hfu.trans (congrArg (Prod.mk u) (show ub = true from hc97)))
        refine W.skip (N.next (W.seq (q_sr (q_q (q_fa fo36_0) (q_q (q_l 105 u3) (q_q (q_b BinV.eql) (q_nn (q_k [4, 6, 9, 101] [0, 1, 2, 3, 103, 104, 105, 106, 109] ?_))))))))
        first | refine W.condD rfl (fun hc101 => ?_) (fun hc101 => ?_) | (refine W.cond rfl (fun hc101 => ?_) (fun hc101 => ?_) <;> try simp only [Bool.or_eq_true, Bool.and_eq_true, Bool.not_eq_true', Bool.not_eq_false', decide_eq_true_eq, Bool.or_eq_false_iff, Bool.and_eq_false_iff, decide_eq_false_iff_not, beq_iff_eq, beq_eq_false_iff_ne, ne_eq, Decidable.not_not] at hc101)
        ·
         have hex : (execP (decide (kdOf m c.it = 2)) x.us x.cl c) = (putR x.us { u with st := 1 }, 0, 0) := ex3_some hI hc101 hfu2
         refine q_sr (q_q (q_lw 104 u59 sz59) (q_q (q_lw 109 u48 sz48) ?_))
         refine q_e (q_c ent148 [2] [2] (rwith_ct x mach hx u 1 (by omega))) ?_
         rintro _ _ ⟨_, ⟨Hw, pw, cw, rfl, hSw, rfl⟩, rfl⟩
         refine q_s 106 sz59 ?_
         refine q_q q_as (q_an ?_)
         refine q_k [6, 7, 8] [0, 1, 2, 3, 103, 104, 105, 106, 109] ?_
         refine W.ret (N.then_ret (N.block_ret (N.then_ret ?_)))
         exact q_r [1, 2, 3] (.cons (q_rc 106 u59 sz59) (.cons (.tmp rfl) (.cons (.tmp rfl) .nil))) rfl rfl rfl ⟨Hw, pw, cw, by rw [hex]; rfl, by rw [hex]; exact hSw, rfl⟩
        ·
         have hex : (execP (decide (kdOf m c.it = 2)) x.us x.cl c) = (putR x.us { u with st := 2 }, 0, u.va) := ex4_some hI (by omega) hfu2
         refine W.skip (N.next (W.seq ?_))
         refine W.draw (.q 0 (.q 1 (.q 3 (.q 4 (.one 2 (.one 5 (.q 6 (.q 7 .done)))))))) (.of [0, 1, 3, 103, 104, 105, 109] rfl) mix (by kernel_rfl) (by kernel_rfl) (q_d rfl (q_lw 104 u59 sz59) (q_d rfl (q_lw 109 u48 sz48) (q_d rfl (q_fa fo48_3) (q_d rfl (q_l 109 u2) ?_))))
         refine q_o rfl (q_c ent148 [2] [2] (rwith_ct x mach hx u 2 (by omega))) ?_
         rintro _ _ ⟨_, ⟨Hw, pw, cw, rfl, hSw, rfl⟩, rfl⟩
         refine q_o0 rfl (q_st 106 sz59) ?_
         rintro _ _ rfl
         refine q_d rfl q_as (q_d rfl q_as (DL.done (N.next (q_k [6, 7, 8] [0, 1, 2, 3, 103, 104, 105, 106, 109] ?_))))
         refine W.ret (N.block_ret (N.then_ret ?_))
         exact q_r [1, 2, 3] (.cons (q_rc 106 u59 sz59) (.cons (.tmp rfl) (.cons (.tmp rfl) .nil))) rfl rfl rfl ⟨Hw, pw, cw, by rw [hex]; rfl, by rw [hex]; exact hSw, rfl⟩
      ·
       refine W.skip (N.block_normal (N.next (W.seq (q_sr (q_q q_mv (q_q q_mv ?_))))))
       refine' q_and 111 122 11 [4, 5, 6, 9, 10, 22, 93, 95, 110] [0, 1, 2, 3, 103, 104, 105, 106, 109] ?_ ?_ ?_
       rotate_left 1
       ·
        intro hg111
        refine q_g (q_fa fo48_2) (q_g (q_l 109 u3) (q_g (q_b BinV.eql) (q_g q_mv ?_)))
        refine' q_or 115 121 6 [4, 5, 6, 9, 10, 22, 93, 95, 110, 111, 112, 113, 114] [0, 1, 2, 3, 103, 104, 105, 106, 109] ?_ ?_ ?_
        rotate_left 1
        ·
         intro hg115
         refine q_g (q_lw 104 u59 sz59) (q_g (q_fa fo36_1) (q_g (q_l 105 u3) ?_))
         refine RL.ge rfl rfl (q_c ent46 [3] [3] (ropen_ct x mach hx c.it)) rfl ?_
         rintro _ _ ⟨_, ⟨rfl, rfl⟩, rfl⟩
         refine q_g (q_b BinV.gtr) (q_g Yld.pk ?_)
         exact q_m
        ·
         intro hg115
         repeat refine q_gs ?_
         refine q_g Yld.pk ?_
         exact q_m
        refine q_q Yld.pk ?_
        exact q_m
       ·
        intro hg111
        repeat refine q_gs ?_
        refine RL.gskipU rfl rfl rfl ?_
        refine RL.gskipU rfl rfl rfl ?_
        refine RL.gskipU rfl rfl rfl ?_
        refine RL.gskipU rfl rfl rfl ?_
        refine RL.gskipU rfl rfl rfl (q_gs (q_q Yld.pk ?_))
        exact q_m
       refine q_nn (q_k [4, 5, 6, 122] [0, 1, 2, 3, 103, 104, 105, 106, 109] ?_)
       refine W.cond rfl (fun hc122 => ?_) (fun hc122 => ?_)
       ·
        have hk : c.kd = 5 := by omega
        have hc122 : ub = true ∧ (u.st = 0 ∨ 0 < opens x.cl c.it) := by
          simp only [Bool.and_eq_true, Bool.or_eq_true, decide_eq_true_eq] at hc122
          exact ⟨hc122.1, hc122.2.elim .inl fun h => .inr (by omega)⟩
        have hfu2 := fvU_t (hfu.trans (congrArg (Prod.mk u) (show ub = true from hc122.1)))
        have hex : (execP (decide (kdOf m c.it = 2)) x.us x.cl c) = (x.us, 9, 0) := ex5_bad hf hk hfu2 hc122.2
        refine q_sr (q_q (q_lw 104 u59 sz59) (q_s 106 sz59 ?_))
        refine q_q q_as (q_an ?_)
        refine q_k [6, 7, 8] [0, 1, 2, 3, 103, 104, 105, 106, 109] ?_
        refine W.ret (N.then_ret ?_)
        exact q_r [1, 2, 3] (.cons (q_rc 106 u59 sz59) (.cons (.tmp rfl) (.cons (.tmp rfl) .nil))) rfl rfl rfl ⟨x.HU, x.pu, x.cu, by rw [hex]; rfl, by rw [hex]; exact hx.u, rfl⟩
       ·
        have hk : c.kd = 5 := by omega
        have hex : (execP (decide (kdOf m c.it = 2)) x.us x.cl c) = (wo x.us c.it, 0, 0) := by
          cases hub : ub with
          | false => exact ex5_none hI hf hk (fvU_f (by rw [hfu, hub] : fvU x.us c.it = (u, false)))
          | true =>
            refine ex5_some hI hf hk (fvU_t (by rw [hfu, hub] : fvU x.us c.it = (u, true))) (fun h => ?_)
            simp only [hub, Bool.true_and, Bool.or_eq_false_iff, decide_eq_false_iff_not] at hc122
            omega
        refine W.skip (N.next (q_sr (q_q (q_lw 104 u59 sz59) (q_q (q_fa fo36_1) (q_q (q_l 105 u3) ?_)))))
        refine q_e (q_c ent149 [2] [2] (rwithout_ct x mach hx c.it (by omega))) ?_
        rintro _ _ ⟨_, ⟨Ho, po, co, rfl, hSo, rfl⟩, rfl⟩
        refine q_s 106 sz59 ?_
        refine q_q q_as (q_an ?_)
        refine q_k [6, 7, 8] [0, 1, 2, 3, 103, 104, 105, 106, 109] ?_
        refine W.ret ?_
        exact q_r [1, 2, 3] (.cons (q_rc 106 u59 sz59) (.cons (.tmp rfl) (.cons (.tmp rfl) .nil))) rfl rfl rfl ⟨Ho, po, co, by rw [hex]; rfl, by rw [hex]; exact hSo, rfl⟩
end Go.Proofs.YtboapdcmaeojgaaGreatDoor
namespace Go.Proofs.YtboapdcmaeojgaaGreatDoor
open SL Cat Fen
set_option linter.unusedVariables false
set_option linter.unusedSimpArgs false
theorem ent103 : Ent Tryz.prog 103 := ⟨_, _, Tryz.func103, by kernel_rfl, rfl⟩
theorem fo59_0 : fieldOff Tryz.prog 59 0 = some 0 := by kernel_rfl
theorem fo59_2 : fieldOff Tryz.prog 59 2 = some 2 := by kernel_rfl
theorem fo59_3 : fieldOff Tryz.prog 59 3 = some 3 := by kernel_rfl
theorem sz55 : sz Tryz.prog 55 1 := (by kernel_rfl : (Tryz.prog.info? 55).map (·.size) = some 1)
theorem fo59_4 : fieldOff Tryz.prog 59 4 = some 4 := by kernel_rfl
theorem sz56 : sz Tryz.prog 56 1 := (by kernel_rfl : (Tryz.prog.info? 56).map (·.size) = some 1)
theorem ent104 : Ent Tryz.prog 104 := ⟨_, _, Tryz.func104, by kernel_rfl, rfl⟩
theorem el3 : el Tryz.prog 3 1 8 := .mk (by kernel_rfl)
theorem zc2 : zc Tryz.prog 2 [.int .i64 0] := (by kernel_rfl : ((Tryz.prog.info? 2).bind (·.zero)).map (fun v => v.cells.toList) = some [.int .i64 0])
theorem el2 : el Tryz.prog 2 1 8 := .mk (by kernel_rfl)
abbrev u56 := @Tryz.underlying56
def Fen.Rt.newG (x : Rt) (g : Int) : Rt := { x with gen := g, ps := none, cs := 0, st := [], pv := none, cv := 0, va := [] }
theorem Fen.Rt.In.newG {x : Rt} (h : x.In) (g : Int) : (x.newG g).In := ⟨h.u, sl_nil1 _, sl_nil1 _, h.c⟩
theorem Fen.Rt.Is.seen1 {x : Rt} {t : T} (h : x.Is t) {g : Int} (hg : x.gen < g) : (x.newG g).Is (Fen.seen t g) := by
  have hg2 : t.gen < g := by rw [← h.gn]; exact hg
  unfold Fen.seen
  rw [if_pos hg2]
  exact ⟨h.us, rfl, rfl, rfl, h.cl⟩
theorem Fen.Rt.Is.seen0 {x : Rt} {t : T} (h : x.Is t) {g : Int} (hg : ¬ x.gen < g) : x.Is (Fen.seen t g) := by
  have hg2 : ¬ t.gen < g := by rw [← h.gn]; exact hg
  unfold Fen.seen
  rw [if_neg hg2]
  exact h
theorem Fen.Rt.Is.len {x : Rt} {t : T} (h : x.Is t) : x.va.length = x.st.length := by rw [h.va, h.st, List.length_map, List.length_map]
theorem Fen.Rt.Is.hit {x : Rt} {t : T} (h : x.Is t) {j : Nat} {s v : Int} (hs : x.st[j]? = some s) (hv : x.va[j]? = some v) (hI : ∀ (i : Nat) a, i < j → x.st[i]? = some a → a ≠ s) : Fen.look t.dn s = some v := by
  rw [h.st, List.getElem?_map, Option.map_eq_some_iff] at hs
  rw [h.va, List.getElem?_map, Option.map_eq_some_iff] at hv
  obtain ⟨q, hq, rfl⟩ := hs
  obtain ⟨q2, hq2, rfl⟩ := hv
  rw [hq] at hq2; cases hq2
  unfold Fen.look
  obtain ⟨hlt, rfl⟩ := List.getElem?_eq_some_iff.1 hq
  rw [List.find?_eq_some_iff_getElem.2 ⟨by simp, j, hlt, rfl, fun i hi => ?_⟩]
  · rfl
  · have := hI i (t.dn[i]'(by omega)).1 hi (by rw [h.st, List.getElem?_map, List.getElem?_eq_getElem (by omega)]; rfl)
    simpa using this
theorem Fen.Rt.Is.miss {x : Rt} {t : T} (h : x.Is t) {s : Int} (hI : ∀ (i : Nat) a, i < x.st.length → x.st[i]? = some a → a ≠ s) : Fen.look t.dn s = none := by
  unfold Fen.look
  rw [List.find?_eq_none.2 fun q hq => ?_]
  · rfl
  · obtain ⟨i, hi⟩ := List.getElem?_of_mem hq
    have e : x.st[i]? = some q.1 := by rw [h.st, List.getElem?_map, hi]; rfl
    have := hI i q.1 (List.getElem?_eq_some_iff.1 e).1 e
    simpa using this
theorem Fen.Rt.Is.setU {x : Rt} {t : T} (h : x.Is t) {p : Option Addr} {c : Nat} {us : List U} {H : PH} : (x.setU p c us H).Is { t with us := us } := ⟨rfl, h.gn, h.st, h.va, h.cl⟩
def Fen.Rt.add (x : Rt) (s v : Int) (p : Option Addr) (c : Nat) (H : PH) (q : Option Addr) (d : Nat) (G : PH) : Rt := { x with ps := p, cs := c, st := x.st ++ [s], HS := H, pv := q, cv := d, va := x.va ++ [v], HV := G }
theorem Fen.Rt.Is.add {x : Rt} {t : T} (h : x.Is t) {s v : Int} {p : Option Addr} {c : Nat} {H : PH} {q : Option Addr} {d : Nat} {G : PH} : (x.add s v p c H q d G).Is { t with dn := t.dn ++ [(s, v)] } :=
  ⟨h.us, h.gn, by show x.st ++ [s] = _; rw [h.st, List.map_append]; rfl, by show x.va ++ [v] = _; rw [h.va, List.map_append]; rfl, h.cl⟩
theorem Fen.Rt.In.add {x : Rt} (h : x.In) {s v : Int} {p : Option Addr} {c : Nat} {H : PH} {q : Option Addr} {d : Nat} {G : PH} (h1 : Sl H p c 1 (iz (x.st ++ [s]))) (h2 : Sl G q d 1 (iz (x.va ++ [v]))) : (x.add s v p c H q d G).In := ⟨h.u, h1, h2, h.c⟩
theorem exec_err0 {job : Bool} {us : List U} {cs : List Cl} {c : Cm} (h : ¬ (execP job us cs c).2.1 = 0) : (execP job us cs c).2.2 = 0 := by
  revert h
  unfold execP
  repeat' split
  all_goals first | (intro _; rfl) | (intro h; exact absurd rfl h)
set_option maxRecDepth 100000 in
set_option maxHeartbeats 6400000 in
theorem rdo_ct (m : Md) (H1 : PH) (hM : m.In H1) (x : Rt) (mach : Int) (hx : x.In) (t : T) (hxt : x.Is t) (g st : Int) (c : Cm) (hT : TI m mach t) (hb : t.us.length ≤ 900000) (hd : t.dn.length ≤ 900000) : Ct Tryz.prog 62 [.agg [.slice m.psi m.si.length m.csi, .slice m.pfe m.fe.length m.cfe, .slice m.prk m.rk.length m.crk, .slice m.pmc m.mc.length m.cmc, .slice m.pln m.ln.length m.cln, .slice m.pis m.is.length m.cis, .int .i64 m.da, .int .i64 m.sl, .int .i64 m.re, .int .i64 m.fa, .slice m.prl m.rl.length m.crl].toArray, .agg [.int .i64 mach, .slice x.pu x.us.length x.cu, .int .i64 x.gen, .slice x.ps x.st.length x.cs, .slice x.pv x.va.length x.cv, .slice x.pc x.cl.length x.cc].toArray, .int .i64 g, .int .i64 st, .agg [.int .i64 c.kd, .int .i64 c.it, .int .i64 c.rp, .int .i64 c.va].toArray] [H1, x.HU, x.HS, x.HV, x.HC] (fun v Hs => ∃ y : Rt, v = .tuple [.agg [.int .i64 mach, .slice y.pu y.us.length y.cu, .int .i64 y.gen, .slice y.ps y.st.length y.cs, .slice y.pv y.va.length y.cv, .slice y.pc y.cl.length y.cc].toArray, .int .i64 (doP (kdOf m c.it) mach t g st c).2.1, .int .i64 (doP (kdOf m c.it) mach t g st c).2.2].toArray ∧ y.In ∧ y.Is (doP (kdOf m c.it) mach t g st c).1 ∧ Hs = [H1, y.HU, y.HS, y.HV, y.HC]) := by
  refine Ct.body Tryz.func62 rfl Tryz.ntmps62 rfl ?_
  intro E F
  obtain ⟨hSu, hSs, hSv, hSc⟩ := id hx
  have hmu := hSu.len_le
  have hms := hSs.len_le
  have hmv := hSv.len_le
  have hmc := hSc.len_le
  simp only [List.length_map, iz_len, maxLen] at hmu hms hmv hmc
  refine q_sr ?_
  refine q_bx 105 fun b5 => ?_
  refine q_bx 106 fun b6 => ?_
  refine q_bx 109 fun b9 => ?_
  refine q_al 110 zc59 fun b10 => ?_
  refine q_q q_as (q_an ?_)
  refine q_k [2, 3, 5, 6, 9, 10] [0, 1, 2, 3, 4, 5, 105, 106, 109, 110] ?_
  refine W.seq (q_sr (q_q q_mv (q_q (q_b BinV.lss) (q_q q_mv ?_))))
  refine' q_or 18 21 3 [2, 3, 5, 6, 9, 10, 16, 17] [0, 1, 2, 3, 4, 5, 105, 106, 109, 110] ?_ ?_ ?_
  rotate_left 1
  ·
   intro hg18
   refine q_g q_mv (q_g (q_b BinV.lss) (q_q Yld.pk ?_))
   exact q_m
  ·
   intro hg18
   refine q_gs (q_gs (q_q Yld.pk ?_))
   exact q_m
  refine q_q q_mv ?_
  refine' q_or 22 27 5 [2, 3, 5, 6, 9, 10, 16, 17, 21] [0, 1, 2, 3, 4, 5, 105, 106, 109, 110] ?_ ?_ ?_
  rotate_left 1
  ·
   intro hg22
   refine q_g (q_lw 105 u29 sz29) (q_g (q_lw 109 u36 sz36) ?_)
   refine RL.ge rfl rfl (q_c ent103 [1] [1] (rfits_ct m H1 hM c)) rfl ?_
   rintro _ _ ⟨_, ⟨rfl, rfl⟩, rfl⟩
   refine q_g Yld.nt (q_q Yld.pk ?_)
   exact q_m
  ·
   intro hg22
   repeat refine q_gs ?_
   refine q_q Yld.pk ?_
   exact q_m
  refine q_q q_mv ?_
  refine' q_or 28 32 4 [2, 3, 5, 6, 9, 10, 16, 17, 21, 27] [0, 1, 2, 3, 4, 5, 105, 106, 109, 110] ?_ ?_ ?_
  rotate_left 1
  ·
   intro hg28
   refine q_g (q_fa fo36_3) (q_g (q_l 109 u2) (q_g (q_b BinV.lss) (q_q Yld.pk ?_)))
   exact q_m
  ·
   intro hg28
   repeat refine q_gs ?_
   refine q_q Yld.pk ?_
   exact q_m
  refine q_q q_mv ?_
  refine' q_or 33 37 4 [2, 3, 5, 6, 9, 10, 16, 17, 21, 27, 32] [0, 1, 2, 3, 4, 5, 105, 106, 109, 110] ?_ ?_ ?_
  rotate_left 1
  ·
   intro hg33
   refine q_g (q_fa fo36_3) (q_g (q_l 109 u2) (q_g (q_b BinV.gtr) (q_q Yld.pk ?_)))
   exact q_m
  ·
   intro hg33
   repeat refine q_gs ?_
   refine q_q Yld.pk ?_
   exact q_m
  refine q_q q_mv ?_
  refine' q_or 38 55 17 [2, 3, 5, 6, 9, 10, 16, 17, 21, 27, 32, 37] [0, 1, 2, 3, 4, 5, 105, 106, 109, 110] ?_ ?_ ?_
  rotate_left 1
  ·
   intro hg38
   refine q_g (q_fa fo36_0) (q_g (q_l 109 u3) (q_g (q_b BinV.eql) (q_g q_mv ?_)))
   refine' q_and 42 54 12 [2, 3, 5, 6, 9, 10, 16, 17, 21, 27, 32, 37, 38, 39, 40, 41] [0, 1, 2, 3, 4, 5, 105, 106, 109, 110] ?_ ?_ ?_
   rotate_left 1
   ·
    intro hg42
    refine q_g (q_fa fo36_2) (q_g (q_l 109 u3) (q_g (q_b BinV.lss) (q_g q_mv ?_)))
    refine' q_or 46 53 7 [2, 3, 5, 6, 9, 10, 16, 17, 21, 27, 32, 37, 38, 39, 40, 41, 42, 43, 44, 45] [0, 1, 2, 3, 4, 5, 105, 106, 109, 110] ?_ ?_ ?_
    rotate_left 1
    ·
     intro hg46
     refine q_g (q_fa fo36_2) (q_g (q_l 109 u3) ?_)
     refine q_g (Yld.bin rfl rfl (by first | exact BinV.rem (by omega) (by omega) | exact BinV.remW (by omega))) ?_
     refine q_g (q_fa fo59_0) (q_g (q_l 106 u3) (q_g (q_b BinV.neq) (q_g Yld.pk ?_)))
     exact q_m
    ·
     intro hg46
     repeat refine q_gs ?_
     refine q_g Yld.pk ?_
     exact q_m
    refine q_g Yld.pk ?_
    exact q_m
   ·
    intro hg42
    repeat refine q_gs ?_
    refine RL.gskipU rfl rfl rfl ?_
    refine RL.gskipU rfl rfl rfl ?_
    refine RL.gskipU rfl rfl rfl ?_
    refine RL.gskipU rfl rfl rfl ?_
    refine RL.gskipU rfl rfl rfl ?_
    refine RL.gskipU rfl rfl rfl (q_gs (q_g Yld.pk ?_))
    exact q_m
   refine q_q Yld.pk ?_
   exact q_m
  ·
   intro hg38
   repeat refine q_gs ?_
   refine RL.gskipU rfl rfl rfl ?_
   refine RL.gskipU rfl rfl rfl ?_
   refine RL.gskipU rfl rfl rfl ?_
   refine RL.gskipU rfl rfl rfl ?_
   refine RL.gskipU rfl rfl rfl ?_
   refine RL.gskipU rfl rfl rfl ?_
   refine RL.gskipU rfl rfl rfl ?_
   refine RL.gskipU rfl rfl rfl ?_
   refine RL.gskipU rfl rfl rfl ?_
   refine RL.gskipU rfl rfl rfl ?_
   refine RL.gskipU rfl rfl rfl (q_gs (q_q Yld.pk ?_))
   exact q_m
  refine q_nn (q_k [2, 3, 5, 6, 9, 10, 55] [0, 1, 2, 3, 4, 5, 105, 106, 109, 110] ?_)
  refine W.cond rfl (fun hc55 => ?_) (fun hc55 => ?_)
  ·
   have hdp : (doP (kdOf m c.it) mach t g st c) = (t, 1, 0) := by
     unfold doP
     refine if_pos fun h => ?_
     obtain ⟨h1, h2, h3, h4, h5, h6⟩ := h
     simp only [Bool.or_eq_true, Bool.and_eq_true, decide_eq_true_eq, ne_eq] at hc55
     rcases hc55 with ((((h | h) | h) | h) | h) | ⟨h, h7⟩
     · omega
     · omega
     · exact h h3
     · omega
     · omega
     · obtain ⟨h8, h9⟩ := h6 h
       omega
   refine q_sr (q_q (q_lw 106 u59 sz59) (q_s 110 sz59 ?_))
   refine q_q q_as (q_an ?_)
   refine q_k [10, 11, 12] [0, 1, 2, 3, 4, 5, 105, 106, 109, 110] ?_
   refine W.ret (N.then_ret ?_)
   exact q_r [1, 2, 3, 4, 5] (.cons (q_rc 110 u59 sz59) (.cons (.tmp rfl) (.cons (.tmp rfl) .nil))) rfl rfl rfl ⟨x, by rw [hdp]; rfl, hx, by rw [hdp]; exact hxt, rfl⟩
  ·
   have hok : 1 ≤ g ∧ 1 ≤ st ∧ Fits (kdOf m c.it) mach c := by
     simp only [Bool.or_eq_false_iff, Bool.and_eq_false_iff, Bool.not_eq_false', decide_eq_false_iff_not, decide_eq_true_eq, ne_eq, Classical.not_not] at hc55
     obtain ⟨⟨⟨⟨⟨h1, h2⟩, h3⟩, h4⟩, h5⟩, h6⟩ := hc55
     exact ⟨by omega, by omega, h3, by omega, by omega, fun h => by omega⟩
   refine W.skip (N.next (W.seq (q_sr (q_q q_mv (q_q (q_fa fo59_2) (q_q (q_l 106 u3) (q_q (q_b BinV.lss) (q_nn (q_k [2, 3, 5, 6, 9, 10, 60] [0, 1, 2, 3, 4, 5, 105, 106, 109, 110] ?_)))))))))
   first | refine W.condD rfl (fun hc60 => ?_) (fun hc60 => ?_) | (refine W.cond rfl (fun hc60 => ?_) (fun hc60 => ?_) <;> try simp only [Bool.or_eq_true, Bool.and_eq_true, Bool.not_eq_true', Bool.not_eq_false', decide_eq_true_eq, Bool.or_eq_false_iff, Bool.and_eq_false_iff, decide_eq_false_iff_not, beq_iff_eq, beq_eq_false_iff_ne, ne_eq, Decidable.not_not] at hc60)
   ·
    have hdp : (doP (kdOf m c.it) mach t g st c) = (t, 12, 0) := by
      unfold doP
      rw [if_neg (fun h => h hok)]; exact if_pos (by rw [← hxt.gn]; exact hc60)
    refine q_sr (q_q (q_lw 106 u59 sz59) (q_s 110 sz59 ?_))
    refine q_q q_as (q_an ?_)
    refine q_k [10, 11, 12] [0, 1, 2, 3, 4, 5, 105, 106, 109, 110] ?_
    refine W.ret (N.then_ret ?_)
    exact q_r [1, 2, 3, 4, 5] (.cons (q_rc 110 u59 sz59) (.cons (.tmp rfl) (.cons (.tmp rfl) .nil))) rfl rfl rfl ⟨x, by rw [hdp]; rfl, hx, by rw [hdp]; exact hxt, rfl⟩
   ·
    have hgn : ¬ g < t.gen := by rw [← hxt.gn]; exact hc60
    refine W.skip (N.next ?_)
    refine W.cutK (ι := Rt) (fun y => (y.In ∧ y.Is (Fen.seen t g) ∧ (1 ≤ g ∧ 1 ≤ st ∧ Fits (kdOf m c.it) mach c) ∧ ¬ g < t.gen)) (fun y => []) (fun y => [(2, y.HU), (3, y.HS), (4, y.HV), (5, y.HC), (106, single b6 (.cells [.int .i64 mach, .slice y.pu y.us.length y.cu, .int .i64 y.gen, .slice y.ps y.st.length y.cs, .slice y.pv y.va.length y.cv, .slice y.pc y.cl.length y.cc].toArray 59 (0, 0)))]) (.of [3, 5, 6, 9, 10] rfl) (.of [0, 1, 105, 109, 110] rfl) ?_ ?_
    ·
     refine q_sr (q_q q_mv (q_q (q_fa fo59_2) (q_q (q_l 106 u3) (q_q (q_b BinV.gtr) (q_nn (q_k [2, 3, 5, 6, 9, 10, 65] [0, 1, 2, 3, 4, 5, 105, 106, 109, 110] ?_))))))
     first | refine W.condD rfl (fun hc65 => ?_) (fun hc65 => ?_) | (refine W.cond rfl (fun hc65 => ?_) (fun hc65 => ?_) <;> try simp only [Bool.or_eq_true, Bool.and_eq_true, Bool.not_eq_true', Bool.not_eq_false', decide_eq_true_eq, Bool.or_eq_false_iff, Bool.and_eq_false_iff, decide_eq_false_iff_not, beq_iff_eq, beq_eq_false_iff_ne, ne_eq, Decidable.not_not] at hc65)
     ·
      refine W.region (q_q q_mv (q_q (q_fa fo59_2) (q_s 106 sz3 ?_)))
      refine q_q (q_fa fo59_3) (q_s 106 sz55 ?_)
      refine q_q (q_fa fo59_4) (q_s 106 sz56 ?_)
      refine RL.nil ?_
      exact N.famK (x.newG g) ⟨hx.newG g, hxt.seen1 hc65, hok, hgn⟩ .nil (.to rfl) (.to rfl) (.to rfl)
     ·
      refine W.skip ?_
      exact N.famK x ⟨hx, hxt.seen0 hc65, hok, hgn⟩ .nil (.to rfl) (.to rfl) (.to rfl)
    rintro y ⟨hy, hys, hok, hgn⟩
    refine q_k [3, 5, 6, 9, 10] [2, 3, 4, 5, 106, 0, 1, 105, 109, 110] ?_
    obtain ⟨hSu, hSs, hSv, hSc⟩ := id hy
    have hmu := hSu.len_le
    have hms := hSs.len_le
    have hmv := hSv.len_le
    simp only [List.length_map, iz_len, maxLen] at hmu hms hmv
    have hdl : (Fen.seen t g).dn.length ≤ t.dn.length := by unfold Fen.seen; split; exact Nat.zero_le _; exact Nat.le_refl _
    have hsl : y.st.length = (Fen.seen t g).dn.length := by rw [hys.st, List.length_map]
    have hvl := hys.len
    refine W.seq (q_sr (q_an ?_))
    refine W.block ?_
    refine W.loopK (ι := Nat) (fun j => (j ≤ y.st.length ∧ ∀ (i : Nat) a, i < j → y.st[i]? = some a → a ≠ st)) (fun j => [(13, .int .i64 (j : Nat))]) (fun j => []) (fun j => y.st.length - j) (.of [3, 5, 6, 9, 10] rfl) (.of [0, 1, 2, 3, 4, 5, 105, 106, 109, 110] rfl) 0 ?_ ?_ ?_ ?_
    · exact ⟨Nat.zero_le _, fun _ _ h => absurd h (Nat.not_lt_zero _)⟩
    · exact (q_a .nil)
    · exact .nil
    rintro j ⟨hj, hI⟩
    refine q_k [13, 3, 5, 6, 9, 10] [0, 1, 2, 3, 4, 5, 105, 106, 109, 110] ?_
    refine W.seq (q_sr (q_q q_mv (q_q (q_fa fo59_3) (q_q (q_l 106 u55) (q_q (q_n u55) (q_q (q_b BinV.lss) (q_nn (q_k [3, 5, 6, 9, 10, 13, 74] [0, 1, 2, 3, 4, 5, 105, 106, 109, 110] ?_))))))))
    first | refine W.condD rfl (fun hc74 => ?_) (fun hc74 => ?_) | (refine W.cond rfl (fun hc74 => ?_) (fun hc74 => ?_) <;> try simp only [Bool.or_eq_true, Bool.and_eq_true, Bool.not_eq_true', Bool.not_eq_false', decide_eq_true_eq, Bool.or_eq_false_iff, Bool.and_eq_false_iff, decide_eq_false_iff_not, beq_iff_eq, beq_eq_false_iff_ne, ne_eq, Decidable.not_not] at hc74)
    ·
     obtain ⟨a, ha⟩ : ∃ a, y.st[j]? = some a := ⟨_, List.getElem?_eq_getElem (by omega)⟩
     have hla := iz_get ha
     obtain ⟨v, hv2⟩ : ∃ v, y.va[j]? = some v := ⟨_, List.getElem?_eq_getElem (by have := hys.len; omega)⟩
     have hlv := iz_get hv2
     refine W.skip (N.next (W.seq (W.block (q_sr (q_q (q_fa fo59_3) (q_q (q_l 106 u55) (q_q q_mv ?_)))))))
     refine q_q (q_ix u55 sz3) ?_
     refine q_q (by first | exact (by first | exact q_r1 1 u3 | exact q_r1 2 u3 | exact q_r1 3 u3 | exact q_r1 4 u3 | exact q_r1 5 u3 | exact q_r1 105 u3 | exact q_r1 106 u3 | exact q_r1 109 u3 | exact q_r1 110 u3) | exact (by first | exact q_rF 1 0 u3 | exact q_rF 2 0 u3 | exact q_rF 3 0 u3 | exact q_rF 4 0 u3 | exact q_rF 5 0 u3 | exact q_rF 105 0 u3 | exact q_rF 106 0 u3 | exact q_rF 109 0 u3 | exact q_rF 110 0 u3)) ?_
     refine q_q q_mv (q_q (q_b BinV.eql) (q_nn (q_k [3, 5, 6, 9, 10, 13, 83] [0, 1, 2, 3, 4, 5, 105, 106, 109, 110] ?_)))
     first | refine W.condD rfl (fun hc83 => ?_) (fun hc83 => ?_) | (refine W.cond rfl (fun hc83 => ?_) (fun hc83 => ?_) <;> try simp only [Bool.or_eq_true, Bool.and_eq_true, Bool.not_eq_true', Bool.not_eq_false', decide_eq_true_eq, Bool.or_eq_false_iff, Bool.and_eq_false_iff, decide_eq_false_iff_not, beq_iff_eq, beq_eq_false_iff_ne, ne_eq, Decidable.not_not] at hc83)
     ·
      have hlk := hys.hit (by rw [ha, show a = st from hc83]) hv2 hI
      have hdp : (doP (kdOf m c.it) mach t g st c) = (Fen.seen t g, 0, v) := by
        unfold doP
        rw [if_neg (fun h => h hok), if_neg hgn, hlk]
      refine W.seq ?_
      refine W.draw (.q 0 (.q 1 (.q 2 (.q 3 (.q 4 (.q 5 (.one 6 (.q 7 (.q 8 .done))))))))) (.of [0, 1, 2, 3, 4, 5, 105, 106, 109] rfl) mix (by kernel_rfl) (by kernel_rfl) (q_d rfl (q_lw 106 u59 sz59) (q_d rfl (q_fa fo59_4) (q_d rfl (q_l 106 u56) (q_d rfl q_mv ?_))))
      refine q_d rfl (q_ix u56 sz2) ?_
      refine q_d rfl (by first | exact (by first | exact q_r1 1 u2 | exact q_r1 2 u2 | exact q_r1 3 u2 | exact q_r1 4 u2 | exact q_r1 5 u2 | exact q_r1 105 u2 | exact q_r1 106 u2 | exact q_r1 109 u2 | exact q_r1 110 u2) | exact (by first | exact q_rF 1 0 u2 | exact q_rF 2 0 u2 | exact q_rF 3 0 u2 | exact q_rF 4 0 u2 | exact q_rF 5 0 u2 | exact q_rF 105 0 u2 | exact q_rF 106 0 u2 | exact q_rF 109 0 u2 | exact q_rF 110 0 u2)) ?_
      refine q_o0 rfl (q_st 110 sz59) ?_
      rintro _ _ rfl
      refine q_d rfl q_as (q_d rfl q_as (DL.done (N.next (q_k [10, 11, 12] [0, 1, 2, 3, 4, 5, 105, 106, 109, 110] ?_))))
      refine W.ret (N.block_ret (N.then_ret (N.then_ret (N.block_ret (N.then_ret ?_)))))
      exact q_r [1, 2, 3, 4, 5] (.cons (q_rc 110 u59 sz59) (.cons (.tmp rfl) (.cons (.tmp rfl) .nil))) rfl rfl rfl ⟨y, by rw [hdp]; rfl, hy, by rw [hdp]; exact hys, rfl⟩
     ·
      refine W.skip (N.block_normal (N.next (W.region (q_q q_mv ?_))))
      refine q_q q_ad (q_q q_as (RL.nil ?_))
      exact N.famK (j + 1) ⟨⟨by omega, fun q b hq hb3 => (Nat.lt_succ_iff_lt_or_eq.1 hq).elim (fun h => hI q b h hb3) (fun e => by subst e; rw [ha] at hb3; cases hb3; exact hc83)⟩, by omega⟩ (q_a .nil) (.to rfl) .nil (.to rfl)
    ·
     have hlk := hys.miss fun i a hi ha => hI i a (by omega) ha
     have hb2 : y.us.length ≤ 900000 := by rw [hys.us, seen_us]; exact hb
     have hI2 : Inv (kdOf m) mach y.us := by rw [hys.us]; exact (seen_ti hT g).inv
     have hey : (execP (decide (kdOf m c.it = 2)) y.us y.cl c) = (execP (decide (kdOf m c.it = 2)) (Fen.seen t g).us (Fen.seen t g).cs c) := by rw [hys.us, hys.cl]
     refine W.exit (N.then_exit (N.then_exit (N.block_eq (N.next (q_sr (q_q (q_lw 105 u29 sz29) (q_q (q_lw 106 u59 sz59) (q_q (q_lw 109 u36 sz36) ?_))))))))
     refine q_e (q_c ent104 [1, 2, 5] [1, 2, 5] (rexecute_ct m H1 hM y mach hy c hI2 hok.2.2 hb2)) ?_
     rintro _ _ ⟨_, ⟨He, pe, ce, rfl, hSe, rfl⟩, rfl⟩
     rw [hey] at hSe ⊢
     refine q_q q_mv (q_q q_x (q_q q_x (q_q q_x (q_s 106 sz59 ?_))))
     refine q_q q_as (q_an ?_)
     refine q_k [3, 6, 10, 14, 15] [0, 1, 2, 3, 4, 5, 105, 106, 109, 110] ?_
     refine W.seq (q_sr (q_q q_mv (q_q (q_b BinV.eql) (q_nn ?_))))
     first | refine W.condD rfl (fun hc99 => ?_) (fun hc99 => ?_) | (refine W.cond rfl (fun hc99 => ?_) (fun hc99 => ?_) <;> try simp only [Bool.or_eq_true, Bool.and_eq_true, Bool.not_eq_true', Bool.not_eq_false', decide_eq_true_eq, Bool.or_eq_false_iff, Bool.and_eq_false_iff, decide_eq_false_iff_not, beq_iff_eq, beq_eq_false_iff_ne, ne_eq, Decidable.not_not] at hc99)
     ·
      have hdp : (doP (kdOf m c.it) mach t g st c) = ({ Fen.seen t g with us := (execP (decide (kdOf m c.it = 2)) (Fen.seen t g).us (Fen.seen t g).cs c).1, dn := (Fen.seen t g).dn ++ [(st, (execP (decide (kdOf m c.it = 2)) (Fen.seen t g).us (Fen.seen t g).cs c).2.2)] }, 0, (execP (decide (kdOf m c.it = 2)) (Fen.seen t g).us (Fen.seen t g).cs c).2.2) := by
        unfold doP
        rw [if_neg (fun h => h hok), if_neg hgn, hlk]
        exact if_pos hc99
      refine q_sr ?_
      refine q_e (Eff.buildSlice 200 u55 sz3 zc3 rfl rfl .nil rfl) ?_
      rintro _ _ ⟨b100, rfl, rfl⟩
      refine q_q (q_fa fo59_3) (q_q (q_l 106 u55) ?_)
      refine q_e (Eff.appendE (tc := 200) (sc := 3) (ms := y.st) (ls := ([] : List Int)) (fun z : Int => [Value.int .i64 z]) u55 el3 rfl rfl rfl rfl (iz_none rfl) rfl hSs rfl (iz_one1 _) (by decide) (by simp; omega) (by simp [maxLen]; omega)) ?_
      rintro _ _ ⟨H1, p1, c1, rfl, hO1, rfl⟩
      refine q_q q_mv ?_
      refine q_e (Eff.buildSlice 205 u55 sz3 zc3 rfl rfl (.cons rfl rfl .nil) rfl) ?_
      rintro _ _ ⟨b105, rfl, rfl⟩
      refine q_e (Eff.appendE (tc := 200) (sc := 205) (ms := [st]) (fun z : Int => [Value.int .i64 z]) u55 el3 rfl rfl rfl rfl hO1 rfl (iz_single rfl) rfl (iz_one1 _) (by decide) (by simp; omega) (by simp [maxLen]; omega)) ?_
      rintro _ _ ⟨H2, p2, c2, rfl, hO2, rfl⟩
      refine q_q (q_fa fo59_3) (q_s 106 sz55 ?_)
      refine q_nn (q_k [6, 10, 14, 15] [0, 1, 2, 3, 4, 5, 105, 106, 109, 110, 200, 205] ?_)
      refine W.region ?_
      refine q_e (Eff.buildSlice 208 u56 sz2 zc2 rfl rfl .nil rfl) ?_
      rintro _ _ ⟨b108, rfl, rfl⟩
      refine q_q (q_fa fo59_4) (q_q (q_l 106 u56) ?_)
      refine q_e (Eff.appendE (tc := 208) (sc := 4) (ms := y.va) (ls := ([] : List Int)) (fun z : Int => [Value.int .i64 z]) u56 el2 rfl rfl rfl rfl (iz_none rfl) rfl hSv rfl (iz_one1 _) (by decide) (by simp; omega) (by simp [maxLen]; omega)) ?_
      rintro _ _ ⟨H3, p3, c3, rfl, hO3, rfl⟩
      refine q_q q_mv ?_
      refine q_e (Eff.buildSlice 213 u56 sz2 zc2 rfl rfl (.cons rfl rfl .nil) rfl) ?_
      rintro _ _ ⟨b113, rfl, rfl⟩
      refine q_e (Eff.appendE (tc := 208) (sc := 213) (ms := [(execP (decide (kdOf m c.it = 2)) (Fen.seen t g).us (Fen.seen t g).cs c).2.2]) (fun z : Int => [Value.int .i64 z]) u56 el2 rfl rfl rfl rfl hO3 rfl (iz_single rfl) rfl (iz_one1 _) (by decide) (by simp; omega) (by simp [maxLen]; omega)) ?_
      rintro _ _ ⟨H4, p4, c4, rfl, hO4, rfl⟩
      refine q_q (q_fa fo59_4) (q_s 106 sz56 ?_)
      refine q_nn (q_k [6, 10, 14, 15] [0, 1, 2, 3, 4, 5, 105, 106, 109, 110, 200, 205, 208, 213] ?_)
      refine q_sr (q_q (q_lw 106 u59 sz59) (q_q q_mv (q_q q_mv (q_s 110 sz59 ?_))))
      refine q_q q_as (q_an ?_)
      refine q_k [10, 11, 12] [0, 1, 2, 3, 4, 5, 105, 106, 109, 110, 200, 205, 208, 213] ?_
      refine W.ret ?_
      exact q_r [1, 2, 200, 208, 5] (.cons (q_rc 110 u59 sz59) (.cons (.tmp rfl) (.cons (.tmp rfl) .nil))) rfl rfl rfl ⟨(y.setU pe ce (execP (decide (kdOf m c.it = 2)) (Fen.seen t g).us (Fen.seen t g).cs c).1 He).add st (execP (decide (kdOf m c.it = 2)) (Fen.seen t g).us (Fen.seen t g).cs c).2.2 p2 c2 H2 p4 c4 H4, by rw [hdp, hc99]; rfl, (hy.setU hSe).add hO2.sl hO4.sl, by rw [hdp]; exact hys.setU.add, rfl⟩
     ·
      have hdp : (doP (kdOf m c.it) mach t g st c) = ({ Fen.seen t g with us := (execP (decide (kdOf m c.it = 2)) (Fen.seen t g).us (Fen.seen t g).cs c).1 }, (execP (decide (kdOf m c.it = 2)) (Fen.seen t g).us (Fen.seen t g).cs c).2.1, 0) := by
        unfold doP
        rw [if_neg (fun h => h hok), if_neg hgn, hlk]
        exact if_neg hc99
      have hv0 : (execP (decide (kdOf m c.it = 2)) (Fen.seen t g).us (Fen.seen t g).cs c).2.2 = 0 := exec_err0 hc99
      refine W.skip (N.next (q_sr (q_q (q_lw 106 u59 sz59) (q_q q_mv (q_q q_mv (q_s 110 sz59 ?_))))))
      refine q_q q_as (q_an ?_)
      refine q_k [10, 11, 12] [0, 1, 2, 3, 4, 5, 105, 106, 109, 110] ?_
      refine W.ret ?_
      exact q_r [1, 2, 3, 4, 5] (.cons (q_rc 110 u59 sz59) (.cons (.tmp rfl) (.cons (.tmp rfl) .nil))) rfl rfl rfl ⟨y.setU pe ce (execP (decide (kdOf m c.it = 2)) (Fen.seen t g).us (Fen.seen t g).cs c).1 He, by rw [hdp, ← hv0]; rfl, hy.setU hSe, by rw [hdp]; exact hys.setU, rfl⟩
end Go.Proofs.YtboapdcmaeojgaaGreatDoor
namespace Go.Proofs.YtboapdcmaeojgaaGreatDoor
open SL Cat Fen
set_option linter.unusedVariables false
set_option linter.unusedSimpArgs false
def Fen.Rt.setC (x : Rt) (p : Option Addr) (n : Nat) (cl : List Cl) (H : PH) : Rt := { x with pc := p, cc := n, cl := cl, HC := H }
theorem Fen.Rt.In.setC {x : Rt} (h : x.In) {p : Option Addr} {c : Nat} {l : List Cl} {H : PH} (hS : Sl H p c 4 (l.map Cl.c)) : (x.setC p c l H).In := ⟨h.u, h.s, h.v, hS⟩
theorem Fen.Rt.Is.setC {x : Rt} {t : T} (h : x.Is t) {p : Option Addr} {c : Nat} {l : List Cl} {H : PH} : (x.setC p c l H).Is { t with cs := l } := ⟨h.us, h.gn, h.st, h.va, rfl⟩
theorem fvU_fnd {us : List U} {it : Int} {u : U} (h : fvU us it = (u, true)) : ∃ i, fnd us it = some i ∧ us[i]? = some u := fndU_get (fvU_t h)
set_option maxRecDepth 100000 in
set_option maxHeartbeats 3200000 in
theorem rbegin_ct (m : Md) (H1 : PH) (hM : m.In H1) (x : Rt) (mach : Int) (hx : x.In) (t : T) (hxt : x.Is t) (c : Cl) (hb : t.cs.length ≤ 900000) : Ct Tryz.prog 63 [.agg [.slice m.psi m.si.length m.csi, .slice m.pfe m.fe.length m.cfe, .slice m.prk m.rk.length m.crk, .slice m.pmc m.mc.length m.cmc, .slice m.pln m.ln.length m.cln, .slice m.pis m.is.length m.cis, .int .i64 m.da, .int .i64 m.sl, .int .i64 m.re, .int .i64 m.fa, .slice m.prl m.rl.length m.crl].toArray, .agg [.int .i64 mach, .slice x.pu x.us.length x.cu, .int .i64 x.gen, .slice x.ps x.st.length x.cs, .slice x.pv x.va.length x.cv, .slice x.pc x.cl.length x.cc].toArray, .agg [.int .i64 c.it, .int .i64 c.cl, .int .i64 c.nu, .int .i64 c.va].toArray] [H1, x.HU, x.HS, x.HV, x.HC] (fun v Hs => ∃ y : Rt, v = .tuple [.agg [.int .i64 mach, .slice y.pu y.us.length y.cu, .int .i64 y.gen, .slice y.ps y.st.length y.cs, .slice y.pv y.va.length y.cv, .slice y.pc y.cl.length y.cc].toArray, .int .i64 (beginP (kdOf m c.it) t c).2].toArray ∧ y.In ∧ y.Is (beginP (kdOf m c.it) t c).1 ∧ Hs = [H1, y.HU, y.HS, y.HV, y.HC]) := by
  refine Ct.body Tryz.func63 rfl Tryz.ntmps63 rfl ?_
  intro E F
  obtain ⟨hSu, hSs, hSv, hSc⟩ := id hx
  have hmu := hSu.len_le
  have hms := hSs.len_le
  have hmv := hSv.len_le
  have hmc := hSc.len_le
  simp only [List.length_map, iz_len, maxLen] at hmu hms hmv hmc
  have hcl : x.cl.length = t.cs.length := by rw [hxt.cl]
  refine q_sr ?_
  refine q_bx 103 fun b3 => ?_
  refine q_bx 104 fun b4 => ?_
  refine q_bx 105 fun b5 => ?_
  refine q_al 106 zc59 fun b6 => ?_
  refine q_an ?_
  refine q_k [3, 4, 5, 6] [0, 1, 2, 3, 4, 5, 103, 104, 105, 106] ?_
  refine W.seq (q_sr (q_q (q_fa fo38_1) (q_q (q_l 105 u3) (q_q (q_b BinV.lss) (q_q q_mv ?_)))))
  refine' q_or 14 18 4 [3, 4, 5, 6, 11, 12, 13] [0, 1, 2, 3, 4, 5, 103, 104, 105, 106] ?_ ?_ ?_
  rotate_left 1
  ·
   intro hg14
   refine q_g (q_fa fo38_2) (q_g (q_l 105 u3) (q_g (q_b BinV.lss) (q_q Yld.pk ?_)))
   exact q_m
  ·
   intro hg14
   repeat refine q_gs ?_
   refine q_q Yld.pk ?_
   exact q_m
  refine q_q q_mv ?_
  refine' q_or 19 25 6 [3, 4, 5, 6, 11, 12, 13, 18] [0, 1, 2, 3, 4, 5, 103, 104, 105, 106] ?_ ?_ ?_
  rotate_left 1
  ·
   intro hg19
   refine q_g (q_lw 103 u29 sz29) (q_g (q_fa fo38_0) (q_g (q_l 105 u3) ?_))
   refine RL.ge rfl rfl (q_c ent47 [1] [1] (rkind_ct m H1 hM c.it)) rfl ?_
   rintro _ _ ⟨_, ⟨rfl, rfl⟩, rfl⟩
   refine q_g (q_b BinV.neq) (q_q Yld.pk ?_)
   exact q_m
  ·
   intro hg19
   repeat refine q_gs ?_
   refine q_q Yld.pk ?_
   exact q_m
  refine q_nn (q_k [4, 5, 6, 25] [0, 1, 2, 3, 4, 5, 103, 104, 105, 106] ?_)
  refine W.cond rfl (fun hc25 => ?_) (fun hc25 => ?_)
  ·
   have hbp : (beginP (kdOf m c.it) t c) = (t, 1) := by
     unfold beginP
     refine if_pos fun h => ?_
     simp only [Bool.or_eq_true, decide_eq_true_eq, ne_eq] at hc25
     omega
   refine q_sr (q_q (q_lw 104 u59 sz59) (q_s 106 sz59 ?_))
   refine q_an ?_
   refine q_k [6, 7] [0, 1, 2, 3, 4, 5, 103, 104, 105, 106] ?_
   refine W.ret (N.then_ret ?_)
   exact q_r [1, 2, 3, 4, 5] (.cons (q_rc 106 u59 sz59) (.cons (.tmp rfl) .nil)) rfl rfl rfl ⟨x, by rw [hbp]; rfl, hx, by rw [hbp]; exact hxt, rfl⟩
  ·
   have hok : 1 ≤ c.cl ∧ 1 ≤ c.nu ∧ kdOf m c.it = 1 := by
     simp only [Bool.or_eq_false_iff, decide_eq_false_iff_not, ne_eq] at hc25
     omega
   refine W.skip (N.next (q_sr (q_q (q_lw 104 u59 sz59) (q_q (q_fa fo38_0) (q_q (q_l 105 u3) ?_)))))
   refine q_e (q_c ent52 [2] [2] (rfind_ct x mach hx c.it)) ?_
   rintro _ _ ⟨_, ⟨rfl, rfl⟩, rfl⟩
   obtain ⟨⟨u, ub⟩, hfu⟩ : ∃ q, fvU x.us c.it = q := ⟨_, rfl⟩
   rw [hfu]
   refine q_q q_mv (q_q q_x (q_q q_x ?_))
   refine q_al 108 zc48 fun b8 => ?_
   refine q_s 108 sz48 ?_
   refine q_an ?_
   refine q_k [4, 5, 6, 8, 9] [0, 1, 2, 3, 4, 5, 103, 104, 105, 106, 108] ?_
   refine W.seq (q_sr (q_q q_mv (q_q Yld.nt (q_nn ?_))))
   refine W.cond rfl (fun hc35 => ?_) (fun hc35 => ?_)
   ·
    rw [Bool.not_eq_true'] at hc35
    have hfn := fndU_none.1 (fvU_f (hfu.trans (congrArg (Prod.mk u) (show ub = false from hc35))))
    rw [hxt.us] at hfn
    have hbp : (beginP (kdOf m c.it) t c) = (t, 6) := by
      unfold beginP
      rw [if_neg (fun h => h hok), hfn]
    refine q_sr (q_q (q_lw 104 u59 sz59) (q_s 106 sz59 ?_))
    refine q_an ?_
    refine q_k [6, 7] [0, 1, 2, 3, 4, 5, 103, 104, 105, 106, 108] ?_
    refine W.ret (N.then_ret ?_)
    exact q_r [1, 2, 3, 4, 5] (.cons (q_rc 106 u59 sz59) (.cons (.tmp rfl) .nil)) rfl rfl rfl ⟨x, by rw [hbp]; rfl, hx, by rw [hbp]; exact hxt, rfl⟩
   ·
    rw [Bool.not_eq_false'] at hc35
    obtain ⟨i, hfn, hti⟩ := fvU_fnd (hfu.trans (congrArg (Prod.mk u) (show ub = true from hc35)))
    rw [hxt.us] at hfn hti
    refine W.skip (N.next (W.seq (q_sr (q_q (q_fa fo48_2) (q_q (q_l 108 u3) (q_q (q_b BinV.eql) (q_nn (q_k [4, 5, 6, 39] [0, 1, 2, 3, 4, 5, 103, 104, 105, 106, 108] ?_))))))))
    first | refine W.condD rfl (fun hc39 => ?_) (fun hc39 => ?_) | (refine W.cond rfl (fun hc39 => ?_) (fun hc39 => ?_) <;> try simp only [Bool.or_eq_true, Bool.and_eq_true, Bool.not_eq_true', Bool.not_eq_false', decide_eq_true_eq, Bool.or_eq_false_iff, Bool.and_eq_false_iff, decide_eq_false_iff_not, beq_iff_eq, beq_eq_false_iff_ne, ne_eq, Decidable.not_not] at hc39)
    ·
     have hbp : (beginP (kdOf m c.it) t c) = (t, 9) := by
       unfold beginP
       rw [if_neg (fun h => h hok), hfn]
       show (if stOf t.us i = 1 then _ else _) = _
       rw [stOf_get hti, if_pos hc39]
     refine q_sr (q_q (q_lw 104 u59 sz59) (q_s 106 sz59 ?_))
     refine q_an ?_
     refine q_k [6, 7] [0, 1, 2, 3, 4, 5, 103, 104, 105, 106, 108] ?_
     refine W.ret (N.then_ret ?_)
     exact q_r [1, 2, 3, 4, 5] (.cons (q_rc 106 u59 sz59) (.cons (.tmp rfl) .nil)) rfl rfl rfl ⟨x, by rw [hbp]; rfl, hx, by rw [hbp]; exact hxt, rfl⟩
    ·
     refine W.skip (N.next (W.seq (q_sr (q_an ?_))))
     refine W.block ?_
     refine W.loopK (ι := Nat) (fun j => (j ≤ x.cl.length ∧ ∀ (i : Nat) a, i < j → x.cl[i]? = some a → sameCl c a = false)) (fun j => [(10, .int .i64 (j : Nat))]) (fun j => []) (fun j => x.cl.length - j) (.of [4, 5, 6] rfl) (.of [0, 1, 2, 3, 4, 5, 103, 104, 105, 106, 108] rfl) 0 ?_ ?_ ?_ ?_
     · exact ⟨Nat.zero_le _, fun _ _ h => absurd h (Nat.not_lt_zero _)⟩
     · exact (q_a .nil)
     · exact .nil
     rintro j ⟨hj, hI⟩
     refine q_k [10, 4, 5, 6] [0, 1, 2, 3, 4, 5, 103, 104, 105, 106, 108] ?_
     refine W.seq (q_sr (q_q q_mv (q_q (q_fa fo59_5) (q_q (q_l 104 u57) (q_q (q_n u57) (q_q (q_b BinV.lss) (q_nn (q_k [4, 5, 6, 10, 45] [0, 1, 2, 3, 4, 5, 103, 104, 105, 106, 108] ?_))))))))
     first | refine W.condD rfl (fun hc45 => ?_) (fun hc45 => ?_) | (refine W.cond rfl (fun hc45 => ?_) (fun hc45 => ?_) <;> try simp only [Bool.or_eq_true, Bool.and_eq_true, Bool.not_eq_true', Bool.not_eq_false', decide_eq_true_eq, Bool.or_eq_false_iff, Bool.and_eq_false_iff, decide_eq_false_iff_not, beq_iff_eq, beq_eq_false_iff_ne, ne_eq, Decidable.not_not] at hc45)
     ·
      obtain ⟨a, ha⟩ : ∃ a, x.cl[j]? = some a := ⟨_, List.getElem?_eq_getElem (show j < x.cl.length by first | omega | (simp only [List.length_map] at *; omega))⟩
      have hla : (x.cl.map Cl.c)[j]? = some a.c := by simp [ha]
      refine W.skip (N.next (W.seq (W.block (W.seq ?_))))
      refine W.draw (.q 0 (.q 1 (.q 2 (.q 3 (.q 4 (.q 5 (.q 6 (.q 7 (.q 8 (.q 9 (.q 10 (.q 11 (.q 12 (.q 13 (.q 14 (.q 15 (.q 16 (.q 17 (.q 18 (.q 19 (.q 20 (.q 21 (.q 22 (.q 23 (.q 24 (.q 25 (.q 26 (.q 27 (.q 28 (.q 29 (.q 30 .done))))))))))))))))))))))))))))))) (.of [0, 1, 2, 3, 4, 5, 103, 104, 105, 106, 108] rfl) mix (by kernel_rfl) (by kernel_rfl) (q_d rfl (q_fa fo59_5) (q_d rfl (q_l 104 u57) ?_))
      refine q_d rfl q_mv ?_
      refine q_d rfl (q_ix u57 sz38) (q_d rfl (q_fa fo38_0) ?_)
      refine q_d rfl (by first | exact (by first | exact q_r1 1 u3 | exact q_r1 2 u3 | exact q_r1 3 u3 | exact q_r1 4 u3 | exact q_r1 5 u3 | exact q_r1 103 u3 | exact q_r1 104 u3 | exact q_r1 105 u3 | exact q_r1 106 u3 | exact q_r1 108 u3) | exact (by first | exact q_rF 1 0 u3 | exact q_rF 2 0 u3 | exact q_rF 3 0 u3 | exact q_rF 4 0 u3 | exact q_rF 5 0 u3 | exact q_rF 103 0 u3 | exact q_rF 104 0 u3 | exact q_rF 105 0 u3 | exact q_rF 106 0 u3 | exact q_rF 108 0 u3)) ?_
      refine q_d rfl (q_fa fo38_0) (q_d rfl (q_l 105 u3) (q_d rfl (q_b BinV.eql) (q_d rfl q_mv ?_)))
      refine' DL.and (t := 57) (d := 67) 10 rfl (.of [4, 5, 6, 10, 45, 48, 49, 50, 51, 52, 53, 54, 55, 56] rfl) (.of [0, 1, 2, 3, 4, 5, 103, 104, 105, 106, 108] rfl) ?_ ?_ ?_
      rotate_left 1
      ·
       intro hg57
       refine DL.gq rfl rfl rfl (q_fa fo59_5) rfl ?_
       refine DL.gq rfl rfl rfl (q_l 104 u57) rfl ?_
       refine DL.gq rfl rfl rfl q_mv rfl ?_
       refine DL.gq rfl rfl rfl (q_ix u57 sz38) rfl ?_
       refine DL.gq rfl rfl rfl (q_fa fo38_1) rfl ?_
       refine DL.gq rfl rfl rfl (by first | exact q_rF 1 1 u3 | exact q_rF 2 1 u3 | exact q_rF 3 1 u3 | exact q_rF 4 1 u3 | exact q_rF 5 1 u3 | exact q_rF 103 1 u3 | exact q_rF 104 1 u3 | exact q_rF 105 1 u3 | exact q_rF 106 1 u3 | exact q_rF 108 1 u3) rfl ?_
       refine DL.gq rfl rfl rfl (q_fa fo38_1) rfl ?_
       refine DL.gq rfl rfl rfl (q_l 105 u3) rfl ?_
       refine DL.gq rfl rfl rfl (q_b BinV.eql) rfl (q_d rfl Yld.pk ?_)
       exact DL.meet (.to rfl) (.to rfl)
      ·
       intro hg57
       repeat refine q_ds ?_
       refine q_d rfl Yld.pk ?_
       exact DL.meet (.to rfl) (.to rfl)
      refine q_d rfl q_mv ?_
      refine' DL.and (t := 68) (d := 78) 10 rfl (.of [4, 5, 6, 10, 45, 48, 49, 50, 51, 52, 53, 54, 55, 56, 67] rfl) (.of [0, 1, 2, 3, 4, 5, 103, 104, 105, 106, 108] rfl) ?_ ?_ ?_
      rotate_left 1
      ·
       intro hg68
       refine DL.gq rfl rfl rfl (q_fa fo59_5) rfl ?_
       refine DL.gq rfl rfl rfl (q_l 104 u57) rfl ?_
       refine DL.gq rfl rfl rfl q_mv rfl ?_
       refine DL.gq rfl rfl rfl (q_ix u57 sz38) rfl ?_
       refine DL.gq rfl rfl rfl (q_fa fo38_2) rfl ?_
       refine DL.gq rfl rfl rfl (by first | exact q_rF 1 2 u3 | exact q_rF 2 2 u3 | exact q_rF 3 2 u3 | exact q_rF 4 2 u3 | exact q_rF 5 2 u3 | exact q_rF 103 2 u3 | exact q_rF 104 2 u3 | exact q_rF 105 2 u3 | exact q_rF 106 2 u3 | exact q_rF 108 2 u3) rfl ?_
       refine DL.gq rfl rfl rfl (q_fa fo38_2) rfl ?_
       refine DL.gq rfl rfl rfl (q_l 105 u3) rfl ?_
       refine DL.gq rfl rfl rfl (q_b BinV.eql) rfl (q_d rfl Yld.pk ?_)
       exact DL.meet (.to rfl) (.to rfl)
      ·
       intro hg68
       repeat refine q_ds ?_
       refine q_d rfl Yld.pk ?_
       exact DL.meet (.to rfl) (.to rfl)
      refine DL.done (N.next (q_k [4, 5, 6, 10, 78] [0, 1, 2, 3, 4, 5, 103, 104, 105, 106, 108] ?_))
      refine W.cond rfl (fun hc78 => ?_) (fun hc78 => ?_)
      ·
       have hsc : sameCl c a = true := by unfold sameCl; rw [← Bool.and_assoc]; exact hc78
       have hany : t.cs.any (sameCl c) = true := List.any_eq_true.2 ⟨a, by rw [← hxt.cl]; exact List.mem_of_getElem? ha, hsc⟩
       have hbp : (beginP (kdOf m c.it) t c) = (t, 0) := by
         unfold beginP
         rw [if_neg (fun h => h hok), hfn]
         show (if stOf t.us i = 1 then _ else _) = _
         rw [stOf_get hti, if_neg hc39, if_pos hany]
       refine q_sr (q_q (q_lw 104 u59 sz59) (q_s 106 sz59 ?_))
       refine q_an ?_
       refine q_k [6, 7] [0, 1, 2, 3, 4, 5, 103, 104, 105, 106, 108] ?_
       refine W.ret (N.block_ret (N.then_ret (N.then_ret (N.block_ret (N.then_ret ?_)))))
       exact q_r [1, 2, 3, 4, 5] (.cons (q_rc 106 u59 sz59) (.cons (.tmp rfl) .nil)) rfl rfl rfl ⟨x, by rw [hbp]; rfl, hx, by rw [hbp]; exact hxt, rfl⟩
      ·
       have hsc : sameCl c a = false := by unfold sameCl; rw [← Bool.and_assoc]; exact hc78
       refine W.skip (N.block_normal (N.next (W.region (q_q q_mv ?_))))
       refine q_q q_ad (q_q q_as (RL.nil ?_))
       exact N.famK (j + 1) ⟨⟨by omega, fun q b hq hb3 => (Nat.lt_succ_iff_lt_or_eq.1 hq).elim (fun h => hI q b h hb3) (fun e => by subst e; rw [ha] at hb3; cases hb3; exact hsc)⟩, by omega⟩ (q_a .nil) (.to rfl) .nil (.to rfl)
     ·
      have hany : ¬ t.cs.any (sameCl c) = true := fun h => by
        obtain ⟨a, ha, hsa⟩ := List.any_eq_true.1 h
        rw [← hxt.cl] at ha
        obtain ⟨i2, hi2⟩ := List.getElem?_of_mem ha
        rw [hI i2 a (by have := (List.getElem?_eq_some_iff.1 hi2).1; omega) hi2] at hsa
        cases hsa
      have hbp : (beginP (kdOf m c.it) t c) = ({ t with cs := t.cs ++ [c] }, 0) := by
        unfold beginP
        rw [if_neg (fun h => h hok), hfn]
        show (if stOf t.us i = 1 then _ else _) = _
        rw [stOf_get hti, if_neg hc39, if_neg hany]
      refine W.exit (N.then_exit (N.then_exit (N.block_eq (N.next (W.seq ?_)))))
      refine W.draw (.q 1 (.q 4 (.three 0 (.two 2 (.two 3 (.one 5 (.one 6 (.q 7 (.one 8 .done)))) 5 (.one 3 (.one 6 (.q 7 (.one 8 .done))))) 5 (.one 2 (.one 3 (.one 6 (.q 7 (.one 8 .done)))))) 2 (.two 0 (.two 3 (.one 5 (.one 6 (.q 7 (.one 8 .done)))) 5 (.one 3 (.one 6 (.q 7 (.one 8 .done))))) 5 (.one 0 (.one 3 (.one 6 (.q 7 (.one 8 .done)))))) 5 (.two 0 (.one 2 (.one 3 (.one 6 (.q 7 (.one 8 .done))))) 2 (.one 0 (.one 3 (.one 6 (.q 7 (.one 8 .done))))))))) (.of [0, 1, 2, 3, 4, 5, 103, 105, 106, 108] rfl) mix (by kernel_rfl) (by kernel_rfl) ?_
      refine q_d rfl (q_fa fo59_5) (q_d rfl (q_lw 105 u38 sz38) ?_)
      refine DL.three ?_ ?_ ?_
      ·
       refine q_o rfl (Eff.buildSlice 180 u57 sz38 zc38 rfl rfl .nil rfl) ?_
       rintro _ _ ⟨b80, rfl, rfl⟩
       refine DL.two ?_ ?_
       ·
        refine q_o rfl (Yld.eff (q_l 104 u57)) ?_
        rintro _ _ ⟨rfl, rfl⟩
        refine DL.two ?_ ?_
        ·
         refine q_o rfl (Eff.appendE (tc := 180) (sc := 5) (ms := x.cl) (ls := ([] : List Cl)) Cl.c u57 el38 rfl rfl rfl rfl (Own.none0 rfl : Own _ _ 0 38 4 (([] : List Cl).map Cl.c)) rfl hSc rfl (fun a _ => Cl.one a) (by decide) (by simp; omega) (by simp [maxLen]; omega)) ?_
         rintro _ _ ⟨G1, p1, c1, rfl, hO1, rfl⟩
         refine q_o rfl (Eff.buildSlice 185 u57 sz38 zc38 rfl rfl (.cons rfl rfl .nil) rfl) ?_
         rintro _ _ ⟨b85, rfl, rfl⟩
         refine q_o rfl (Eff.appendE (tc := 180) (sc := 185) (ms := [c]) Cl.c u57 el38 rfl rfl rfl rfl hO1 rfl (Own.one (l := c.c) rfl (Cl.one c) rfl).sl rfl (fun a _ => Cl.one a) (by decide) (by simp; omega) (by simp [maxLen]; omega)) ?_
         rintro _ _ ⟨H2, p2, c2, rfl, hO2, rfl⟩
         refine q_d rfl (q_fa fo59_5) ?_
         refine q_o0 rfl (q_st 104 sz57) ?_
         rintro _ _ rfl
         refine DL.done (N.next (q_k [4, 6] [0, 1, 2, 3, 4, 5, 103, 104, 105, 106, 108, 180, 185] ?_))
         refine q_sr (q_q (q_lw 104 u59 sz59) (q_s 106 sz59 ?_))
         refine q_an ?_
         refine W.ret ?_
         exact q_r [1, 2, 3, 4, 180] (.cons (q_rc 106 u59 sz59) (.cons (.tmp rfl) .nil)) rfl rfl rfl ⟨x.setC p2 c2 (x.cl ++ [c]) H2, by rw [hbp]; rfl, hx.setC hO2.sl, by rw [hbp, ← hxt.cl]; exact hxt.setC, rfl⟩
        ·
         refine q_o rfl (Eff.buildSlice 185 u57 sz38 zc38 rfl rfl (.cons rfl rfl .nil) rfl) ?_
         rintro _ _ ⟨b85, rfl, rfl⟩
         refine q_o rfl (Eff.appendE (tc := 180) (sc := 5) (ms := x.cl) (ls := ([] : List Cl)) Cl.c u57 el38 rfl rfl rfl rfl (Own.none0 rfl : Own _ _ 0 38 4 (([] : List Cl).map Cl.c)) rfl hSc rfl (fun a _ => Cl.one a) (by decide) (by simp; omega) (by simp [maxLen]; omega)) ?_
         rintro _ _ ⟨G1, p1, c1, rfl, hO1, rfl⟩
         refine q_o rfl (Eff.appendE (tc := 180) (sc := 185) (ms := [c]) Cl.c u57 el38 rfl rfl rfl rfl hO1 rfl (Own.one (l := c.c) rfl (Cl.one c) rfl).sl rfl (fun a _ => Cl.one a) (by decide) (by simp; omega) (by simp [maxLen]; omega)) ?_
         rintro _ _ ⟨H2, p2, c2, rfl, hO2, rfl⟩
         refine q_d rfl (q_fa fo59_5) ?_
         refine q_o0 rfl (q_st 104 sz57) ?_
         rintro _ _ rfl
         refine DL.done (N.next (q_k [4, 6] [0, 1, 2, 3, 4, 5, 103, 104, 105, 106, 108, 180, 185] ?_))
         refine q_sr (q_q (q_lw 104 u59 sz59) (q_s 106 sz59 ?_))
         refine q_an ?_
         refine W.ret ?_
         exact q_r [1, 2, 3, 4, 180] (.cons (q_rc 106 u59 sz59) (.cons (.tmp rfl) .nil)) rfl rfl rfl ⟨x.setC p2 c2 (x.cl ++ [c]) H2, by rw [hbp]; rfl, hx.setC hO2.sl, by rw [hbp, ← hxt.cl]; exact hxt.setC, rfl⟩
       ·
        refine q_o rfl (Eff.buildSlice 185 u57 sz38 zc38 rfl rfl (.cons rfl rfl .nil) rfl) ?_
        rintro _ _ ⟨b85, rfl, rfl⟩
        refine q_o rfl (Yld.eff (q_l 104 u57)) ?_
        rintro _ _ ⟨rfl, rfl⟩
        refine q_o rfl (Eff.appendE (tc := 180) (sc := 5) (ms := x.cl) (ls := ([] : List Cl)) Cl.c u57 el38 rfl rfl rfl rfl (Own.none0 rfl : Own _ _ 0 38 4 (([] : List Cl).map Cl.c)) rfl hSc rfl (fun a _ => Cl.one a) (by decide) (by simp; omega) (by simp [maxLen]; omega)) ?_
        rintro _ _ ⟨G1, p1, c1, rfl, hO1, rfl⟩
        refine q_o rfl (Eff.appendE (tc := 180) (sc := 185) (ms := [c]) Cl.c u57 el38 rfl rfl rfl rfl hO1 rfl (Own.one (l := c.c) rfl (Cl.one c) rfl).sl rfl (fun a _ => Cl.one a) (by decide) (by simp; omega) (by simp [maxLen]; omega)) ?_
        rintro _ _ ⟨H2, p2, c2, rfl, hO2, rfl⟩
        refine q_d rfl (q_fa fo59_5) ?_
        refine q_o0 rfl (q_st 104 sz57) ?_
        rintro _ _ rfl
        refine DL.done (N.next (q_k [4, 6] [0, 1, 2, 3, 4, 5, 103, 104, 105, 106, 108, 180, 185] ?_))
        refine q_sr (q_q (q_lw 104 u59 sz59) (q_s 106 sz59 ?_))
        refine q_an ?_
        refine W.ret ?_
        exact q_r [1, 2, 3, 4, 180] (.cons (q_rc 106 u59 sz59) (.cons (.tmp rfl) .nil)) rfl rfl rfl ⟨x.setC p2 c2 (x.cl ++ [c]) H2, by rw [hbp]; rfl, hx.setC hO2.sl, by rw [hbp, ← hxt.cl]; exact hxt.setC, rfl⟩
      ·
       refine q_o rfl (Yld.eff (q_l 104 u57)) ?_
       rintro _ _ ⟨rfl, rfl⟩
       refine DL.two ?_ ?_
       ·
        refine q_o rfl (Eff.buildSlice 180 u57 sz38 zc38 rfl rfl .nil rfl) ?_
        rintro _ _ ⟨b80, rfl, rfl⟩
        refine DL.two ?_ ?_
        ·
         refine q_o rfl (Eff.appendE (tc := 180) (sc := 5) (ms := x.cl) (ls := ([] : List Cl)) Cl.c u57 el38 rfl rfl rfl rfl (Own.none0 rfl : Own _ _ 0 38 4 (([] : List Cl).map Cl.c)) rfl hSc rfl (fun a _ => Cl.one a) (by decide) (by simp; omega) (by simp [maxLen]; omega)) ?_
         rintro _ _ ⟨G1, p1, c1, rfl, hO1, rfl⟩
         refine q_o rfl (Eff.buildSlice 185 u57 sz38 zc38 rfl rfl (.cons rfl rfl .nil) rfl) ?_
         rintro _ _ ⟨b85, rfl, rfl⟩
         refine q_o rfl (Eff.appendE (tc := 180) (sc := 185) (ms := [c]) Cl.c u57 el38 rfl rfl rfl rfl hO1 rfl (Own.one (l := c.c) rfl (Cl.one c) rfl).sl rfl (fun a _ => Cl.one a) (by decide) (by simp; omega) (by simp [maxLen]; omega)) ?_
         rintro _ _ ⟨H2, p2, c2, rfl, hO2, rfl⟩
         refine q_d rfl (q_fa fo59_5) ?_
         refine q_o0 rfl (q_st 104 sz57) ?_
         rintro _ _ rfl
         refine DL.done (N.next (q_k [4, 6] [0, 1, 2, 3, 4, 5, 103, 104, 105, 106, 108, 180, 185] ?_))
         refine q_sr (q_q (q_lw 104 u59 sz59) (q_s 106 sz59 ?_))
         refine q_an ?_
         refine W.ret ?_
         exact q_r [1, 2, 3, 4, 180] (.cons (q_rc 106 u59 sz59) (.cons (.tmp rfl) .nil)) rfl rfl rfl ⟨x.setC p2 c2 (x.cl ++ [c]) H2, by rw [hbp]; rfl, hx.setC hO2.sl, by rw [hbp, ← hxt.cl]; exact hxt.setC, rfl⟩
        ·
         refine q_o rfl (Eff.buildSlice 185 u57 sz38 zc38 rfl rfl (.cons rfl rfl .nil) rfl) ?_
         rintro _ _ ⟨b85, rfl, rfl⟩
         refine q_o rfl (Eff.appendE (tc := 180) (sc := 5) (ms := x.cl) (ls := ([] : List Cl)) Cl.c u57 el38 rfl rfl rfl rfl (Own.none0 rfl : Own _ _ 0 38 4 (([] : List Cl).map Cl.c)) rfl hSc rfl (fun a _ => Cl.one a) (by decide) (by simp; omega) (by simp [maxLen]; omega)) ?_
         rintro _ _ ⟨G1, p1, c1, rfl, hO1, rfl⟩
         refine q_o rfl (Eff.appendE (tc := 180) (sc := 185) (ms := [c]) Cl.c u57 el38 rfl rfl rfl rfl hO1 rfl (Own.one (l := c.c) rfl (Cl.one c) rfl).sl rfl (fun a _ => Cl.one a) (by decide) (by simp; omega) (by simp [maxLen]; omega)) ?_
         rintro _ _ ⟨H2, p2, c2, rfl, hO2, rfl⟩
         refine q_d rfl (q_fa fo59_5) ?_
         refine q_o0 rfl (q_st 104 sz57) ?_
         rintro _ _ rfl
         refine DL.done (N.next (q_k [4, 6] [0, 1, 2, 3, 4, 5, 103, 104, 105, 106, 108, 180, 185] ?_))
         refine q_sr (q_q (q_lw 104 u59 sz59) (q_s 106 sz59 ?_))
         refine q_an ?_
         refine W.ret ?_
         exact q_r [1, 2, 3, 4, 180] (.cons (q_rc 106 u59 sz59) (.cons (.tmp rfl) .nil)) rfl rfl rfl ⟨x.setC p2 c2 (x.cl ++ [c]) H2, by rw [hbp]; rfl, hx.setC hO2.sl, by rw [hbp, ← hxt.cl]; exact hxt.setC, rfl⟩
       ·
        refine q_o rfl (Eff.buildSlice 185 u57 sz38 zc38 rfl rfl (.cons rfl rfl .nil) rfl) ?_
        rintro _ _ ⟨b85, rfl, rfl⟩
        refine q_o rfl (Eff.buildSlice 180 u57 sz38 zc38 rfl rfl .nil rfl) ?_
        rintro _ _ ⟨b80, rfl, rfl⟩
        refine q_o rfl (Eff.appendE (tc := 180) (sc := 5) (ms := x.cl) (ls := ([] : List Cl)) Cl.c u57 el38 rfl rfl rfl rfl (Own.none0 rfl : Own _ _ 0 38 4 (([] : List Cl).map Cl.c)) rfl hSc rfl (fun a _ => Cl.one a) (by decide) (by simp; omega) (by simp [maxLen]; omega)) ?_
        rintro _ _ ⟨G1, p1, c1, rfl, hO1, rfl⟩
        refine q_o rfl (Eff.appendE (tc := 180) (sc := 185) (ms := [c]) Cl.c u57 el38 rfl rfl rfl rfl hO1 rfl (Own.one (l := c.c) rfl (Cl.one c) rfl).sl rfl (fun a _ => Cl.one a) (by decide) (by simp; omega) (by simp [maxLen]; omega)) ?_
        rintro _ _ ⟨H2, p2, c2, rfl, hO2, rfl⟩
        refine q_d rfl (q_fa fo59_5) ?_
        refine q_o0 rfl (q_st 104 sz57) ?_
        rintro _ _ rfl
        refine DL.done (N.next (q_k [4, 6] [0, 1, 2, 3, 4, 5, 103, 104, 105, 106, 108, 180, 185] ?_))
        refine q_sr (q_q (q_lw 104 u59 sz59) (q_s 106 sz59 ?_))
        refine q_an ?_
        refine W.ret ?_
        exact q_r [1, 2, 3, 4, 180] (.cons (q_rc 106 u59 sz59) (.cons (.tmp rfl) .nil)) rfl rfl rfl ⟨x.setC p2 c2 (x.cl ++ [c]) H2, by rw [hbp]; rfl, hx.setC hO2.sl, by rw [hbp, ← hxt.cl]; exact hxt.setC, rfl⟩
      ·
       refine q_o rfl (Eff.buildSlice 185 u57 sz38 zc38 rfl rfl (.cons rfl rfl .nil) rfl) ?_
       rintro _ _ ⟨b85, rfl, rfl⟩
       refine DL.two ?_ ?_
       ·
        refine q_o rfl (Eff.buildSlice 180 u57 sz38 zc38 rfl rfl .nil rfl) ?_
        rintro _ _ ⟨b80, rfl, rfl⟩
        refine q_o rfl (Yld.eff (q_l 104 u57)) ?_
        rintro _ _ ⟨rfl, rfl⟩
        refine q_o rfl (Eff.appendE (tc := 180) (sc := 5) (ms := x.cl) (ls := ([] : List Cl)) Cl.c u57 el38 rfl rfl rfl rfl (Own.none0 rfl : Own _ _ 0 38 4 (([] : List Cl).map Cl.c)) rfl hSc rfl (fun a _ => Cl.one a) (by decide) (by simp; omega) (by simp [maxLen]; omega)) ?_
        rintro _ _ ⟨G1, p1, c1, rfl, hO1, rfl⟩
        refine q_o rfl (Eff.appendE (tc := 180) (sc := 185) (ms := [c]) Cl.c u57 el38 rfl rfl rfl rfl hO1 rfl (Own.one (l := c.c) rfl (Cl.one c) rfl).sl rfl (fun a _ => Cl.one a) (by decide) (by simp; omega) (by simp [maxLen]; omega)) ?_
        rintro _ _ ⟨H2, p2, c2, rfl, hO2, rfl⟩
        refine q_d rfl (q_fa fo59_5) ?_
        refine q_o0 rfl (q_st 104 sz57) ?_
        rintro _ _ rfl
        refine DL.done (N.next (q_k [4, 6] [0, 1, 2, 3, 4, 5, 103, 104, 105, 106, 108, 180, 185] ?_))
        refine q_sr (q_q (q_lw 104 u59 sz59) (q_s 106 sz59 ?_))
        refine q_an ?_
        refine W.ret ?_
        exact q_r [1, 2, 3, 4, 180] (.cons (q_rc 106 u59 sz59) (.cons (.tmp rfl) .nil)) rfl rfl rfl ⟨x.setC p2 c2 (x.cl ++ [c]) H2, by rw [hbp]; rfl, hx.setC hO2.sl, by rw [hbp, ← hxt.cl]; exact hxt.setC, rfl⟩
       ·
        refine q_o rfl (Yld.eff (q_l 104 u57)) ?_
        rintro _ _ ⟨rfl, rfl⟩
        refine q_o rfl (Eff.buildSlice 180 u57 sz38 zc38 rfl rfl .nil rfl) ?_
        rintro _ _ ⟨b80, rfl, rfl⟩
        refine q_o rfl (Eff.appendE (tc := 180) (sc := 5) (ms := x.cl) (ls := ([] : List Cl)) Cl.c u57 el38 rfl rfl rfl rfl (Own.none0 rfl : Own _ _ 0 38 4 (([] : List Cl).map Cl.c)) rfl hSc rfl (fun a _ => Cl.one a) (by decide) (by simp; omega) (by simp [maxLen]; omega)) ?_
        rintro _ _ ⟨G1, p1, c1, rfl, hO1, rfl⟩
        refine q_o rfl (Eff.appendE (tc := 180) (sc := 185) (ms := [c]) Cl.c u57 el38 rfl rfl rfl rfl hO1 rfl (Own.one (l := c.c) rfl (Cl.one c) rfl).sl rfl (fun a _ => Cl.one a) (by decide) (by simp; omega) (by simp [maxLen]; omega)) ?_
        rintro _ _ ⟨H2, p2, c2, rfl, hO2, rfl⟩
        refine q_d rfl (q_fa fo59_5) ?_
        refine q_o0 rfl (q_st 104 sz57) ?_
        rintro _ _ rfl
        refine DL.done (N.next (q_k [4, 6] [0, 1, 2, 3, 4, 5, 103, 104, 105, 106, 108, 180, 185] ?_))
        refine q_sr (q_q (q_lw 104 u59 sz59) (q_s 106 sz59 ?_))
        refine q_an ?_
        refine W.ret ?_
        exact q_r [1, 2, 3, 4, 180] (.cons (q_rc 106 u59 sz59) (.cons (.tmp rfl) .nil)) rfl rfl rfl ⟨x.setC p2 c2 (x.cl ++ [c]) H2, by rw [hbp]; rfl, hx.setC hO2.sl, by rw [hbp, ← hxt.cl]; exact hxt.setC, rfl⟩
set_option maxRecDepth 100000 in
set_option maxHeartbeats 3200000 in
theorem rtick_ct (m : Md) (H1 : PH) (hM : m.In H1) (x : Rt) (mach : Int) (hx : x.In) (t : T) (hxt : x.Is t) (hb : t.us.length ≤ 900000) : Ct Tryz.prog 64 [.agg [.slice m.psi m.si.length m.csi, .slice m.pfe m.fe.length m.cfe, .slice m.prk m.rk.length m.crk, .slice m.pmc m.mc.length m.cmc, .slice m.pln m.ln.length m.cln, .slice m.pis m.is.length m.cis, .int .i64 m.da, .int .i64 m.sl, .int .i64 m.re, .int .i64 m.fa, .slice m.prl m.rl.length m.crl].toArray, .agg [.int .i64 mach, .slice x.pu x.us.length x.cu, .int .i64 x.gen, .slice x.ps x.st.length x.cs, .slice x.pv x.va.length x.cv, .slice x.pc x.cl.length x.cc].toArray] [H1, x.HU, x.HS, x.HV, x.HC] (fun v Hs => ∃ y : Rt, v = .tuple [.agg [.int .i64 mach, .slice y.pu y.us.length y.cu, .int .i64 y.gen, .slice y.ps y.st.length y.cs, .slice y.pv y.va.length y.cv, .slice y.pc y.cl.length y.cc].toArray, .slice x.pc x.cl.length x.cc].toArray ∧ y.In ∧ y.Is (tickP (kdOf m) t) ∧ Hs = [H1, y.HU, y.HS, y.HV, y.HC, x.HC]) := by
  refine Ct.body Tryz.func64 rfl Tryz.ntmps64 rfl ?_
  intro E F
  obtain ⟨hSu, hSs, hSv, hSc⟩ := id hx
  have hmu := hSu.len_le
  have hms := hSs.len_le
  have hmv := hSv.len_le
  have hmc := hSc.len_le
  simp only [List.length_map, iz_len, maxLen] at hmu hms hmv hmc
  have hul : x.us.length = t.us.length := by rw [hxt.us]
  refine W.seq ?_
  refine W.imp (Imp.empty _ 160) (W.region ?_)
  refine q_bx 102 fun b2 => ?_
  refine q_bx 103 fun b3 => ?_
  refine q_al 104 zc59 fun b4 => ?_
  refine q_an ?_
  refine q_sr ?_
  refine q_e (Eff.buildSlice 109 u41 sz48 zc48 rfl rfl .nil rfl) ?_
  rintro _ _ ⟨b9, rfl, rfl⟩
  refine q_q (q_fa fo59_1) (q_q (q_l 103 u41) ?_)
  refine q_e (Eff.appendE (tc := 109) (sc := 2) (ms := x.us) (ls := ([] : List U)) U.c u41 el48 rfl rfl rfl rfl (Own.none0 rfl : Own _ _ 0 48 5 (([] : List U).map U.c)) rfl hSu rfl (fun a _ => U.one a) (by decide) (by simp; omega) (by simp [maxLen]; omega)) ?_
  rintro _ _ ⟨G1, p1, c1, rfl, hO1, rfl⟩
  simp only [List.nil_append] at hO1 ⊢
  refine q_an ?_
  refine q_k [2, 3, 4, 6] [0, 1, 2, 3, 4, 5, 102, 103, 104, 109, 160] ?_
  refine W.seq (q_sr (q_an ?_))
  refine W.block ?_
  refine W.loopK (ι := UI) (fun z => (z.j ≤ x.us.length ∧ Own z.H p1 c1 48 5 ((blend (tickU (kdOf m)) x.us z.j).map U.c))) (fun z => [(7, .int .i64 (z.j : Nat))]) (fun z => [(109, z.H)]) (fun z => x.us.length - z.j) (.of [2, 3, 4, 6] rfl) (.of [0, 1, 2, 3, 4, 5, 102, 103, 104, 160] rfl) ⟨0, G1⟩ ?_ ?_ ?_ ?_
  · exact ⟨Nat.zero_le _, by rw [blend_zero]; exact hO1⟩
  · exact (q_a .nil)
  · exact (.to rfl)
  rintro z ⟨hj, hO⟩
  refine q_k [7, 2, 3, 4, 6] [109, 0, 1, 2, 3, 4, 5, 102, 103, 104, 160] ?_
  refine W.seq (q_sr (q_q q_mv (q_q q_mv (q_q (q_n u41) (q_q (q_b BinV.lss) (q_nn ?_))))))
  first | refine W.condD rfl (fun hc16 => ?_) (fun hc16 => ?_) | (refine W.cond rfl (fun hc16 => ?_) (fun hc16 => ?_) <;> try simp only [Bool.or_eq_true, Bool.and_eq_true, Bool.not_eq_true', Bool.not_eq_false', decide_eq_true_eq, Bool.or_eq_false_iff, Bool.and_eq_false_iff, decide_eq_false_iff_not, beq_iff_eq, beq_eq_false_iff_ne, ne_eq, Decidable.not_not] at hc16)
  ·
   obtain ⟨u, hu⟩ : ∃ u, x.us[z.j]? = some u := ⟨_, List.getElem?_eq_getElem (by omega)⟩
   have hlu := uz_get (blend_get (f := tickU (kdOf m)) hu)
   have hbl := blend_len (tickU (kdOf m)) x.us z.j
   refine W.skip (N.next (q_k [2, 3, 4, 6, 7] [0, 1, 2, 3, 4, 5, 102, 103, 104, 109, 160] ?_))
   refine W.seq (W.block (W.seq ?_))
   refine W.draw (.q 0 (.q 1 (.q 2 (.q 3 (.q 4 (.q 5 (.one 6 (.q 7 (.q 8 (.q 9 (.q 10 (.q 11 (.q 12 (.q 13 (.q 14 (.q 15 .done)))))))))))))))) (.of [0, 2, 3, 4, 5, 102, 103, 104, 109, 160] rfl) mix (by kernel_rfl) (by kernel_rfl) (q_d rfl (q_lw 102 u29 sz29) (q_d rfl q_mv (q_d rfl q_mv ?_)))
   refine q_d rfl (q_ix u41 sz48) (q_d rfl (q_fa fo48_0) ?_)
   refine q_d rfl (by first | exact (by first | exact q_r1 1 u3 | exact q_r1 2 u3 | exact q_r1 3 u3 | exact q_r1 4 u3 | exact q_r1 5 u3 | exact q_r1 102 u3 | exact q_r1 103 u3 | exact q_r1 104 u3 | exact q_r1 160 u3 | exact q_r1 109 u3) | exact (by first | exact q_rF 1 0 u3 | exact q_rF 2 0 u3 | exact q_rF 3 0 u3 | exact q_rF 4 0 u3 | exact q_rF 5 0 u3 | exact q_rF 102 0 u3 | exact q_rF 103 0 u3 | exact q_rF 104 0 u3 | exact q_rF 160 0 u3 | exact q_rF 109 0 u3)) ?_
   refine q_o rfl (q_c ent47 [1] [1] (rkind_ct m H1 hM u.it)) ?_
   rintro _ _ ⟨_, ⟨rfl, rfl⟩, rfl⟩
   refine q_d rfl (q_b BinV.eql) (q_d rfl q_mv ?_)
   refine' DL.and (t := 27) (d := 34) 7 rfl (.of [2, 3, 4, 6, 7, 19, 20, 21, 22, 23, 24, 25, 26] rfl) (.of [0, 1, 2, 3, 4, 5, 102, 103, 104, 109, 160] rfl) ?_ ?_ ?_
   rotate_left 1
   ·
    intro hg27
    refine DL.gq rfl rfl rfl q_mv rfl ?_
    refine DL.gq rfl rfl rfl q_mv rfl ?_
    refine DL.gq rfl rfl rfl (q_ix u41 sz48) rfl ?_
    refine DL.gq rfl rfl rfl (q_fa fo48_2) rfl ?_
    refine DL.gq rfl rfl rfl (by first | exact q_rF 1 2 u3 | exact q_rF 2 2 u3 | exact q_rF 3 2 u3 | exact q_rF 4 2 u3 | exact q_rF 5 2 u3 | exact q_rF 102 2 u3 | exact q_rF 103 2 u3 | exact q_rF 104 2 u3 | exact q_rF 160 2 u3 | exact q_rF 109 2 u3) rfl ?_
    refine DL.gq rfl rfl rfl (q_b BinV.eql) rfl (q_d rfl Yld.pk ?_)
    exact DL.meet (.to rfl) (.to rfl)
   ·
    intro hg27
    repeat refine q_ds ?_
    refine q_d rfl Yld.pk ?_
    exact DL.meet (.to rfl) (.to rfl)
   refine DL.done (N.next (q_k [2, 3, 4, 6, 7, 34] [0, 1, 2, 3, 4, 5, 102, 103, 104, 109, 160] ?_))
   refine W.cond rfl (fun hc34 => ?_) (fun hc34 => ?_)
   ·
    have htk : tickU (kdOf m) u = { u with va := w64 (u.va + 1) } := by
      simp only [Bool.and_eq_true, decide_eq_true_eq] at hc34
      unfold tickU; exact if_pos hc34
    refine W.region (q_q q_mv (q_q q_mv ?_))
    refine q_q (q_ix u41 sz48) (q_q (q_fa fo48_3) ?_)
    refine q_q (by first | exact q_rF 1 3 u2 | exact q_rF 2 3 u2 | exact q_rF 3 3 u2 | exact q_rF 4 3 u2 | exact q_rF 5 3 u2 | exact q_rF 102 3 u2 | exact q_rF 103 3 u2 | exact q_rF 104 3 u2 | exact q_rF 160 3 u2 | exact q_rF 109 3 u2) ?_
    refine q_q q_ad ?_
    refine q_q (q_ix u41 sz48) (q_q (q_fa fo48_3) ?_)
    refine RL.e0 (Eff.storeRow (tc := 109) (j := 3) sz2 rfl rfl rfl hO hlu rfl rfl rfl rfl rfl) ?_
    rintro _ _ ⟨Hb, hOb, rfl⟩
    replace hOb : Own Hb p1 c1 48 5 ((blend (tickU (kdOf m)) x.us (z.j + 1)).map U.c) := by rw [← blend_set hu, List.map_set, htk]; exact hOb
    refine RL.nil (N.block_normal (N.next (q_k [2, 3, 4, 6, 7] [0, 1, 2, 3, 4, 5, 102, 103, 104, 109, 160] ?_)))
    refine W.region (q_q q_mv ?_)
    refine q_q q_ad (q_q q_as (RL.nil ?_))
    exact N.famK ⟨z.j + 1, Hb⟩ ⟨⟨by dsimp only; omega, hOb⟩, by dsimp only; omega⟩ (q_a .nil) (.to rfl) (.to rfl) (.to rfl)
   ·
    have htk : tickU (kdOf m) u = u := by
      unfold tickU
      refine if_neg fun h => ?_
      rw [decide_eq_true h.1, decide_eq_true h.2] at hc34; cases hc34
    refine W.skip (N.block_normal (N.next (W.region (q_q q_mv ?_))))
    refine q_q q_ad (q_q q_as (RL.nil ?_))
    exact N.famK ⟨z.j + 1, z.H⟩ ⟨⟨by dsimp only; omega, by dsimp only; rw [blend_same hu htk]; exact hO⟩, by dsimp only; omega⟩ (q_a .nil) (.to rfl) (.to rfl) (.to rfl)
  ·
   have hend : z.j = x.us.length := by omega
   rw [hend, blend_end] at hO
   refine W.exit (N.then_exit (N.then_exit (N.block_eq (N.next (q_k [3, 4, 6] [0, 1, 2, 3, 4, 5, 102, 103, 104, 109, 160] ?_)))))
   refine q_sr (q_q (q_fa fo59_5) (q_q (q_l 103 u57) (q_an ?_)))
   refine q_sr (q_q q_mv (q_q (q_fa fo59_1) (q_s 103 sz41 ?_)))
   refine q_q (q_fa fo59_5) (q_s 103 sz57 ?_)
   refine q_nn (q_k [3, 4, 8] [0, 1, 2, 3, 4, 5, 102, 103, 104, 109, 160] ?_)
   refine q_sr (q_q (q_lw 103 u59 sz59) (q_q q_mv (q_s 104 sz59 ?_)))
   refine q_an ?_
   refine q_k [4, 5] [0, 1, 2, 3, 4, 5, 102, 103, 104, 109, 160] ?_
   refine W.ret ?_
   exact q_r [1, 109, 3, 4, 160, 5] (.cons (q_rc 104 u59 sz59) (.cons (.tmp rfl) .nil)) rfl rfl rfl ⟨(x.setU p1 c1 (x.us.map (tickU (kdOf m))) z.H).setC none 0 [] emp, by unfold Rt.setC Rt.setU; simp only [List.length_map]; rfl, (hx.setU hO.sl).setC (Own.nil 38 4).sl, ⟨by show x.us.map _ = _; rw [hxt.us]; rfl, hxt.gn, hxt.st, hxt.va, rfl⟩, rfl⟩
end Go.Proofs.YtboapdcmaeojgaaGreatDoor
namespace Go.Proofs.YtboapdcmaeojgaaGreatDoor.Fen
open SL Cat
set_option linter.unusedVariables false
set_option linter.unusedSimpArgs false
structure SI (m : Md) (mach : Int) (k : Nat) (t : T) : Prop where
  ti : TI m mach t
  us : t.us.length ≤ 8 + k
  cs : t.cs.length ≤ k
  dn : t.dn.length ≤ k
def stepP (m : Md) (mach : Int) (t : T) (o : Opn) : T :=
  if o.kd = 0 then (doP (kdOf m o.c.it) mach t o.g o.s o.c).1 else if o.kd = 1 then (beginP (kdOf m o.cl.it) t o.cl).1 else if o.kd = 2 then tickP (kdOf m) t else if o.kd = 3 then { t with cs := [] } else t
def runP (m : Md) (mach : Int) (l : List Opn) : T := l.foldl (stepP m mach) (newT m mach)
theorem runP_take {m : Md} {mach : Int} {l : List Opn} {j : Nat} {o : Opn} (h : l[j]? = some o) : runP m mach (l.take (j + 1)) = stepP m mach (runP m mach (l.take j)) o := by
  unfold runP; rw [tsnoc h, List.foldl_append]; rfl
theorem seen_dn_le (t : T) (g : Int) : (seen t g).dn.length ≤ t.dn.length := by
  unfold seen; split
  · exact Nat.zero_le _
  · exact Nat.le_refl _
theorem do_dn_len {k mach : Int} {t : T} {g s : Int} {c : Cm} : (doP k mach t g s c).1.dn.length ≤ t.dn.length + 1 := by
  have h := seen_dn_le t g
  unfold doP
  split
  · exact Nat.le_succ _
  split
  · exact Nat.le_succ _
  split
  · exact Nat.le_succ_of_le h
  · simp only
    split
    · show ((seen t g).dn ++ [_]).length ≤ _
      rw [List.length_append]; exact Nat.succ_le_succ h
    · exact Nat.le_succ_of_le h
theorem begin_dn {k : Int} {t : T} {c : Cl} : (beginP k t c).1.dn = t.dn := by
  unfold beginP
  split
  · rfl
  split
  · rfl
  split
  · rfl
  · split <;> rfl
theorem SI.new {m : Md} (hv : MdV m) {mach : Int} (h1 : 1 ≤ mach) (h2 : mach ≤ m.mc.length) : SI m mach 0 (newT m mach) := ⟨new_ti hv h1 h2, Nat.le_trans (newN_le _) hv.n5, Nat.zero_le _, Nat.zero_le _⟩
theorem SI.do {m : Md} {mach : Int} {k : Nat} {t : T} (h : SI m mach k t) {g s : Int} {c : Cm} (hc : c.rp ≤ 9223372036854775807) : SI m mach (k + 1) (doP (kdOf m c.it) mach t g s c).1 := by
  have h1 := do_len (k := kdOf m c.it) (mach := mach) (t := t) (g := g) (s := s) (c := c)
  have h2 := do_cs (k := kdOf m c.it) (mach := mach) (t := t) (g := g) (s := s) (c := c)
  have h3 := do_dn_len (k := kdOf m c.it) (mach := mach) (t := t) (g := g) (s := s) (c := c)
  have := h.us; have := h.cs; have := h.dn
  exact ⟨do_ti h.ti hc, by omega, by rw [h2]; omega, by omega⟩
theorem SI.step {m : Md} {mach : Int} {k : Nat} {t : T} (h : SI m mach k t) {o : Opn} (hc : o.c.rp ≤ 9223372036854775807) : SI m mach (k + 1) (stepP m mach t o) := by
  have h1 := h.us; have h2 := h.cs; have h3 := h.dn
  unfold stepP
  split
  · exact h.do hc
  split
  · have := begin_len (k := kdOf m o.cl.it) (t := t) (c := o.cl)
    exact ⟨begin_ti h.ti, by rw [begin_us]; omega, by omega, by rw [begin_dn]; omega⟩
  split
  · exact ⟨tick_ti h.ti, by show (t.us.map _).length ≤ _; rw [List.length_map]; omega, Nat.zero_le _, by show t.dn.length ≤ _; omega⟩
  split
  · exact ⟨⟨h.ti.inv, h.ti.rng⟩, by show t.us.length ≤ _; omega, Nat.zero_le _, by show t.dn.length ≤ _; omega⟩
  · exact ⟨h.ti, by omega, by omega, by omega⟩
def pickW (v : U) (l : List U) : U := l.foldl (fun v w => if w.it = v.it ∧ w.rp = v.rp then w else v) v
theorem pickW_take {v w : U} {l : List U} {j : Nat} (h : l[j]? = some w) : pickW v (l.take (j + 1)) = if w.it = (pickW v (l.take j)).it ∧ w.rp = (pickW v (l.take j)).rp then w else pickW v (l.take j) := by
  unfold pickW; rw [tsnoc h, List.foldl_append]; rfl
theorem pickW_none {v : U} : ∀ {l : List U}, (∀ w ∈ l, ¬ (w.it = v.it ∧ w.rp = v.rp)) → pickW v l = v
  | [], _ => rfl
  | a :: l, h => by
    show pickW (if a.it = v.it ∧ a.rp = v.rp then a else v) l = v
    rw [if_neg (h a (by simp))]
    exact pickW_none fun w hw => h w (by simp [hw])
theorem pickW_some {cs : List Cl} {u : U} : ∀ {us : List U}, us.Pairwise R → u ∈ us → pickW u (us.map (callsOf cs)) = callsOf cs u
  | [], _, h => nomatch h
  | a :: us, hp, h => by
    rw [List.pairwise_cons] at hp
    show pickW (if a.it = u.it ∧ a.rp = u.rp then callsOf cs a else u) (us.map (callsOf cs)) = _
    by_cases e : a.it = u.it ∧ a.rp = u.rp
    · rw [if_pos e]
      have hau : a = u := by
        rcases List.mem_cons.1 h with h | h
        · exact h.symm
        · rcases hp.1 u h with h1 | ⟨_, h1, _⟩ <;> omega
      subst hau
      exact pickW_none fun w hw => by
        obtain ⟨b, hb, rfl⟩ := List.mem_map.1 hw
        show ¬ (b.it = a.it ∧ b.rp = a.rp)
        rcases hp.1 b hb with h1 | ⟨_, h1, _⟩ <;> omega
    · rw [if_neg e]
      rcases List.mem_cons.1 h with h | h
      · subst h; exact absurd ⟨rfl, rfl⟩ e
      · exact pickW_some hp.2 h
theorem pick_same {m : Md} {mach : Int} {t : T} (h : TI m mach t) (it : Int) : pickW (fvU t.us it).1 (listP t.us t.cs) = (findV t it).1 ∧ (fvU t.us it).2 = (findV t it).2 := by
  cases hf : fnd t.us it with
  | none =>
    rw [fvU_none (fndU_none.2 hf), findV_none hf]
    refine ⟨pickW_none fun w hw => ?_, rfl⟩
    obtain ⟨b, hb, rfl⟩ := List.mem_map.1 hw
    have := (h.inv.rng hb).1
    show ¬ (b.it = 0 ∧ b.rp = 0)
    omega
  | some i =>
    obtain ⟨u, hu, _⟩ := fnd_some hf
    rw [fvU_some (fndU_some hf hu), findV_some hf hu]
    exact ⟨pickW_some h.inv.pw (List.mem_of_getElem? hu), rfl⟩
end Go.Proofs.YtboapdcmaeojgaaGreatDoor.Fen
