/- Text. Written by program (walk2.py). -/
import Derived.Test.YtdblglgnhjankaaDoorA7
namespace Go.Proofs.YtdblglgnhjankaaDoor
open SL Cfg
set_option linter.unusedVariables false
set_option linter.unusedSimpArgs false
theorem ent12 : Ent Tryd.prog 12 := ⟨_, _, Tryd.func12, by kernel_rfl, rfl⟩
theorem fo29_3 : fieldOff Tryd.prog 29 3 = some 3 := by kernel_rfl
theorem sz99 : sz Tryd.prog 99 3 := (by kernel_rfl : (Tryd.prog.info? 99).map (·.size) = some 3)
theorem fo99_0 : fieldOff Tryd.prog 99 0 = some 0 := by kernel_rfl
theorem ent40 : Ent Tryd.prog 40 := ⟨_, _, Tryd.func40, by kernel_rfl, rfl⟩
theorem fo90_0 : fieldOff Tryd.prog 90 0 = some 0 := by kernel_rfl
structure Cfg.Md.Sm (m : Md) : Prop where
  ms : ∀ y ∈ m.ms, y.nm.size ≤ 1000
  is : ∀ y ∈ m.is, y.nm.size ≤ 1000
def Cfg.Ins.Rg (s : Ins) : Prop := ∀ y ∈ s.ys, I64 y.r
theorem Cfg.actR_r {m : Md} {s : Ins} {st ph : Int} {a : Ac} {ok : Bool} (h : ActR m s st ph a ok) (hs : s.Rg) : I64 a.r := by
  have h0 : I64 0 := ⟨by omega, by omega⟩
  rcases h with ⟨_, rfl, _⟩ | ⟨_, t, y, _, hy, ⟨_, rfl, _⟩ | ⟨_, hl⟩⟩
  · exact h0
  · exact h0
  · rcases hl with ⟨_, hd⟩ | ⟨_, rfl, _⟩
    · have hyr := hs y (List.mem_of_getElem? hy)
      rcases hd with h | h | h | h | h | h | h | h | h | h | h | h | h
      all_goals (have e := h.2.2; obtain ⟨a1, a2, a3, a4, ar, a6, a7, a8, a9⟩ := a; simp [Ac.val, opV, admV, waitV, repV, leaveV, unitV, startV] at e; first | (rw [e.2.2.2.2.1]; exact hyr) | (rw [e.2.2.2.2.1]; exact h0) | (simp [e]; first | exact hyr | exact h0))
    · exact h0
theorem Cfg.mc_row {m : Md} {i : Int} (h : 1 ≤ i) (h2 : i ≤ m.ms.length) : ∃ y : Mc, (m.ms.map Mc.c')[(i - 1).toNat]? = some [.string y.nm, .int .i64 y.rk, .int .i64 y.cp] ∧ m.ms[(i - 1).toNat]? = some y := by
  have hl : (i - 1).toNat < m.ms.length := by omega
  exact ⟨m.ms[(i - 1).toNat], by rw [List.getElem?_map, List.getElem?_eq_getElem hl]; rfl, List.getElem?_eq_getElem hl⟩
def Cfg.nmAt (m : Md) (a : Ac) : ByteArray := if 1 ≤ a.m ∧ a.m ≤ m.ms.length then ((m.ms[(a.m - 1).toNat]?).map Mc.nm).getD .empty else .empty
def Cfg.knB (m : Md) (a : Ac) : Bool := decide (1 ≤ a.m) && decide (a.m ≤ m.ms.length)
def Cfg.TextR (m : Md) (s : Ins) (st ph : Int) (b : ByteArray) : Prop :=
  ∃ a ok, ActR m s st ph a ok ∧ ((ok = false ∧ b = .empty) ∨ (ok = true ∧ (((wordsV a (nmAt m a)).2 = true ∧ knB m a = false ∧ b = .empty) ∨ (¬ ((wordsV a (nmAt m a)).2 = true ∧ knB m a = false) ∧
    ∃ t y, s.xs[(st - 1).toNat]? = some t ∧ m.is[(t.2.i - 1).toNat]? = some y ∧ b = itoaB st ++ ⟨#[32]⟩ ++ y.nm ++ ⟨#[58, 32]⟩ ++ (wordsV a (nmAt m a)).1))))
theorem Cfg.words_size {a : Ac} {nm : ByteArray} (ha : I64 a.r) (hn : nm.size ≤ 1000) : (wordsV a nm).1.size ≤ 1100 := by
  have hz := itoaB_size ha
  have hvz := verbB_size a.uk
  unfold wordsV
  have e1 : (ByteArray.mk #[119, 97, 105, 116, 32, 102, 111, 114, 32]).size = 9 := rfl
  have e2 : (ByteArray.mk #[108, 101, 97, 114, 110, 32]).size = 6 := rfl
  have e3 : (ByteArray.mk #[102, 111, 114, 103, 101, 116, 32]).size = 7 := rfl
  have e4 : (ByteArray.mk #[114, 101, 112, 108, 97, 99, 101, 32]).size = 8 := rfl
  have e5 : (ByteArray.mk #[32, 98, 121, 32]).size = 4 := rfl
  have e6 : (ByteArray.mk #[111, 112, 101, 110, 32]).size = 5 := rfl
  have e7 : (ByteArray.mk #[32, 111, 110, 32]).size = 4 := rfl
  repeat' split
  all_goals (simp only [ByteArray.size_append]; omega)

set_option maxRecDepth 100000 in
set_option maxHeartbeats 3200000 in
theorem text_ct (m : Md) (s : Ins) (H1 : PH) (hm : m.In H1) (hs : s.In H1) (st ph : Int) (hsm : m.Sm) (hrg : s.Rg) (hst : I64 st) (H2 : PH) (hT : TabH H2) : Ct Tryd.prog 15 [.agg [.slice m.a0 m.n0 m.c0, .slice m.a1 m.n1 m.c1, .slice m.a2 m.n2 m.c2, .slice m.pm m.ms.length m.cm, .slice m.a4 m.n4 m.c4, .slice m.pi m.is.length m.ci, .int .i64 m.d0, .int .i64 m.d1, .int .i64 m.d2, .int .i64 m.d3, .slice m.a5 m.n5 m.c5].toArray, .agg [.int .i64 s.g, .int .i64 s.v, .int .i64 s.sl, .slice s.pb s.nb s.cb, .slice s.pp s.xs.length s.cp, .slice s.ps s.ys.length s.cs, .bool s.ca, .int .i64 s.se, .int .i64 s.ou].toArray, .int .i64 st, .int .i64 ph] [H1, H2] (fun v Hs => ∃ b, v = .string b ∧ TextR m s st ph b ∧ Hs = [H1, H2]) := by
  refine Ct.body Tryd.func15 rfl Tryd.ntmps15 rfl ?_
  intro E F
  have hmxi := hm.is.len_le
  have hmxx := hs.xs.len_le
  have hmxy := hs.ys.len_le
  simp only [List.length_map, maxLen] at hmxi hmxx hmxy
  have hsi := hm.is
  have hsx := hs.xs
  have hsy := hs.ys
  have hmxm := hm.ms.len_le
  simp only [List.length_map, maxLen] at hmxm
  have hsm1 := hm.ms
  have hzs := itoaB_size hst
  refine W.seq ?_
  refine W.region ?_
  refine RL.e (Eff.box 104 _ rfl rfl) rfl ?_
  rintro _ _ ⟨b4, rfl, rfl⟩
  refine RL.e (Eff.box 105 _ rfl rfl) rfl ?_
  rintro _ _ ⟨b5, rfl, rfl⟩
  refine RL.q (Yld.assign rfl) rfl ?_
  refine RL.nil ?_
  refine N.next ?_
  refine W.seq ?_
  refine W.region ?_
  refine RL.q (Yld.loadW (c := 104) Tryd.underlying29 rfl sz29 rfl rfl (by first | exact single_self _ _ | exact pset_self _ _ _ | assumption) rfl) rfl ?_
  refine RL.q (Yld.loadW (c := 105) Tryd.underlying38 rfl sz38 rfl rfl (by first | exact single_self _ _ | exact pset_self _ _ _ | assumption) rfl) rfl ?_
  refine RL.q (Yld.move rfl) rfl ?_
  refine RL.q (Yld.move rfl) rfl ?_
  refine RL.e (Eff.call ent12 [1] [1] (.cons rfl (.cons rfl (.cons rfl (.cons rfl .nil)))) (action_ct m s H1 hm hs st ph) rfl rfl rfl rfl (by rintro _ _ ⟨_, _, _, _, rfl⟩; rfl)) rfl ?_
  rintro _ _ ⟨_, ⟨a, ok, rfl, hR, rfl⟩, rfl⟩
  refine RL.q (Yld.move rfl) rfl ?_
  refine RL.q (Yld.extract rfl rfl) rfl ?_
  refine RL.q (Yld.extract rfl rfl) rfl ?_
  refine RL.e (Eff.alloc 109 zc44) rfl ?_
  rintro _ _ ⟨b9, rfl, rfl⟩
  refine RL.e0 (Eff.storeS (c := 109) _ sz44 rfl rfl rfl rfl rfl rfl rfl (by (try simp only [putAt, List.take, List.drop, List.nil_append, List.cons_append, List.append_nil, List.length_cons, List.length_nil, Nat.add_zero, Nat.zero_add, Nat.reduceAdd]); rfl)) ?_
  rintro _ _ rfl
  refine RL.q (Yld.assign rfl) rfl ?_
  refine RL.nil ?_
  refine N.next ?_
  refine W.keep (.cons (k := 2) rfl (.cons (k := 4) rfl (.cons (k := 5) rfl (.cons (k := 9) rfl (.cons (k := 10) rfl .nil))))) (.cons (k := 0) rfl (.cons (k := 1) rfl (.cons (k := 2) rfl (.cons (k := 104) rfl (.cons (k := 105) rfl (.cons (k := 109) rfl .nil)))))) ?_
  refine W.seq ?_
  refine W.seq ?_
  refine W.region ?_
  refine RL.q (Yld.move rfl) rfl ?_
  refine RL.q (by first | exact Yld.notD rfl | exact Yld.not rfl) rfl ?_
  refine RL.nil ?_
  refine N.next ?_
  refine W.cond rfl (fun hc24 => ?_) (fun hc24 => ?_)
  ·
    refine W.seq ?_
    refine W.region ?_
    refine RL.q (Yld.assign rfl) rfl ?_
    refine RL.nil ?_
    refine N.next ?_
    refine W.keep (.cons (k := 8) rfl .nil) (.cons (k := 0) rfl (.cons (k := 1) rfl (.cons (k := 2) rfl (.cons (k := 104) rfl (.cons (k := 105) rfl (.cons (k := 109) rfl .nil)))))) ?_
    refine W.ret ?_
    refine N.then_ret ?_
    exact N.retBy [1, 2] (.cons (.tmp rfl) .nil) rfl rfl rfl rfl ⟨_, rfl, ⟨a, ok, hR, .inl ⟨by simpa using hc24, rfl⟩⟩, rfl⟩
  ·
    obtain rfl : ok = true := by simpa using hc24
    obtain ⟨hx, t, y, ht, hy, hL⟩ := hR.resolve_left (fun h => by cases h.2.2)
    obtain ⟨t', y', ht', hy', hlt, hly, hst1, hst2, hst3⟩ := ex_rows hx
    obtain rfl : t = t' := Option.some.inj (ht.symm.trans ht')
    obtain ⟨hph, hL⟩ := hL.resolve_left (fun h => by cases h.2.2)
    obtain ⟨hki1, hki2⟩ := phs_kind (is := m.is) (x := t.2) hph
    obtain ⟨yi, hli, hk, hyi⟩ := kind_row hki1 hki2
    have hyz := hsm.is yi (List.mem_of_getElem? hyi)
    refine W.skip ?_
    refine N.next ?_
    refine W.seq ?_
    refine W.draw (.q 0 (.q 1 (.q 2 (.q 3 (.q 4 (.q 5 (.q 6 (.q 7 (.q 8 (.q 9 (.q 10 (.q 11 (.q 12 .done))))))))))))) (.cons (k := 0) rfl (.cons (k := 1) rfl (.cons (k := 2) rfl (.cons (k := 104) rfl (.cons (k := 105) rfl (.cons (k := 109) rfl .nil)))))) mix (by kernel_rfl) (by kernel_rfl) ?_
    refine DL.q rfl (Yld.fieldAddr fo44_1 rfl) rfl ?_
    refine DL.q rfl (Yld.load1 (c := 109) Tryd.underlying3 rfl rfl rfl (by first | exact single_self _ _ | exact pset_self _ _ _ | assumption) rfl) rfl ?_
    refine DL.q rfl (Yld.bin rfl rfl BinV.geq) rfl ?_
    refine DL.q rfl (Yld.move rfl) rfl ?_
    refine' DL.and (t := 28) (d := 35) 7 rfl (.cons (k := 2) rfl (.cons (k := 4) rfl (.cons (k := 5) rfl (.cons (k := 9) rfl (.cons (k := 10) rfl (.cons (k := 23) rfl (.cons (k := 24) rfl (.cons (k := 25) rfl (.cons (k := 26) rfl (.cons (k := 27) rfl .nil)))))))))) (.cons (k := 0) rfl (.cons (k := 1) rfl (.cons (k := 2) rfl (.cons (k := 104) rfl (.cons (k := 105) rfl (.cons (k := 109) rfl .nil)))))) ?_ ?_ ?_
    rotate_left 1
    ·
      intro hg28
      refine DL.gq rfl rfl rfl (Yld.fieldAddr fo44_1 rfl) rfl ?_
      refine DL.gq rfl rfl rfl (Yld.load1 (c := 109) Tryd.underlying3 rfl rfl rfl (by first | exact single_self _ _ | exact pset_self _ _ _ | assumption) rfl) rfl ?_
      refine DL.gq rfl rfl rfl (Yld.fieldAddr fo29_3 rfl) rfl ?_
      refine DL.gq rfl rfl rfl (Yld.load1 (c := 104) Tryd.underlying24 rfl rfl rfl (by first | exact single_self _ _ | exact pset_self _ _ _ | assumption) rfl) rfl ?_
      refine DL.gq rfl rfl rfl (Yld.lenSl Tryd.underlying24 rfl) rfl ?_
      refine DL.gq rfl rfl rfl (Yld.bin rfl rfl BinV.leq) rfl ?_
      refine DL.q rfl (by first | exact Yld.pickT rfl rfl | exact Yld.pickF rfl rfl) rfl ?_
      exact DL.meet (.cons rfl (.cons rfl (.cons rfl (.cons rfl (.cons rfl (.cons rfl (.cons rfl (.cons rfl (.cons rfl (.cons rfl (.cons rfl .nil))))))))))) (.cons rfl (.cons rfl (.cons rfl (.cons rfl (.cons rfl (.cons rfl .nil))))))
    ·
      intro hg28
      refine DL.gskip rfl rfl rfl rfl rfl ?_
      refine DL.gskip rfl rfl rfl rfl rfl ?_
      refine DL.gskip rfl rfl rfl rfl rfl ?_
      refine DL.gskip rfl rfl rfl rfl rfl ?_
      refine DL.gskip rfl rfl rfl rfl rfl ?_
      refine DL.gskip rfl rfl rfl rfl rfl ?_
      refine DL.q rfl (by first | exact Yld.pickT rfl rfl | exact Yld.pickF rfl rfl) rfl ?_
      exact DL.meet (.cons rfl (.cons rfl (.cons rfl (.cons rfl (.cons rfl (.cons rfl (.cons rfl (.cons rfl (.cons rfl (.cons rfl (.cons rfl .nil))))))))))) (.cons rfl (.cons rfl (.cons rfl (.cons rfl (.cons rfl (.cons rfl .nil))))))
    refine DL.q rfl (Yld.assign rfl) rfl ?_
    refine DL.q rfl (Yld.assign rfl) rfl ?_
    refine DL.done ?_
    refine N.next ?_
    refine W.keep (.cons (k := 2) rfl (.cons (k := 4) rfl (.cons (k := 5) rfl (.cons (k := 9) rfl (.cons (k := 11) rfl (.cons (k := 12) rfl .nil)))))) (.cons (k := 0) rfl (.cons (k := 1) rfl (.cons (k := 2) rfl (.cons (k := 104) rfl (.cons (k := 105) rfl (.cons (k := 109) rfl .nil)))))) ?_
    refine W.cutK (ι := Unit) (fun u => ((nmAt m a).size ≤ 1000)) (fun u => [(11, .string (nmAt m a))]) (fun u => []) (.cons (k := 2) rfl (.cons (k := 4) rfl (.cons (k := 5) rfl (.cons (k := 9) rfl (.cons (k := 12) rfl .nil))))) (.cons (k := 0) rfl (.cons (k := 1) rfl (.cons (k := 2) rfl (.cons (k := 104) rfl (.cons (k := 105) rfl (.cons (k := 109) rfl .nil)))))) ?_ ?_
    ·
      refine W.seq ?_
      refine W.region ?_
      refine RL.q (Yld.move rfl) rfl ?_
      refine RL.nil ?_
      refine N.next ?_
      refine W.cond rfl (fun hc36 => ?_) (fun hc36 => ?_)
      ·
        obtain ⟨hm1, hm2⟩ : 1 ≤ a.m ∧ a.m ≤ m.ms.length := by simpa using hc36
        obtain ⟨ym, hlm, hym⟩ := mc_row hm1 hm2
        have hnm : nmAt m a = ym.nm := by unfold nmAt; rw [if_pos ⟨hm1, hm2⟩, hym]; rfl
        have hnz : (nmAt m a).size ≤ 1000 := by rw [hnm]; exact hsm.ms ym (List.mem_of_getElem? hym)
        refine W.region ?_
        refine RL.q (Yld.fieldAddr fo29_3 rfl) rfl ?_
        refine RL.q (Yld.load1 (c := 104) Tryd.underlying24 rfl rfl rfl (by first | exact single_self _ _ | exact pset_self _ _ _ | assumption) rfl) rfl ?_
        refine RL.q (Yld.fieldAddr fo44_1 rfl) rfl ?_
        refine RL.q (Yld.load1 (c := 109) Tryd.underlying3 rfl rfl rfl (by first | exact single_self _ _ | exact pset_self _ _ _ | assumption) rfl) rfl ?_
        refine RL.q (Yld.bin rfl rfl (by first | exact BinV.sub (by omega) (by omega) | exact BinV.subW)) rfl ?_
        refine RL.q (Yld.indexRow Tryd.underlying24 sz99 rfl rfl (by first | assumption | exact Own.sl (by assumption)) (by first | rfl | omega | (simp; done) | (simp; omega)) (by omega) (by first | omega | (simp; done) | (simp; omega))) rfl ?_
        refine RL.q (Yld.fieldAddr fo99_0 rfl) rfl ?_
        refine RL.q (by first | exact (by first | exact Yld.loadRow1 (cl := 109) Tryd.underlying9 rfl rfl rfl (by first | assumption | exact Own.sl (by assumption)) (by assumption) | exact Yld.loadRow1 (cl := 1) Tryd.underlying9 rfl rfl rfl (by first | assumption | exact Own.sl (by assumption)) (by assumption) | exact Yld.loadRow1 (cl := 105) Tryd.underlying9 rfl rfl rfl (by first | assumption | exact Own.sl (by assumption)) (by assumption) | exact Yld.loadRow1 (cl := 104) Tryd.underlying9 rfl rfl rfl (by first | assumption | exact Own.sl (by assumption)) (by assumption) | exact Yld.loadRow1 (cl := 2) Tryd.underlying9 rfl rfl rfl (by first | assumption | exact Own.sl (by assumption)) (by assumption)) | exact (by first | exact Yld.loadRowF (cl := 109) (j := 0) Tryd.underlying9 rfl rfl rfl (by first | assumption | exact Own.sl (by assumption)) (by assumption) rfl | exact Yld.loadRowF (cl := 1) (j := 0) Tryd.underlying9 rfl rfl rfl (by first | assumption | exact Own.sl (by assumption)) (by assumption) rfl | exact Yld.loadRowF (cl := 105) (j := 0) Tryd.underlying9 rfl rfl rfl (by first | assumption | exact Own.sl (by assumption)) (by assumption) rfl | exact Yld.loadRowF (cl := 104) (j := 0) Tryd.underlying9 rfl rfl rfl (by first | assumption | exact Own.sl (by assumption)) (by assumption) rfl | exact Yld.loadRowF (cl := 2) (j := 0) Tryd.underlying9 rfl rfl rfl (by first | assumption | exact Own.sl (by assumption)) (by assumption) rfl)) rfl ?_
        refine RL.q (Yld.assign rfl) rfl ?_
        refine RL.nil ?_
        exact N.famK () hnz (.as rfl (by first | (rw [hnm]; done) | (rw [hnm]; rfl)) .nil) (.cons rfl (.cons rfl (.cons rfl (.cons rfl (.cons rfl .nil))))) .nil (.cons rfl (.cons rfl (.cons rfl (.cons rfl (.cons rfl (.cons rfl .nil))))))
      ·
        have hm0 : ¬ (1 ≤ a.m ∧ a.m ≤ m.ms.length) := fun h => by simp [h.1, h.2] at hc36
        have hnm : nmAt m a = .empty := if_neg hm0
        have hnz : (nmAt m a).size ≤ 1000 := by rw [hnm]; exact Nat.zero_le _
        refine W.skip ?_
        exact N.famK () hnz (.as rfl (by first | (rw [hnm]; done) | (rw [hnm]; rfl)) .nil) (.cons rfl (.cons rfl (.cons rfl (.cons rfl (.cons rfl .nil))))) .nil (.cons rfl (.cons rfl (.cons rfl (.cons rfl (.cons rfl (.cons rfl .nil))))))
    rintro u hnz
    refine W.keep (.cons (k := 11) rfl (.cons (k := 2) rfl (.cons (k := 4) rfl (.cons (k := 5) rfl (.cons (k := 9) rfl (.cons (k := 12) rfl .nil)))))) (.cons (k := 0) rfl (.cons (k := 1) rfl (.cons (k := 2) rfl (.cons (k := 104) rfl (.cons (k := 105) rfl (.cons (k := 109) rfl .nil)))))) ?_
    refine W.seq ?_
    refine W.region ?_
    refine RL.q (Yld.loadW (c := 109) Tryd.underlying44 rfl sz44 rfl rfl (by first | exact single_self _ _ | exact pset_self _ _ _ | assumption) rfl) rfl ?_
    refine RL.q (Yld.move rfl) rfl ?_
    refine RL.e (Eff.call ent40 [2] [2] (.cons rfl (.cons rfl .nil)) (words_ct a (actR_r hR hrg) (nmAt m a) hnz H2 hT) rfl rfl rfl rfl (by rintro _ _ ⟨_, rfl⟩; rfl)) rfl ?_
    rintro _ _ ⟨_, ⟨rfl, rfl⟩, rfl⟩
    have hwz := words_size (nm := nmAt m a) (actR_r hR hrg) hnz
    refine RL.q (Yld.move rfl) rfl ?_
    refine RL.q (Yld.extract rfl rfl) rfl ?_
    refine RL.q (Yld.extract rfl rfl) rfl ?_
    refine RL.q (Yld.assign rfl) rfl ?_
    refine RL.q (Yld.assign rfl) rfl ?_
    refine RL.nil ?_
    refine N.next ?_
    refine W.keep (.cons (k := 2) rfl (.cons (k := 4) rfl (.cons (k := 5) rfl (.cons (k := 12) rfl (.cons (k := 13) rfl (.cons (k := 14) rfl .nil)))))) (.cons (k := 0) rfl (.cons (k := 1) rfl (.cons (k := 2) rfl (.cons (k := 104) rfl (.cons (k := 105) rfl (.cons (k := 109) rfl .nil)))))) ?_
    refine W.seq ?_
    refine W.seq ?_
    refine W.region ?_
    refine RL.q (Yld.move rfl) rfl ?_
    refine RL.q (Yld.move rfl) rfl ?_
    refine' RL.and (t := 52) (d := 55) 3 rfl (.cons (k := 2) rfl (.cons (k := 4) rfl (.cons (k := 5) rfl (.cons (k := 12) rfl (.cons (k := 13) rfl (.cons (k := 14) rfl (.cons (k := 51) rfl .nil))))))) (.cons (k := 0) rfl (.cons (k := 1) rfl (.cons (k := 2) rfl (.cons (k := 104) rfl (.cons (k := 105) rfl (.cons (k := 109) rfl .nil)))))) ?_ ?_ ?_
    rotate_left 1
    ·
      intro hg52
      refine RL.gq rfl rfl (Yld.move rfl) rfl ?_
      refine RL.gq rfl rfl (by first | exact Yld.notD rfl | exact Yld.not rfl) rfl ?_
      refine RL.q (by first | exact Yld.pickT rfl rfl | exact Yld.pickF rfl rfl) rfl ?_
      exact RL.nil (N.meet (.cons rfl (.cons rfl (.cons rfl (.cons rfl (.cons rfl (.cons rfl (.cons rfl (.cons rfl .nil)))))))) (.cons rfl (.cons rfl (.cons rfl (.cons rfl (.cons rfl (.cons rfl .nil)))))))
    ·
      intro hg52
      refine RL.gskip rfl rfl rfl rfl ?_
      refine RL.gskip rfl rfl rfl rfl ?_
      refine RL.q (by first | exact Yld.pickT rfl rfl | exact Yld.pickF rfl rfl) rfl ?_
      exact RL.nil (N.meet (.cons rfl (.cons rfl (.cons rfl (.cons rfl (.cons rfl (.cons rfl (.cons rfl (.cons rfl .nil)))))))) (.cons rfl (.cons rfl (.cons rfl (.cons rfl (.cons rfl (.cons rfl .nil)))))))
    refine RL.nil ?_
    refine N.next ?_
    refine W.cond rfl (fun hc55 => ?_) (fun hc55 => ?_)
    ·
      refine W.seq ?_
      refine W.region ?_
      refine RL.q (Yld.assign rfl) rfl ?_
      refine RL.nil ?_
      refine N.next ?_
      refine W.keep (.cons (k := 8) rfl .nil) (.cons (k := 0) rfl (.cons (k := 1) rfl (.cons (k := 2) rfl (.cons (k := 104) rfl (.cons (k := 105) rfl (.cons (k := 109) rfl .nil)))))) ?_
      refine W.ret ?_
      refine N.then_ret ?_
      exact N.retBy [1, 2] (.cons (.tmp rfl) .nil) rfl rfl rfl rfl ⟨_, rfl, ⟨a, true, hR, .inr ⟨rfl, .inl ⟨by simp at hc55; exact hc55.1, by simp at hc55; simp [knB]; intro _; omega, rfl⟩⟩⟩, rfl⟩
    ·
      refine W.skip ?_
      refine N.next ?_
      refine W.keep (.cons (k := 2) rfl (.cons (k := 4) rfl (.cons (k := 5) rfl (.cons (k := 13) rfl .nil)))) (.cons (k := 0) rfl (.cons (k := 1) rfl (.cons (k := 2) rfl (.cons (k := 104) rfl (.cons (k := 105) rfl (.cons (k := 109) rfl .nil)))))) ?_
      refine W.seq ?_
      refine W.draw (.q 0 (.q 3 (.q 4 (.q 5 (.q 6 (.q 7 (.q 8 (.q 9 (.q 10 (.q 11 (.q 12 (.q 13 (.q 14 (.q 15 (.q 16 (.q 17 (.q 20 (.one 1 (.q 2 (.q 18 (.q 19 (.q 21 (.q 22 .done))))))))))))))))))))))) (.cons (k := 0) rfl (.cons (k := 1) rfl (.cons (k := 2) rfl (.cons (k := 104) rfl (.cons (k := 105) rfl (.cons (k := 109) rfl .nil)))))) mix (by kernel_rfl) (by kernel_rfl) ?_
      refine DL.q rfl (Yld.move rfl) rfl ?_
      refine DL.q rfl (Yld.fieldAddr fo29_5 rfl) rfl ?_
      refine DL.q rfl (Yld.load1 (c := 104) Tryd.underlying26 rfl rfl rfl (by first | exact single_self _ _ | exact pset_self _ _ _ | assumption) rfl) rfl ?_
      refine DL.q rfl (Yld.fieldAddr fo38_4 rfl) rfl ?_
      refine DL.q rfl (Yld.fieldAddr fo35_0 rfl) rfl ?_
      refine DL.q rfl (Yld.load1 (c := 105) Tryd.underlying33 rfl rfl rfl (by first | exact single_self _ _ | exact pset_self _ _ _ | assumption) rfl) rfl ?_
      refine DL.q rfl (Yld.move rfl) rfl ?_
      refine DL.q rfl (Yld.bin rfl rfl (by first | exact BinV.sub (by omega) (by omega) | exact BinV.subW)) rfl ?_
      refine DL.q rfl (Yld.indexRow Tryd.underlying33 sz86 rfl rfl (by first | assumption | exact Own.sl (by assumption)) (by first | rfl | omega | (simp; done) | (simp; omega)) (by omega) (by first | omega | (simp; done) | (simp; omega))) rfl ?_
      refine DL.q rfl (Yld.fieldAddr fo86_1 rfl) rfl ?_
      refine DL.q rfl (Yld.fieldAddr fo84_0 rfl) rfl ?_
      refine DL.q rfl (by first | exact Yld.loadRowF (cl := 2) (j := 1) Tryd.underlying3 rfl rfl rfl (by first | assumption | exact Own.sl (by assumption)) (by assumption) rfl | exact Yld.loadRowF (cl := 1) (j := 1) Tryd.underlying3 rfl rfl rfl (by first | assumption | exact Own.sl (by assumption)) (by assumption) rfl | exact Yld.loadRowF (cl := 104) (j := 1) Tryd.underlying3 rfl rfl rfl (by first | assumption | exact Own.sl (by assumption)) (by assumption) rfl | exact Yld.loadRowF (cl := 105) (j := 1) Tryd.underlying3 rfl rfl rfl (by first | assumption | exact Own.sl (by assumption)) (by assumption) rfl | exact Yld.loadRowF (cl := 109) (j := 1) Tryd.underlying3 rfl rfl rfl (by first | assumption | exact Own.sl (by assumption)) (by assumption) rfl) rfl ?_
      refine DL.q rfl (Yld.bin rfl rfl (by first | exact BinV.sub (by omega) (by omega) | exact BinV.subW)) rfl ?_
      refine DL.q rfl (Yld.indexRow Tryd.underlying26 sz90 rfl rfl (by first | assumption | exact Own.sl (by assumption)) (by first | rfl | omega | (simp; done) | (simp; omega)) (by omega) (by first | omega | (simp; done) | (simp; omega))) rfl ?_
      refine DL.q rfl (Yld.fieldAddr fo90_0 rfl) rfl ?_
      refine DL.q rfl (by first | exact (by first | exact Yld.loadRow1 (cl := 2) Tryd.underlying9 rfl rfl rfl (by first | assumption | exact Own.sl (by assumption)) (by assumption) | exact Yld.loadRow1 (cl := 1) Tryd.underlying9 rfl rfl rfl (by first | assumption | exact Own.sl (by assumption)) (by assumption) | exact Yld.loadRow1 (cl := 104) Tryd.underlying9 rfl rfl rfl (by first | assumption | exact Own.sl (by assumption)) (by assumption) | exact Yld.loadRow1 (cl := 105) Tryd.underlying9 rfl rfl rfl (by first | assumption | exact Own.sl (by assumption)) (by assumption) | exact Yld.loadRow1 (cl := 109) Tryd.underlying9 rfl rfl rfl (by first | assumption | exact Own.sl (by assumption)) (by assumption)) | exact (by first | exact Yld.loadRowF (cl := 2) (j := 0) Tryd.underlying9 rfl rfl rfl (by first | assumption | exact Own.sl (by assumption)) (by assumption) rfl | exact Yld.loadRowF (cl := 1) (j := 0) Tryd.underlying9 rfl rfl rfl (by first | assumption | exact Own.sl (by assumption)) (by assumption) rfl | exact Yld.loadRowF (cl := 104) (j := 0) Tryd.underlying9 rfl rfl rfl (by first | assumption | exact Own.sl (by assumption)) (by assumption) rfl | exact Yld.loadRowF (cl := 105) (j := 0) Tryd.underlying9 rfl rfl rfl (by first | assumption | exact Own.sl (by assumption)) (by assumption) rfl | exact Yld.loadRowF (cl := 109) (j := 0) Tryd.underlying9 rfl rfl rfl (by first | assumption | exact Own.sl (by assumption)) (by assumption) rfl)) rfl ?_
      refine DL.q rfl (Yld.move rfl) rfl ?_
      refine DL.one rfl (Eff.call ent41 [2] [2] (.cons rfl .nil) (itoa_ct st hst H2 hT) rfl rfl rfl rfl (by rintro _ _ ⟨_, rfl⟩; rfl)) rfl (by rintro _ _ ⟨_, ⟨rfl, rfl⟩, rfl⟩; repeat (first | exact .nil | refine .cons rfl ?_)) ?_
      rintro _ _ ⟨_, ⟨rfl, rfl⟩, rfl⟩
      refine DL.q rfl (Yld.bin rfl rfl (BinV.addS (by (try simp only [ByteArray.size_append]); (try simp only [show (ByteArray.mk #[32]).size = 1 from rfl, show (ByteArray.mk #[58, 32]).size = 2 from rfl]); omega))) rfl ?_
      refine DL.q rfl (Yld.bin rfl rfl (BinV.addS (by (try simp only [ByteArray.size_append]); (try simp only [show (ByteArray.mk #[32]).size = 1 from rfl, show (ByteArray.mk #[58, 32]).size = 2 from rfl]); omega))) rfl ?_
      refine DL.q rfl (Yld.bin rfl rfl (BinV.addS (by (try simp only [ByteArray.size_append]); (try simp only [show (ByteArray.mk #[32]).size = 1 from rfl, show (ByteArray.mk #[58, 32]).size = 2 from rfl]); omega))) rfl ?_
      refine DL.q rfl (Yld.bin rfl rfl (BinV.addS (by (try simp only [ByteArray.size_append]); (try simp only [show (ByteArray.mk #[32]).size = 1 from rfl, show (ByteArray.mk #[58, 32]).size = 2 from rfl]); omega))) rfl ?_
      refine DL.q rfl (Yld.assign rfl) rfl ?_
      refine DL.done ?_
      refine N.next ?_
      refine W.keep (.cons (k := 8) rfl .nil) (.cons (k := 0) rfl (.cons (k := 1) rfl (.cons (k := 2) rfl (.cons (k := 104) rfl (.cons (k := 105) rfl (.cons (k := 109) rfl .nil)))))) ?_
      refine W.ret ?_
      exact N.retBy [1, 2] (.cons (.tmp rfl) .nil) rfl rfl rfl rfl ⟨_, rfl, ⟨a, true, hR, .inr ⟨rfl, .inr ⟨fun h => by simp [knB] at h hc55; simp [h.1] at hc55; omega, t, yi, ht, hyi, rfl⟩⟩⟩, rfl⟩

end Go.Proofs.YtdblglgnhjankaaDoor
