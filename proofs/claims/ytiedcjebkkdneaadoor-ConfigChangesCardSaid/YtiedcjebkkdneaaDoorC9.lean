/- ConfigReached. Written by program (walk2.py). -/
import Derived.Test.YtiedcjebkkdneaaDoorC8
namespace Go.Proofs.YtiedcjebkkdneaaDoor
open SL Cfg
set_option linter.unusedVariables false
set_option linter.unusedSimpArgs false
theorem sz5 : sz Tryd.prog 5 1 := (by kernel_rfl : (Tryd.prog.info? 5).map (·.size) = some 1)
theorem ent20 : Ent Tryd.prog 20 := ⟨_, _, Tryd.func20, by kernel_rfl, rfl⟩
def Cfg.by8 (l : List Int) : List (List Value) := l.map fun b => [.int .u8 b]
@[simp] theorem Cfg.by8_len (l : List Int) : (by8 l).length = l.length := List.length_map _
structure Cfg.RI where
  i : Nat
  H : PH
  p : Option Addr
  c : Nat
  s : List Int
  G : PH
  q : Option Addr
  d : Nat
  t : List Int
theorem Cfg.qof_pos {m : List Int} (h : ∀ b ∈ m, 0 ≤ b ∧ b ≤ 255) (z : Int) : 0 ≤ qof m z := by
  unfold qof
  split
  · exact Int.le_refl _
  · cases hg : m[(z % (m.length : Int)).toNat]? with
    | none => simp
    | some b => exact (h b (List.mem_of_getElem? hg)).1

set_option maxRecDepth 100000 in
set_option maxHeartbeats 400000 in
theorem qof8_ct (b : Nat) (H1 : PH) (m : List Int) (hmb : ∀ b ∈ m, 0 ≤ b ∧ b ≤ 255) (q : Option Addr) (d : Nat) (hm : Sl H1 q d 1 (by8 m)) (hm0 : m.length ≠ 0) (z : Int) (hz : 1 ≤ z) : Ct Tryd.prog 20 [.int .i64 z, .pointer (some ⟨b, 0, none⟩)] [single b (.cells [.slice q m.length d].toArray 36 (0, 0)), H1] (fun v Hs => v = .int .i64 (qof m z) ∧ Hs = [single b (.cells [.slice q m.length d].toArray 36 (0, 0)), H1]) := by
  refine Ct.body Tryd.func20 rfl Tryd.ntmps20 rfl ?_
  intro E F
  have hmxm := hm.len_le
  simp only [by8_len, maxLen] at hmxm
  obtain ⟨k, hk, hkz, hqk⟩ := qof_at (m := m) (z := z) (by omega) hm0
  have hlk : (by8 m)[k]? = some [.int .u8 (qof m z)] := by simp [by8, hqk]
  have hqb := hmb _ (List.mem_of_getElem? hqk)
  refine W.seq ?_
  refine W.region ?_
  refine RL.q (Yld.assign rfl) rfl ?_
  refine RL.nil ?_
  refine N.next ?_
  refine W.seq ?_
  refine W.draw (.q 0 (.q 1 (.q 2 (.q 3 (.q 4 (.q 5 (.q 6 (.q 7 (.q 8 .done))))))))) (.cons (k := 0) rfl (.cons (k := 1) rfl (.cons (k := 2) rfl .nil))) mix (by kernel_rfl) (by kernel_rfl) ?_
  refine DL.q rfl (Yld.load1 (c := 1) Tryd.underlying36 rfl rfl rfl (by first | exact single_self _ _ | exact pset_self _ _ _ | assumption) rfl) rfl ?_
  refine DL.q rfl (Yld.move rfl) rfl ?_
  refine DL.q rfl (Yld.load1 (c := 1) Tryd.underlying36 rfl rfl rfl (by first | exact single_self _ _ | exact pset_self _ _ _ | assumption) rfl) rfl ?_
  refine DL.q rfl (Yld.lenSl Tryd.underlying36 rfl) rfl ?_
  refine DL.q rfl (Yld.eq (v' := .int .i64 (k : Nat)) (Yld.bin rfl rfl (by first | exact BinV.rem (by omega) (by omega) | exact BinV.remW (by omega))) (by rw [hkz])) rfl ?_
  refine DL.q rfl (Yld.indexRow Tryd.underlying36 sz5 rfl rfl (by first | assumption | exact Own.sl (by assumption)) (by first | rfl | omega | (simp; done) | (simp; omega)) (by omega) (by first | omega | (simp; done) | (simp; omega))) rfl ?_
  refine DL.q rfl (by first | exact (by first | exact Yld.loadRow1 (cl := 1) Tryd.underlying5 rfl rfl rfl (by first | assumption | exact Own.sl (by assumption)) (by assumption) | exact Yld.loadRow1 (cl := 2) Tryd.underlying5 rfl rfl rfl (by first | assumption | exact Own.sl (by assumption)) (by assumption)) | exact (by first | exact Yld.loadRowF (cl := 1) (j := 0) Tryd.underlying5 rfl rfl rfl (by first | assumption | exact Own.sl (by assumption)) (by assumption) rfl | exact Yld.loadRowF (cl := 2) (j := 0) Tryd.underlying5 rfl rfl rfl (by first | assumption | exact Own.sl (by assumption)) (by assumption) rfl)) rfl ?_
  refine DL.q rfl (Yld.convIs Tryd.underlying5 Tryd.underlying3 rfl (by first | exact IntWalk.i64_in _ ⟨by omega, by omega⟩ | rfl)) rfl ?_
  refine DL.q rfl (Yld.assign rfl) rfl ?_
  refine DL.done ?_
  refine N.next ?_
  refine W.keep (.cons (k := 3) rfl .nil) (.cons (k := 0) rfl (.cons (k := 1) rfl (.cons (k := 2) rfl .nil))) ?_
  refine W.ret ?_
  exact N.retBy [1, 2] (.cons (.tmp rfl) .nil) rfl rfl rfl rfl ⟨rfl, rfl⟩

set_option maxRecDepth 100000 in
set_option maxHeartbeats 3200000 in
theorem reached_ct (x : Cf) (H1 : PH) (hx : x.In H1) (hT : TabH H1) (m : List Int) (hmb : ∀ b ∈ m, 0 ≤ b ∧ b ≤ 255) (q : Option Addr) (d : Nat) (hm : Sl H1 q d 1 (by8 m)) : Ct Tryd.prog 5 [.agg [.slice x.po x.o.length x.co, .slice x.pn x.n.length x.cn, .slice x.pl x.l.length x.cl].toArray, .slice q m.length d] [H1] (fun v Hs => v = .bool true ∧ Hs = [H1]) := by
  refine Ct.body Tryd.func5 rfl Tryd.ntmps5 rfl ?_
  intro E F
  obtain ⟨ho, hn, hll⟩ := hx
  have hx : x.In H1 := ⟨ho, hn, hll⟩
  have hmxm := hm.len_le
  simp only [by8_len, maxLen] at hmxm
  refine W.seq ?_
  refine W.region ?_
  refine RL.e (Eff.box 102 _ rfl rfl) rfl ?_
  rintro _ _ ⟨b2, rfl, rfl⟩
  refine RL.e (Eff.box 103 _ rfl rfl) rfl ?_
  rintro _ _ ⟨b3, rfl, rfl⟩
  refine RL.q (Yld.assign rfl) rfl ?_
  refine RL.nil ?_
  refine N.next ?_
  refine W.seq ?_
  refine W.seq ?_
  refine W.region ?_
  refine RL.e (Eff.call ent8 [1] [1] .nil (awake_ct H1 hT) rfl rfl rfl rfl (by rintro _ _ ⟨_, rfl⟩; rfl)) rfl ?_
  rintro _ _ ⟨_, ⟨rfl, rfl⟩, rfl⟩
  refine RL.q (by first | exact Yld.notD rfl | exact Yld.not rfl) rfl ?_
  refine RL.nil ?_
  refine N.next ?_
  refine W.keep (.cons (k := 2) rfl (.cons (k := 3) rfl (.cons (k := 12) rfl .nil))) (.cons (k := 0) rfl (.cons (k := 1) rfl (.cons (k := 102) rfl (.cons (k := 103) rfl .nil)))) ?_
  first | (refine W.as (t := 12) rfl (boolF (by first | assumption | omega | (simp; done))) ?_; refine W.condF rfl ?_) | refine W.condF rfl ?_
  refine W.skip ?_
  refine N.next ?_
  refine W.seq ?_
  refine W.seq ?_
  refine W.region ?_
  refine RL.q (Yld.loadW (c := 102) Tryd.underlying24 rfl sz24 rfl rfl (by first | exact single_self _ _ | exact pset_self _ _ _ | assumption) rfl) rfl ?_
  refine RL.e (Eff.call ent9 [1] [1] (.cons rfl (.cons rfl .nil)) (cfew_ct x H1 hx 6) rfl rfl rfl rfl (by rintro _ _ ⟨_, rfl⟩; rfl)) rfl ?_
  rintro _ _ ⟨_, ⟨rfl, rfl⟩, rfl⟩
  refine RL.q (by first | exact Yld.notD rfl | exact Yld.not rfl) rfl ?_
  refine RL.q (Yld.move rfl) rfl ?_
  refine' RL.or (t := 16) (d := 20) 4 rfl (.cons (k := 2) rfl (.cons (k := 3) rfl (.cons (k := 12) rfl (.cons (k := 13) rfl (.cons (k := 14) rfl (.cons (k := 15) rfl .nil)))))) (.cons (k := 0) rfl (.cons (k := 1) rfl (.cons (k := 102) rfl (.cons (k := 103) rfl .nil)))) ?_ ?_ ?_
  rotate_left 1
  ·
    intro hg16
    have hf6 : (x.o.length : Int) ≤ 6 ∧ (x.n.length : Int) ≤ 6 ∧ (x.l.length : Int) ≤ 6 := by
      have h := hg16
      simp only [Bool.or_eq_false_iff, Bool.not_eq_false', decide_eq_true_eq, decide_eq_false_iff_not, Classical.not_not] at h
      exact h
    refine RL.gq rfl rfl (Yld.load1 (c := 103) Tryd.underlying36 rfl rfl rfl (by first | exact single_self _ _ | exact pset_self _ _ _ | assumption) rfl) rfl ?_
    refine RL.gq rfl rfl (Yld.lenSl Tryd.underlying36 rfl) rfl ?_
    refine RL.gq rfl rfl (Yld.bin rfl rfl BinV.eql) rfl ?_
    refine RL.q (by first | exact Yld.pickT rfl rfl | exact Yld.pickF rfl rfl) rfl ?_
    exact RL.nil (N.meet (.cons rfl (.cons rfl (.cons rfl (.cons rfl (.cons rfl (.cons rfl (.cons rfl .nil))))))) (.cons rfl (.cons rfl (.cons rfl (.cons rfl .nil)))))
  ·
    intro hg16
    refine RL.gskip rfl rfl rfl rfl ?_
    refine RL.gskip rfl rfl rfl rfl ?_
    refine RL.gskip rfl rfl rfl rfl ?_
    refine RL.q (by first | exact Yld.pickT rfl rfl | exact Yld.pickF rfl rfl) rfl ?_
    exact RL.nil (N.meet (.cons rfl (.cons rfl (.cons rfl (.cons rfl (.cons rfl (.cons rfl (.cons rfl .nil))))))) (.cons rfl (.cons rfl (.cons rfl (.cons rfl .nil)))))
  refine RL.q (Yld.move rfl) rfl ?_
  refine' RL.or (t := 21) (d := 25) 4 rfl (.cons (k := 2) rfl (.cons (k := 3) rfl (.cons (k := 12) rfl (.cons (k := 13) rfl (.cons (k := 14) rfl (.cons (k := 15) rfl (.cons (k := 20) rfl .nil))))))) (.cons (k := 0) rfl (.cons (k := 1) rfl (.cons (k := 102) rfl (.cons (k := 103) rfl .nil)))) ?_ ?_ ?_
  rotate_left 1
  ·
    intro hg21
    refine RL.gq rfl rfl (Yld.load1 (c := 103) Tryd.underlying36 rfl rfl rfl (by first | exact single_self _ _ | exact pset_self _ _ _ | assumption) rfl) rfl ?_
    refine RL.gq rfl rfl (Yld.lenSl Tryd.underlying36 rfl) rfl ?_
    refine RL.gq rfl rfl (Yld.bin rfl rfl BinV.gtr) rfl ?_
    refine RL.q (by first | exact Yld.pickT rfl rfl | exact Yld.pickF rfl rfl) rfl ?_
    exact RL.nil (N.meet (.cons rfl (.cons rfl (.cons rfl (.cons rfl (.cons rfl (.cons rfl (.cons rfl (.cons rfl .nil)))))))) (.cons rfl (.cons rfl (.cons rfl (.cons rfl .nil)))))
  ·
    intro hg21
    refine RL.gskip rfl rfl rfl rfl ?_
    refine RL.gskip rfl rfl rfl rfl ?_
    refine RL.gskip rfl rfl rfl rfl ?_
    refine RL.q (by first | exact Yld.pickT rfl rfl | exact Yld.pickF rfl rfl) rfl ?_
    exact RL.nil (N.meet (.cons rfl (.cons rfl (.cons rfl (.cons rfl (.cons rfl (.cons rfl (.cons rfl (.cons rfl .nil)))))))) (.cons rfl (.cons rfl (.cons rfl (.cons rfl .nil)))))
  refine RL.q (Yld.move rfl) rfl ?_
  refine' RL.or (t := 26) (d := 30) 4 rfl (.cons (k := 2) rfl (.cons (k := 3) rfl (.cons (k := 12) rfl (.cons (k := 13) rfl (.cons (k := 14) rfl (.cons (k := 15) rfl (.cons (k := 20) rfl (.cons (k := 25) rfl .nil)))))))) (.cons (k := 0) rfl (.cons (k := 1) rfl (.cons (k := 102) rfl (.cons (k := 103) rfl .nil)))) ?_ ?_ ?_
  rotate_left 1
  ·
    intro hg26
    have hf6 : (x.o.length : Int) ≤ 6 ∧ (x.n.length : Int) ≤ 6 ∧ (x.l.length : Int) ≤ 6 := by
      have h := hg26
      simp only [Bool.or_eq_false_iff, Bool.not_eq_false', decide_eq_true_eq, decide_eq_false_iff_not, Classical.not_not] at h
      exact h.1.1
    refine RL.gq rfl rfl (Yld.loadW (c := 102) Tryd.underlying24 rfl sz24 rfl rfl (by first | exact single_self _ _ | exact pset_self _ _ _ | assumption) rfl) rfl ?_
    refine RL.ge rfl rfl (Eff.call ent14 [1] [1] (.cons rfl .nil) (cvalid_ct x H1 hx (by omega) (by omega) (by omega)) rfl rfl rfl rfl (by rintro _ _ ⟨_, rfl⟩; rfl)) rfl ?_
    rintro _ _ ⟨_, ⟨rfl, rfl⟩, rfl⟩
    refine RL.gq rfl rfl (by first | exact Yld.notD rfl | exact Yld.not rfl) rfl ?_
    refine RL.q (by first | exact Yld.pickT rfl rfl | exact Yld.pickF rfl rfl) rfl ?_
    exact RL.nil (N.meet (.cons rfl (.cons rfl (.cons rfl (.cons rfl (.cons rfl (.cons rfl (.cons rfl (.cons rfl (.cons rfl .nil))))))))) (.cons rfl (.cons rfl (.cons rfl (.cons rfl .nil)))))
  ·
    intro hg26
    refine RL.gskip rfl rfl rfl rfl ?_
    refine RL.gskip rfl rfl rfl rfl ?_
    refine RL.gskip rfl rfl rfl rfl ?_
    refine RL.q (by first | exact Yld.pickT rfl rfl | exact Yld.pickF rfl rfl) rfl ?_
    exact RL.nil (N.meet (.cons rfl (.cons rfl (.cons rfl (.cons rfl (.cons rfl (.cons rfl (.cons rfl (.cons rfl (.cons rfl .nil))))))))) (.cons rfl (.cons rfl (.cons rfl (.cons rfl .nil)))))
  refine RL.nil ?_
  refine N.next ?_
  refine W.keep (.cons (k := 2) rfl (.cons (k := 3) rfl (.cons (k := 30) rfl .nil))) (.cons (k := 0) rfl (.cons (k := 1) rfl (.cons (k := 102) rfl (.cons (k := 103) rfl .nil)))) ?_
  refine W.cond rfl (fun hc30 => ?_) (fun hc30 => ?_)
  ·
    refine W.seq ?_
    refine W.region ?_
    refine RL.q (Yld.assign rfl) rfl ?_
    refine RL.nil ?_
    refine N.next ?_
    refine W.ret ?_
    refine N.then_ret ?_
    exact N.retBy [1] (.cons (.tmp rfl) .nil) rfl rfl rfl rfl ⟨rfl, rfl⟩
  ·
    simp only [Bool.or_eq_false_iff, Bool.not_eq_false', decide_eq_true_eq, decide_eq_false_iff_not, Classical.not_not] at hc30
    have hf6 := hc30.1.1.1
    have hm0 : m.length ≠ 0 := by omega
    have hok := hc30.2
    refine W.skip ?_
    refine N.next ?_
    refine W.seq ?_
    refine W.region ?_
    refine RL.q (Yld.makeFunc eval0 (eval1 rfl)) rfl ?_
    refine RL.q (Yld.assign rfl) rfl ?_
    refine RL.nil ?_
    refine N.next ?_
    refine W.seq ?_
    refine W.region ?_
    refine RL.q (Yld.loadW (c := 102) Tryd.underlying24 rfl sz24 rfl rfl (by first | exact single_self _ _ | exact pset_self _ _ _ | assumption) rfl) rfl ?_
    refine RL.q (Yld.move rfl) rfl ?_
    refine RL.e (Eff.call ent18 [1, 103] [1, 103] (.cons rfl (.cons rfl .nil)) (agreed_ct x H1 hx 20 [.pointer (some ⟨b3, 0, none⟩)] _ (qof m) ent20 (fun z hz => qof8_ct b3 H1 m hmb _ _ hm hm0 z hz) (by omega) (by omega)) rfl rfl rfl rfl (by rintro _ _ ⟨_, rfl⟩; rfl)) rfl ?_
    rintro _ _ ⟨_, ⟨rfl, rfl⟩, rfl⟩
    obtain ⟨n, hnn⟩ : ∃ n, agr x.o x.n (qof m) = n := ⟨_, rfl⟩
    rw [hnn]
    refine RL.q (Yld.assign rfl) rfl ?_
    refine RL.nil ?_
    refine N.next ?_
    refine W.keep (.cons (k := 2) rfl (.cons (k := 5) rfl (.cons (k := 6) rfl .nil))) (.cons (k := 0) rfl (.cons (k := 1) rfl (.cons (k := 102) rfl (.cons (k := 103) rfl .nil)))) ?_
    refine W.seq ?_
    refine W.region ?_
    refine RL.e (Eff.buildSlice 135 Tryd.underlying22 sz3 zc3 rfl rfl .nil rfl) rfl ?_
    rintro _ _ ⟨b35, rfl, rfl⟩
    refine RL.e (Eff.buildSlice 136 Tryd.underlying22 sz3 zc3 rfl rfl .nil rfl) rfl ?_
    rintro _ _ ⟨b36, rfl, rfl⟩
    refine RL.q (Yld.assign rfl) rfl ?_
    refine RL.q (Yld.assign rfl) rfl ?_
    refine RL.nil ?_
    refine N.next ?_
    refine W.seq ?_
    refine W.seq ?_
    refine W.region ?_
    refine RL.q (Yld.loadW (c := 102) Tryd.underlying24 rfl sz24 rfl rfl (by first | exact single_self _ _ | exact pset_self _ _ _ | assumption) rfl) rfl ?_
    refine RL.e (Eff.call ent12 [1] [1, 130] (.cons rfl .nil) (cvoters_ct x H1 hx (by simp; omega)) rfl rfl rfl rfl (by rintro _ _ ⟨_, _, _, _, _, rfl⟩; rfl)) rfl ?_
    rintro _ _ ⟨_, ⟨Hv, pv, cv, rfl, hOv, rfl⟩, rfl⟩
    have hr1 := agr_reached (q := qof m) hok.1 hok.2.1 hok.2.2.2.1 (fun z _ => qof_pos hmb z)
    have hr2 := agr_more (o := x.o) (n := x.n) (q := qof m)
    have hr0 := agr_nonneg (o := x.o) (n := x.n) (q := qof m)
    rw [hnn] at hr0 hr1 hr2
    have hVl := setL_len (x.o ++ x.n)
    rw [List.length_append] at hVl
    have hV1 : ∀ z ∈ setL (x.o ++ x.n), 1 ≤ z := fun z hz => setL_pos hz
    obtain ⟨V, hV⟩ : ∃ V, setL (x.o ++ x.n) = V := ⟨_, rfl⟩
    rw [hV] at hOv hVl hV1 hr1 hr2 ⊢
    have hcv := hOv.sl.len_le
    simp only [iz_len, maxLen] at hcv
    refine RL.q (Yld.lenSl Tryd.underlying22 rfl) rfl ?_
    refine RL.q (Yld.move rfl) rfl ?_
    refine RL.nil ?_
    refine N.next ?_
    refine W.block ?_
    refine W.loopK (ι := RI) (fun y => (y.i ≤ V.length ∧ Own y.H y.p y.c 3 1 (iz y.s) ∧ Own y.G y.q y.d 3 1 (iz y.t) ∧ y.s = (V.take y.i).filter (fun z => decide (n ≤ qof m z)) ∧ y.t = (V.take y.i).filter (fun z => decide (n < qof m z)))) (fun y => [(7, .slice y.p y.s.length y.c), (8, .slice y.q y.t.length y.d), (40, .int .i64 (y.i : Nat))]) (fun y => [(135, y.H), (136, y.G)]) (fun y => V.length - y.i) (.cons (k := 2) rfl (.cons (k := 5) rfl (.cons (k := 6) rfl (.cons (k := 38) rfl (.cons (k := 39) rfl .nil))))) (.cons (k := 0) rfl (.cons (k := 1) rfl (.cons (k := 102) rfl (.cons (k := 103) rfl (.cons (k := 130) rfl .nil))))) ⟨0, single b35 (.cells [].toArray 3 (0, 0)), some ⟨b35, 0, none⟩, 0, [], single b36 (.cells [].toArray 3 (0, 0)), some ⟨b36, 0, none⟩, 0, []⟩ ?_ ?_ ?_ ?_
    · exact ⟨Nat.zero_le _, iz_none rfl, iz_none rfl, rfl, rfl⟩
    · exact (.as rfl (by first | rfl | (simp; done) | (congr 1; simp; done) | (congr 1; omega)) (.as rfl (by first | rfl | (simp; done) | (congr 1; simp; done) | (congr 1; omega)) (.as rfl (by first | rfl | (simp; done) | (congr 1; simp; done) | (congr 1; omega)) .nil)))
    · exact (.cons rfl (.cons rfl .nil))
    rintro y ⟨hi, hO, hG, hs, ht⟩
    refine W.keep (.cons (k := 7) rfl (.cons (k := 8) rfl (.cons (k := 40) rfl (.cons (k := 2) rfl (.cons (k := 5) rfl (.cons (k := 6) rfl (.cons (k := 38) rfl (.cons (k := 39) rfl .nil)))))))) (.cons (k := 135) rfl (.cons (k := 136) rfl (.cons (k := 0) rfl (.cons (k := 1) rfl (.cons (k := 102) rfl (.cons (k := 103) rfl (.cons (k := 130) rfl .nil))))))) ?_
    refine W.seq ?_
    refine W.region ?_
    refine RL.q (Yld.bin rfl rfl BinV.lss) rfl ?_
    refine RL.nil ?_
    refine N.next ?_
    refine W.seq ?_
    first | refine W.condD rfl (fun hc41 => ?_) (fun hc41 => ?_) | (refine W.cond rfl (fun hc41 => ?_) (fun hc41 => ?_) <;> try simp only [Bool.or_eq_true, Bool.and_eq_true, Bool.not_eq_true', Bool.not_eq_false', decide_eq_true_eq, Bool.or_eq_false_iff, Bool.and_eq_false_iff, decide_eq_false_iff_not, beq_iff_eq, beq_eq_false_iff_ne, ne_eq, Decidable.not_not] at hc41)
    ·
      obtain ⟨z, hz, hlz⟩ := iz_at (show y.i < V.length by omega)
      have hsl : y.s.length ≤ y.i := by rw [hs]; exact Nat.le_trans (List.length_filter_le _ _) (by rw [List.length_take]; omega)
      have htl : y.t.length ≤ y.i := by rw [ht]; exact Nat.le_trans (List.length_filter_le _ _) (by rw [List.length_take]; omega)
      refine W.skip ?_
      refine N.next ?_
      refine W.seq ?_
      refine W.block ?_
      refine W.seq ?_
      refine W.region ?_
      refine RL.q (Yld.indexRow Tryd.underlying22 sz3 rfl rfl (by first | assumption | exact Own.sl (by assumption)) (by first | rfl | omega | (simp; done) | (simp; omega)) (by omega) (by first | omega | (simp; done) | (simp; omega))) rfl ?_
      refine RL.q (by first | exact (by first | exact Yld.loadRow1 (cl := 1) Tryd.underlying3 rfl rfl rfl (by first | assumption | exact Own.sl (by assumption)) (by assumption) | exact Yld.loadRow1 (cl := 102) Tryd.underlying3 rfl rfl rfl (by first | assumption | exact Own.sl (by assumption)) (by assumption) | exact Yld.loadRow1 (cl := 103) Tryd.underlying3 rfl rfl rfl (by first | assumption | exact Own.sl (by assumption)) (by assumption) | exact Yld.loadRow1 (cl := 130) Tryd.underlying3 rfl rfl rfl (by first | assumption | exact Own.sl (by assumption)) (by assumption) | exact Yld.loadRow1 (cl := 135) Tryd.underlying3 rfl rfl rfl (by first | assumption | exact Own.sl (by assumption)) (by assumption) | exact Yld.loadRow1 (cl := 136) Tryd.underlying3 rfl rfl rfl (by first | assumption | exact Own.sl (by assumption)) (by assumption)) | exact (by first | exact Yld.loadRowF (cl := 1) (j := 0) Tryd.underlying3 rfl rfl rfl (by first | assumption | exact Own.sl (by assumption)) (by assumption) rfl | exact Yld.loadRowF (cl := 102) (j := 0) Tryd.underlying3 rfl rfl rfl (by first | assumption | exact Own.sl (by assumption)) (by assumption) rfl | exact Yld.loadRowF (cl := 103) (j := 0) Tryd.underlying3 rfl rfl rfl (by first | assumption | exact Own.sl (by assumption)) (by assumption) rfl | exact Yld.loadRowF (cl := 130) (j := 0) Tryd.underlying3 rfl rfl rfl (by first | assumption | exact Own.sl (by assumption)) (by assumption) rfl | exact Yld.loadRowF (cl := 135) (j := 0) Tryd.underlying3 rfl rfl rfl (by first | assumption | exact Own.sl (by assumption)) (by assumption) rfl | exact Yld.loadRowF (cl := 136) (j := 0) Tryd.underlying3 rfl rfl rfl (by first | assumption | exact Own.sl (by assumption)) (by assumption) rfl)) rfl ?_
      refine RL.q (Yld.assign rfl) rfl ?_
      refine RL.nil ?_
      refine N.next ?_
      refine W.seq ?_
      refine W.seq ?_
      refine W.region ?_
      refine RL.q (Yld.move rfl) rfl ?_
      refine RL.q (Yld.move rfl) rfl ?_
      refine RL.e (Eff.callV ent20 [103, 1] [103, 1] rfl (.cons rfl .nil) (qof8_ct b3 H1 m hmb _ _ hm hm0 z (hV1 z (List.mem_of_getElem? hz))) rfl rfl rfl rfl (by rintro _ _ ⟨_, rfl⟩; rfl)) rfl ?_
      rintro _ _ ⟨_, ⟨rfl, rfl⟩, rfl⟩
      refine RL.q (Yld.move rfl) rfl ?_
      refine RL.q (Yld.bin rfl rfl BinV.geq) rfl ?_
      refine RL.nil ?_
      refine N.next ?_
      refine W.keep (.cons (k := 2) rfl (.cons (k := 5) rfl (.cons (k := 6) rfl (.cons (k := 7) rfl (.cons (k := 8) rfl (.cons (k := 10) rfl (.cons (k := 38) rfl (.cons (k := 39) rfl (.cons (k := 40) rfl (.cons (k := 48) rfl .nil)))))))))) (.cons (k := 0) rfl (.cons (k := 1) rfl (.cons (k := 102) rfl (.cons (k := 103) rfl (.cons (k := 130) rfl (.cons (k := 135) rfl (.cons (k := 136) rfl .nil))))))) ?_
      first | refine W.condD rfl (fun hc48 => ?_) (fun hc48 => ?_) | (refine W.cond rfl (fun hc48 => ?_) (fun hc48 => ?_) <;> try simp only [Bool.or_eq_true, Bool.and_eq_true, Bool.not_eq_true', Bool.not_eq_false', decide_eq_true_eq, Bool.or_eq_false_iff, Bool.and_eq_false_iff, decide_eq_false_iff_not, beq_iff_eq, beq_eq_false_iff_ne, ne_eq, Decidable.not_not] at hc48)
      ·
        refine W.region ?_
        refine RL.q (Yld.move rfl) rfl ?_
        refine RL.q (Yld.move rfl) rfl ?_
        refine RL.e (Eff.buildSlice 151 Tryd.underlying22 sz3 zc3 rfl rfl (.cons rfl rfl .nil) rfl) rfl ?_
        rintro _ _ ⟨b51, rfl, rfl⟩
        refine RL.e (Eff.appendE (tc := 135) (sc := 151) (fun z : Int => [Value.int .i64 z]) Tryd.underlying22 el3 rfl rfl rfl rfl hO rfl (iz_single rfl) rfl (iz_one1 _) (by decide) (by first | (simp; done) | (simp; omega)) (by first | (simp [maxLen]; done) | (simp [maxLen]; omega))) rfl ?_
        rintro _ _ ⟨Ha, pa, ca, rfl, hOa, rfl⟩
        refine RL.q (Yld.assign rfl) rfl ?_
        refine RL.nil ?_
        refine N.next ?_
        refine W.keep (.cons (k := 2) rfl (.cons (k := 5) rfl (.cons (k := 6) rfl (.cons (k := 7) rfl (.cons (k := 8) rfl (.cons (k := 10) rfl (.cons (k := 38) rfl (.cons (k := 39) rfl (.cons (k := 40) rfl .nil))))))))) (.cons (k := 0) rfl (.cons (k := 1) rfl (.cons (k := 102) rfl (.cons (k := 103) rfl (.cons (k := 130) rfl (.cons (k := 135) rfl (.cons (k := 136) rfl (.cons (k := 151) rfl .nil)))))))) ?_
        refine W.seq ?_
        refine W.region ?_
        refine RL.q (Yld.move rfl) rfl ?_
        refine RL.q (Yld.move rfl) rfl ?_
        refine RL.e (Eff.callV ent20 [103, 1] [103, 1] rfl (.cons rfl .nil) (qof8_ct b3 H1 m hmb _ _ hm hm0 z (hV1 z (List.mem_of_getElem? hz))) rfl rfl rfl rfl (by rintro _ _ ⟨_, rfl⟩; rfl)) rfl ?_
        rintro _ _ ⟨_, ⟨rfl, rfl⟩, rfl⟩
        refine RL.q (Yld.move rfl) rfl ?_
        refine RL.q (Yld.bin rfl rfl BinV.gtr) rfl ?_
        refine RL.nil ?_
        refine N.next ?_
        refine W.keep (.cons (k := 2) rfl (.cons (k := 5) rfl (.cons (k := 6) rfl (.cons (k := 7) rfl (.cons (k := 8) rfl (.cons (k := 10) rfl (.cons (k := 38) rfl (.cons (k := 39) rfl (.cons (k := 40) rfl (.cons (k := 57) rfl .nil)))))))))) (.cons (k := 0) rfl (.cons (k := 1) rfl (.cons (k := 102) rfl (.cons (k := 103) rfl (.cons (k := 130) rfl (.cons (k := 135) rfl (.cons (k := 136) rfl (.cons (k := 151) rfl .nil)))))))) ?_
        first | refine W.condD rfl (fun hc57 => ?_) (fun hc57 => ?_) | (refine W.cond rfl (fun hc57 => ?_) (fun hc57 => ?_) <;> try simp only [Bool.or_eq_true, Bool.and_eq_true, Bool.not_eq_true', Bool.not_eq_false', decide_eq_true_eq, Bool.or_eq_false_iff, Bool.and_eq_false_iff, decide_eq_false_iff_not, beq_iff_eq, beq_eq_false_iff_ne, ne_eq, Decidable.not_not] at hc57)
        ·
          refine W.region ?_
          refine RL.q (Yld.move rfl) rfl ?_
          refine RL.q (Yld.move rfl) rfl ?_
          refine RL.e (Eff.buildSlice 160 Tryd.underlying22 sz3 zc3 rfl rfl (.cons rfl rfl .nil) rfl) rfl ?_
          rintro _ _ ⟨b60, rfl, rfl⟩
          refine RL.e (Eff.appendE (tc := 136) (sc := 160) (fun z : Int => [Value.int .i64 z]) Tryd.underlying22 el3 rfl rfl rfl rfl hG rfl (iz_single rfl) rfl (iz_one1 _) (by decide) (by first | (simp; done) | (simp; omega)) (by first | (simp [maxLen]; done) | (simp [maxLen]; omega))) rfl ?_
          rintro _ _ ⟨Hb, pb, cb, rfl, hOb, rfl⟩
          refine RL.q (Yld.assign rfl) rfl ?_
          refine RL.nil ?_
          refine N.block_normal ?_
          refine N.next ?_
          refine W.keep (.cons (k := 2) rfl (.cons (k := 5) rfl (.cons (k := 6) rfl (.cons (k := 7) rfl (.cons (k := 8) rfl (.cons (k := 38) rfl (.cons (k := 39) rfl (.cons (k := 40) rfl .nil)))))))) (.cons (k := 0) rfl (.cons (k := 1) rfl (.cons (k := 102) rfl (.cons (k := 103) rfl (.cons (k := 130) rfl (.cons (k := 135) rfl (.cons (k := 136) rfl (.cons (k := 151) rfl (.cons (k := 160) rfl .nil))))))))) ?_
          refine W.region ?_
          refine RL.q (Yld.bin rfl rfl (by first | exact BinV.add (by omega) (by omega) | exact BinV.addW)) rfl ?_
          refine RL.q (Yld.move rfl) rfl ?_
          refine RL.nil ?_
          exact N.famK ⟨y.i + 1, Ha, pa, ca, y.s ++ [z], Hb, pb, cb, y.t ++ [z]⟩ ⟨⟨by dsimp only; omega, hOa, hOb, by dsimp only; rw [filter_take hz, if_pos (decide_eq_true hc48), hs], by dsimp only; rw [filter_take hz, if_pos (decide_eq_true hc57), ht]⟩, by dsimp only; omega⟩ (.as rfl (by first | rfl | (simp; done) | (congr 1; simp; done) | (congr 1; omega)) (.as rfl (by first | rfl | (simp; done) | (congr 1; simp; done) | (congr 1; omega)) (.as rfl (by first | rfl | (simp; done) | (congr 1; simp; done) | (congr 1; omega)) .nil))) (.cons rfl (.cons rfl (.cons rfl (.cons rfl (.cons rfl .nil))))) (.cons rfl (.cons rfl .nil)) (.cons rfl (.cons rfl (.cons rfl (.cons rfl (.cons rfl .nil)))))
        ·
          refine W.skip ?_
          refine N.block_normal ?_
          refine N.next ?_
          refine W.region ?_
          refine RL.q (Yld.bin rfl rfl (by first | exact BinV.add (by omega) (by omega) | exact BinV.addW)) rfl ?_
          refine RL.q (Yld.move rfl) rfl ?_
          refine RL.nil ?_
          exact N.famK ⟨y.i + 1, Ha, pa, ca, y.s ++ [z], y.G, y.q, y.d, y.t⟩ ⟨⟨by dsimp only; omega, hOa, hG, by dsimp only; rw [filter_take hz, if_pos (decide_eq_true hc48), hs], by dsimp only; rw [filter_take hz, if_neg (by simpa using hc57), ht]⟩, by dsimp only; omega⟩ (.as rfl (by first | rfl | (simp; done) | (congr 1; simp; done) | (congr 1; omega)) (.as rfl (by first | rfl | (simp; done) | (congr 1; simp; done) | (congr 1; omega)) (.as rfl (by first | rfl | (simp; done) | (congr 1; simp; done) | (congr 1; omega)) .nil))) (.cons rfl (.cons rfl (.cons rfl (.cons rfl (.cons rfl .nil))))) (.cons rfl (.cons rfl .nil)) (.cons rfl (.cons rfl (.cons rfl (.cons rfl (.cons rfl .nil)))))
      ·
        refine W.skip ?_
        refine N.next ?_
        refine W.seq ?_
        refine W.region ?_
        refine RL.q (Yld.move rfl) rfl ?_
        refine RL.q (Yld.move rfl) rfl ?_
        refine RL.e (Eff.callV ent20 [103, 1] [103, 1] rfl (.cons rfl .nil) (qof8_ct b3 H1 m hmb _ _ hm hm0 z (hV1 z (List.mem_of_getElem? hz))) rfl rfl rfl rfl (by rintro _ _ ⟨_, rfl⟩; rfl)) rfl ?_
        rintro _ _ ⟨_, ⟨rfl, rfl⟩, rfl⟩
        refine RL.q (Yld.move rfl) rfl ?_
        refine RL.q (Yld.bin rfl rfl BinV.gtr) rfl ?_
        refine RL.nil ?_
        refine N.next ?_
        refine W.keep (.cons (k := 2) rfl (.cons (k := 5) rfl (.cons (k := 6) rfl (.cons (k := 7) rfl (.cons (k := 8) rfl (.cons (k := 10) rfl (.cons (k := 38) rfl (.cons (k := 39) rfl (.cons (k := 40) rfl (.cons (k := 57) rfl .nil)))))))))) (.cons (k := 0) rfl (.cons (k := 1) rfl (.cons (k := 102) rfl (.cons (k := 103) rfl (.cons (k := 130) rfl (.cons (k := 135) rfl (.cons (k := 136) rfl .nil))))))) ?_
        first | refine W.condD rfl (fun hc57 => ?_) (fun hc57 => ?_) | (refine W.cond rfl (fun hc57 => ?_) (fun hc57 => ?_) <;> try simp only [Bool.or_eq_true, Bool.and_eq_true, Bool.not_eq_true', Bool.not_eq_false', decide_eq_true_eq, Bool.or_eq_false_iff, Bool.and_eq_false_iff, decide_eq_false_iff_not, beq_iff_eq, beq_eq_false_iff_ne, ne_eq, Decidable.not_not] at hc57)
        ·
          refine W.region ?_
          refine RL.q (Yld.move rfl) rfl ?_
          refine RL.q (Yld.move rfl) rfl ?_
          refine RL.e (Eff.buildSlice 160 Tryd.underlying22 sz3 zc3 rfl rfl (.cons rfl rfl .nil) rfl) rfl ?_
          rintro _ _ ⟨b60, rfl, rfl⟩
          refine RL.e (Eff.appendE (tc := 136) (sc := 160) (fun z : Int => [Value.int .i64 z]) Tryd.underlying22 el3 rfl rfl rfl rfl hG rfl (iz_single rfl) rfl (iz_one1 _) (by decide) (by first | (simp; done) | (simp; omega)) (by first | (simp [maxLen]; done) | (simp [maxLen]; omega))) rfl ?_
          rintro _ _ ⟨Hb, pb, cb, rfl, hOb, rfl⟩
          refine RL.q (Yld.assign rfl) rfl ?_
          refine RL.nil ?_
          refine N.block_normal ?_
          refine N.next ?_
          refine W.keep (.cons (k := 2) rfl (.cons (k := 5) rfl (.cons (k := 6) rfl (.cons (k := 7) rfl (.cons (k := 8) rfl (.cons (k := 38) rfl (.cons (k := 39) rfl (.cons (k := 40) rfl .nil)))))))) (.cons (k := 0) rfl (.cons (k := 1) rfl (.cons (k := 102) rfl (.cons (k := 103) rfl (.cons (k := 130) rfl (.cons (k := 135) rfl (.cons (k := 136) rfl (.cons (k := 160) rfl .nil)))))))) ?_
          refine W.region ?_
          refine RL.q (Yld.bin rfl rfl (by first | exact BinV.add (by omega) (by omega) | exact BinV.addW)) rfl ?_
          refine RL.q (Yld.move rfl) rfl ?_
          refine RL.nil ?_
          exact N.famK ⟨y.i + 1, y.H, y.p, y.c, y.s, Hb, pb, cb, y.t ++ [z]⟩ ⟨⟨by dsimp only; omega, hO, hOb, by dsimp only; rw [filter_take hz, if_neg (by simpa using hc48), hs], by dsimp only; rw [filter_take hz, if_pos (decide_eq_true hc57), ht]⟩, by dsimp only; omega⟩ (.as rfl (by first | rfl | (simp; done) | (congr 1; simp; done) | (congr 1; omega)) (.as rfl (by first | rfl | (simp; done) | (congr 1; simp; done) | (congr 1; omega)) (.as rfl (by first | rfl | (simp; done) | (congr 1; simp; done) | (congr 1; omega)) .nil))) (.cons rfl (.cons rfl (.cons rfl (.cons rfl (.cons rfl .nil))))) (.cons rfl (.cons rfl .nil)) (.cons rfl (.cons rfl (.cons rfl (.cons rfl (.cons rfl .nil)))))
        ·
          refine W.skip ?_
          refine N.block_normal ?_
          refine N.next ?_
          refine W.region ?_
          refine RL.q (Yld.bin rfl rfl (by first | exact BinV.add (by omega) (by omega) | exact BinV.addW)) rfl ?_
          refine RL.q (Yld.move rfl) rfl ?_
          refine RL.nil ?_
          exact N.famK ⟨y.i + 1, y.H, y.p, y.c, y.s, y.G, y.q, y.d, y.t⟩ ⟨⟨by dsimp only; omega, hO, hG, by dsimp only; rw [filter_take hz, if_neg (by simpa using hc48), hs], by dsimp only; rw [filter_take hz, if_neg (by simpa using hc57), ht]⟩, by dsimp only; omega⟩ (.as rfl (by first | rfl | (simp; done) | (congr 1; simp; done) | (congr 1; omega)) (.as rfl (by first | rfl | (simp; done) | (congr 1; simp; done) | (congr 1; omega)) (.as rfl (by first | rfl | (simp; done) | (congr 1; simp; done) | (congr 1; omega)) .nil))) (.cons rfl (.cons rfl (.cons rfl (.cons rfl (.cons rfl .nil))))) (.cons rfl (.cons rfl .nil)) (.cons rfl (.cons rfl (.cons rfl (.cons rfl (.cons rfl .nil)))))
    ·
      have hend : y.i = V.length := by omega
      rw [hend, List.take_length] at hs ht
      refine W.exit ?_
      refine N.then_exit ?_
      refine N.then_exit ?_
      refine N.block_eq ?_
      refine N.next ?_
      refine W.keep (.cons (k := 2) rfl (.cons (k := 6) rfl (.cons (k := 7) rfl (.cons (k := 8) rfl .nil)))) (.cons (k := 0) rfl (.cons (k := 1) rfl (.cons (k := 102) rfl (.cons (k := 103) rfl (.cons (k := 130) rfl (.cons (k := 135) rfl (.cons (k := 136) rfl .nil))))))) ?_
      refine W.seq ?_
      refine W.region ?_
      refine RL.q (Yld.move rfl) rfl ?_
      refine RL.q (Yld.bin rfl rfl BinV.geq) rfl ?_
      refine RL.q (Yld.move rfl) rfl ?_
      refine' RL.and (t := 65) (d := 69) 4 rfl (.cons (k := 2) rfl (.cons (k := 6) rfl (.cons (k := 7) rfl (.cons (k := 8) rfl (.cons (k := 63) rfl (.cons (k := 64) rfl .nil)))))) (.cons (k := 0) rfl (.cons (k := 1) rfl (.cons (k := 102) rfl (.cons (k := 103) rfl (.cons (k := 130) rfl (.cons (k := 135) rfl (.cons (k := 136) rfl .nil))))))) ?_ ?_ ?_
      rotate_left 1
      ·
        intro hg65
        refine RL.gq rfl rfl (Yld.loadW (c := 102) Tryd.underlying24 rfl sz24 rfl rfl (by first | exact single_self _ _ | exact pset_self _ _ _ | assumption) rfl) rfl ?_
        refine RL.gq rfl rfl (Yld.move rfl) rfl ?_
        refine RL.ge rfl rfl (Eff.call ent11 [1, 135] [1, 135] (.cons rfl (.cons rfl .nil)) (cquorum_ct x H1 hx y.s _ _ _ hO.sl (by omega) (by omega)) rfl rfl rfl rfl (by rintro _ _ ⟨_, rfl⟩; rfl)) rfl ?_
        rintro _ _ ⟨_, ⟨rfl, rfl⟩, rfl⟩
        rw [hs, hr1]
        refine RL.q (by first | exact Yld.pickT rfl rfl | exact Yld.pickF rfl rfl) rfl ?_
        exact RL.nil (N.meet (.cons rfl (.cons rfl (.cons rfl (.cons rfl (.cons rfl (.cons rfl (.cons rfl .nil))))))) (.cons rfl (.cons rfl (.cons rfl (.cons rfl (.cons rfl (.cons rfl (.cons rfl .nil))))))))
      ·
        intro hg65
        refine RL.gskip rfl rfl rfl rfl ?_
        refine RL.gskip rfl rfl rfl rfl ?_
        refine RL.gskip rfl rfl rfl rfl ?_
        refine RL.q (by first | exact Yld.pickT rfl rfl | exact Yld.pickF rfl rfl) rfl ?_
        exact RL.nil (N.meet (.cons rfl (.cons rfl (.cons rfl (.cons rfl (.cons rfl (.cons rfl (.cons rfl .nil))))))) (.cons rfl (.cons rfl (.cons rfl (.cons rfl (.cons rfl (.cons rfl (.cons rfl .nil))))))))
      refine RL.q (Yld.move rfl) rfl ?_
      refine' RL.and (t := 70) (d := 75) 5 rfl (.cons (k := 2) rfl (.cons (k := 6) rfl (.cons (k := 7) rfl (.cons (k := 8) rfl (.cons (k := 63) rfl (.cons (k := 64) rfl (.cons (k := 69) rfl .nil))))))) (.cons (k := 0) rfl (.cons (k := 1) rfl (.cons (k := 102) rfl (.cons (k := 103) rfl (.cons (k := 130) rfl (.cons (k := 135) rfl (.cons (k := 136) rfl .nil))))))) ?_ ?_ ?_
      rotate_left 1
      ·
        intro hg70
        refine RL.gq rfl rfl (Yld.loadW (c := 102) Tryd.underlying24 rfl sz24 rfl rfl (by first | exact single_self _ _ | exact pset_self _ _ _ | assumption) rfl) rfl ?_
        refine RL.gq rfl rfl (Yld.move rfl) rfl ?_
        refine RL.ge rfl rfl (Eff.call ent11 [1, 136] [1, 136] (.cons rfl (.cons rfl .nil)) (cquorum_ct x H1 hx y.t _ _ _ hG.sl (by omega) (by omega)) rfl rfl rfl rfl (by rintro _ _ ⟨_, rfl⟩; rfl)) rfl ?_
        rintro _ _ ⟨_, ⟨rfl, rfl⟩, rfl⟩
        rw [ht, hr2]
        refine RL.gq rfl rfl (by first | exact Yld.notD rfl | exact Yld.not rfl) rfl ?_
        refine RL.q (by first | exact Yld.pickT rfl rfl | exact Yld.pickF rfl rfl) rfl ?_
        exact RL.nil (N.meet (.cons rfl (.cons rfl (.cons rfl (.cons rfl (.cons rfl (.cons rfl (.cons rfl (.cons rfl .nil)))))))) (.cons rfl (.cons rfl (.cons rfl (.cons rfl (.cons rfl (.cons rfl (.cons rfl .nil))))))))
      ·
        intro hg70
        refine RL.gskip rfl rfl rfl rfl ?_
        refine RL.gskip rfl rfl rfl rfl ?_
        refine RL.gskip rfl rfl rfl rfl ?_
        refine RL.gskip rfl rfl rfl rfl ?_
        refine RL.q (by first | exact Yld.pickT rfl rfl | exact Yld.pickF rfl rfl) rfl ?_
        exact RL.nil (N.meet (.cons rfl (.cons rfl (.cons rfl (.cons rfl (.cons rfl (.cons rfl (.cons rfl (.cons rfl .nil)))))))) (.cons rfl (.cons rfl (.cons rfl (.cons rfl (.cons rfl (.cons rfl (.cons rfl .nil))))))))
      refine RL.q (Yld.assign rfl) rfl ?_
      refine RL.nil ?_
      refine N.next ?_
      refine W.keep (.cons (k := 4) rfl .nil) (.cons (k := 0) rfl (.cons (k := 1) rfl (.cons (k := 102) rfl (.cons (k := 103) rfl (.cons (k := 130) rfl (.cons (k := 135) rfl (.cons (k := 136) rfl .nil))))))) ?_
      refine W.ret ?_
      exact N.retBy [1] (.cons (.tmp rfl) .nil) rfl rfl rfl rfl ⟨by show Value.bool _ = _; rw [Value.bool.injEq]; simp [hr0], rfl⟩

end Go.Proofs.YtiedcjebkkdneaaDoor
