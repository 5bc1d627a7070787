/- ConfigGrows, ConfigQuorums. Written by program (walk2.py). -/
import Derived.Test.YtiedcjebkkdneaaDoorC7
namespace Go.Proofs.YtiedcjebkkdneaaDoor
open SL Cfg
set_option linter.unusedVariables false
set_option linter.unusedSimpArgs false
theorem ent8 : Ent Tryd.prog 8 := ⟨_, _, Tryd.func8, by kernel_rfl, rfl⟩
theorem ent9 : Ent Tryd.prog 9 := ⟨_, _, Tryd.func9, by kernel_rfl, rfl⟩
theorem ent10 : Ent Tryd.prog 10 := ⟨_, _, Tryd.func10, by kernel_rfl, rfl⟩
theorem ent15 : Ent Tryd.prog 15 := ⟨_, _, Tryd.func15, by kernel_rfl, rfl⟩
theorem ent18 : Ent Tryd.prog 18 := ⟨_, _, Tryd.func18, by kernel_rfl, rfl⟩
theorem ent19 : Ent Tryd.prog 19 := ⟨_, _, Tryd.func19, by kernel_rfl, rfl⟩
set_option maxRecDepth 100000 in
set_option maxHeartbeats 3200000 in
theorem grows_ct (x : Cf) (H1 : PH) (hx : x.In H1) (hT : TabH H1) (l : List Int) (p : Option Addr) (c : Nat) (hl : Sl H1 p c 1 (iz l)) (m : List Int) (q : Option Addr) (d : Nat) (hm : Sl H1 q d 1 (iz m)) : Ct Tryd.prog 3 [.agg [.slice x.po x.o.length x.co, .slice x.pn x.n.length x.cn, .slice x.pl x.l.length x.cl].toArray, .slice p l.length c, .slice q m.length d] [H1] (fun v Hs => v = .bool true ∧ Hs = [H1]) := by
  refine Ct.body Tryd.func3 rfl Tryd.ntmps3 rfl ?_
  intro E F
  obtain ⟨ho, hn, hll⟩ := hx
  have hx : x.In H1 := ⟨ho, hn, hll⟩
  have hmxl := hl.len_le
  simp only [iz_len, maxLen] at hmxl
  have hmxm := hm.len_le
  simp only [iz_len, maxLen] at hmxm
  refine W.seq ?_
  refine W.region ?_
  refine RL.e (Eff.box 103 _ rfl rfl) rfl ?_
  rintro _ _ ⟨b3, rfl, rfl⟩
  refine RL.q (Yld.assign rfl) rfl ?_
  refine RL.nil ?_
  refine N.next ?_
  refine W.seq ?_
  refine W.seq ?_
  refine W.region ?_
  refine RL.e (Eff.call ent8 [1] [1] .nil (awake_ct H1 hT) rfl rfl rfl rfl (by rintro _ _ ⟨_, rfl⟩; rfl)) rfl ?_
  rintro _ _ ⟨_, ⟨rfl, rfl⟩, rfl⟩
  refine RL.q (by first | exact Yld.notD rfl | exact Yld.not rfl) rfl ?_
  refine RL.nil ?_
  refine N.next ?_
  first | (refine W.as (t := 13) rfl (boolF (by first | assumption | omega | (simp; done))) ?_; refine W.condF rfl ?_) | refine W.condF rfl ?_
  refine W.skip ?_
  refine N.next ?_
  refine W.keep (.cons (k := 1) rfl (.cons (k := 2) rfl (.cons (k := 3) rfl .nil))) (.cons (k := 0) rfl (.cons (k := 1) rfl (.cons (k := 103) rfl .nil))) ?_
  refine W.seq ?_
  refine W.seq ?_
  refine W.region ?_
  refine RL.q (Yld.loadW (c := 103) Tryd.underlying24 rfl sz24 rfl rfl (by first | exact single_self _ _ | exact pset_self _ _ _ | assumption) rfl) rfl ?_
  refine RL.e (Eff.call ent9 [1] [1] (.cons rfl (.cons rfl .nil)) (cfew_ct x H1 hx 8) rfl rfl rfl rfl (by rintro _ _ ⟨_, rfl⟩; rfl)) rfl ?_
  rintro _ _ ⟨_, ⟨rfl, rfl⟩, rfl⟩
  refine RL.q (by first | exact Yld.notD rfl | exact Yld.not rfl) rfl ?_
  refine RL.q (Yld.move rfl) rfl ?_
  refine' RL.or (t := 17) (d := 21) 4 rfl (.cons (k := 1) rfl (.cons (k := 2) rfl (.cons (k := 3) rfl (.cons (k := 14) rfl (.cons (k := 15) rfl (.cons (k := 16) rfl .nil)))))) (.cons (k := 0) rfl (.cons (k := 1) rfl (.cons (k := 103) rfl .nil))) ?_ ?_ ?_
  rotate_left 1
  ·
    intro hg17
    have hf8 : (x.o.length : Int) ≤ 8 ∧ (x.n.length : Int) ≤ 8 ∧ (x.l.length : Int) ≤ 8 := by
      have h := hg17
      simp only [Bool.or_eq_false_iff, Bool.not_eq_false', decide_eq_true_eq, decide_eq_false_iff_not, Classical.not_not] at h
      exact h
    refine RL.gq rfl rfl (Yld.loadW (c := 103) Tryd.underlying24 rfl sz24 rfl rfl (by first | exact single_self _ _ | exact pset_self _ _ _ | assumption) rfl) rfl ?_
    refine RL.ge rfl rfl (Eff.call ent10 [1] [1] (.cons rfl .nil) (plain_ct x H1 hx (by omega) (by omega) (by omega)) rfl rfl rfl rfl (by rintro _ _ ⟨_, rfl⟩; rfl)) rfl ?_
    rintro _ _ ⟨_, ⟨rfl, rfl⟩, rfl⟩
    refine RL.gq rfl rfl (by first | exact Yld.notD rfl | exact Yld.not rfl) rfl ?_
    refine RL.q (by first | exact Yld.pickT rfl rfl | exact Yld.pickF rfl rfl) rfl ?_
    exact RL.nil (N.meet (.cons rfl (.cons rfl (.cons rfl (.cons rfl (.cons rfl (.cons rfl (.cons rfl .nil))))))) (.cons rfl (.cons rfl (.cons rfl .nil))))
  ·
    intro hg17
    refine RL.gskip rfl rfl rfl rfl ?_
    refine RL.gskip rfl rfl rfl rfl ?_
    refine RL.gskip rfl rfl rfl rfl ?_
    refine RL.q (by first | exact Yld.pickT rfl rfl | exact Yld.pickF rfl rfl) rfl ?_
    exact RL.nil (N.meet (.cons rfl (.cons rfl (.cons rfl (.cons rfl (.cons rfl (.cons rfl (.cons rfl .nil))))))) (.cons rfl (.cons rfl (.cons rfl .nil))))
  refine RL.q (Yld.move rfl) rfl ?_
  refine' RL.or (t := 22) (d := 26) 4 rfl (.cons (k := 1) rfl (.cons (k := 2) rfl (.cons (k := 3) rfl (.cons (k := 14) rfl (.cons (k := 15) rfl (.cons (k := 16) rfl (.cons (k := 21) rfl .nil))))))) (.cons (k := 0) rfl (.cons (k := 1) rfl (.cons (k := 103) rfl .nil))) ?_ ?_ ?_
  rotate_left 1
  ·
    intro hg22
    refine RL.gq rfl rfl (Yld.move rfl) rfl ?_
    refine RL.gq rfl rfl (Yld.lenSl Tryd.underlying22 rfl) rfl ?_
    refine RL.gq rfl rfl (Yld.bin rfl rfl BinV.gtr) rfl ?_
    refine RL.q (by first | exact Yld.pickT rfl rfl | exact Yld.pickF rfl rfl) rfl ?_
    exact RL.nil (N.meet (.cons rfl (.cons rfl (.cons rfl (.cons rfl (.cons rfl (.cons rfl (.cons rfl (.cons rfl .nil)))))))) (.cons rfl (.cons rfl (.cons rfl .nil))))
  ·
    intro hg22
    refine RL.gskip rfl rfl rfl rfl ?_
    refine RL.gskip rfl rfl rfl rfl ?_
    refine RL.gskip rfl rfl rfl rfl ?_
    refine RL.q (by first | exact Yld.pickT rfl rfl | exact Yld.pickF rfl rfl) rfl ?_
    exact RL.nil (N.meet (.cons rfl (.cons rfl (.cons rfl (.cons rfl (.cons rfl (.cons rfl (.cons rfl (.cons rfl .nil)))))))) (.cons rfl (.cons rfl (.cons rfl .nil))))
  refine RL.q (Yld.move rfl) rfl ?_
  refine' RL.or (t := 27) (d := 31) 4 rfl (.cons (k := 1) rfl (.cons (k := 2) rfl (.cons (k := 3) rfl (.cons (k := 14) rfl (.cons (k := 15) rfl (.cons (k := 16) rfl (.cons (k := 21) rfl (.cons (k := 26) rfl .nil)))))))) (.cons (k := 0) rfl (.cons (k := 1) rfl (.cons (k := 103) rfl .nil))) ?_ ?_ ?_
  rotate_left 1
  ·
    intro hg27
    refine RL.gq rfl rfl (Yld.move rfl) rfl ?_
    refine RL.gq rfl rfl (Yld.lenSl Tryd.underlying22 rfl) rfl ?_
    refine RL.gq rfl rfl (Yld.bin rfl rfl BinV.gtr) rfl ?_
    refine RL.q (by first | exact Yld.pickT rfl rfl | exact Yld.pickF rfl rfl) rfl ?_
    exact RL.nil (N.meet (.cons rfl (.cons rfl (.cons rfl (.cons rfl (.cons rfl (.cons rfl (.cons rfl (.cons rfl (.cons rfl .nil))))))))) (.cons rfl (.cons rfl (.cons rfl .nil))))
  ·
    intro hg27
    refine RL.gskip rfl rfl rfl rfl ?_
    refine RL.gskip rfl rfl rfl rfl ?_
    refine RL.gskip rfl rfl rfl rfl ?_
    refine RL.q (by first | exact Yld.pickT rfl rfl | exact Yld.pickF rfl rfl) rfl ?_
    exact RL.nil (N.meet (.cons rfl (.cons rfl (.cons rfl (.cons rfl (.cons rfl (.cons rfl (.cons rfl (.cons rfl (.cons rfl .nil))))))))) (.cons rfl (.cons rfl (.cons rfl .nil))))
  refine RL.nil ?_
  refine N.next ?_
  refine W.keep (.cons (k := 1) rfl (.cons (k := 2) rfl (.cons (k := 3) rfl (.cons (k := 31) rfl .nil)))) (.cons (k := 0) rfl (.cons (k := 1) rfl (.cons (k := 103) rfl .nil))) ?_
  refine W.cond rfl (fun hc31 => ?_) (fun hc31 => ?_)
  ·
    refine W.seq ?_
    refine W.region ?_
    refine RL.q (Yld.assign rfl) rfl ?_
    refine RL.nil ?_
    refine N.next ?_
    refine W.keep (.cons (k := 6) rfl .nil) (.cons (k := 0) rfl (.cons (k := 1) rfl (.cons (k := 103) rfl .nil))) ?_
    refine W.ret ?_
    refine N.then_ret ?_
    exact N.retBy [1] (.cons (.tmp rfl) .nil) rfl rfl rfl rfl ⟨rfl, rfl⟩
  ·
    simp only [Bool.or_eq_false_iff, Bool.not_eq_false', decide_eq_true_eq, decide_eq_false_iff_not, Classical.not_not] at hc31
    have hf8 := hc31.1.1.1
    have hpl := hc31.1.1.2
    refine W.skip ?_
    refine N.next ?_
    refine W.seq ?_
    refine W.region ?_
    refine RL.e (Eff.buildSlice 132 Tryd.underlying22 sz3 zc3 rfl rfl .nil rfl) rfl ?_
    rintro _ _ ⟨b32, rfl, rfl⟩
    refine RL.q (Yld.move rfl) rfl ?_
    refine RL.e (Eff.appendE (tc := 132) (sc := 1) (fun z : Int => [Value.int .i64 z]) Tryd.underlying22 el3 rfl rfl rfl rfl (iz_none rfl) rfl hl rfl (iz_one1 _) (by decide) (by first | (simp; done) | (simp; omega)) (by first | (simp [maxLen]; done) | (simp [maxLen]; omega))) rfl ?_
    rintro _ _ ⟨Ha, pa, ca, rfl, hOa, rfl⟩
    refine RL.q (Yld.move rfl) rfl ?_
    refine RL.e (Eff.appendE (tc := 132) (sc := 1) (fun z : Int => [Value.int .i64 z]) Tryd.underlying22 el3 rfl rfl rfl rfl hOa rfl hm rfl (iz_one1 _) (by decide) (by first | (simp; done) | (simp; omega)) (by first | (simp [maxLen]; done) | (simp [maxLen]; omega))) rfl ?_
    rintro _ _ ⟨Hb, pb, cb, rfl, hOb, rfl⟩
    refine RL.q (Yld.assign rfl) rfl ?_
    refine RL.nil ?_
    refine N.next ?_
    refine W.keep (.cons (k := 1) rfl (.cons (k := 2) rfl (.cons (k := 3) rfl (.cons (k := 7) rfl .nil)))) (.cons (k := 0) rfl (.cons (k := 1) rfl (.cons (k := 103) rfl (.cons (k := 132) rfl .nil)))) ?_
    refine W.seq ?_
    refine W.seq ?_
    refine W.region ?_
    refine RL.q (Yld.loadW (c := 103) Tryd.underlying24 rfl sz24 rfl rfl (by first | exact single_self _ _ | exact pset_self _ _ _ | assumption) rfl) rfl ?_
    refine RL.q (Yld.move rfl) rfl ?_
    refine RL.e (Eff.call ent11 [1] [1] (.cons rfl (.cons rfl .nil)) (cquorumS_ct x H1 hx l _ _ hl (by omega) (by omega)) rfl rfl rfl rfl (by rintro _ _ ⟨_, rfl⟩; rfl)) rfl ?_
    rintro _ _ ⟨_, ⟨rfl, rfl⟩, rfl⟩
    refine RL.q (Yld.move rfl) rfl ?_
    refine' RL.and (t := 40) (d := 45) 5 rfl (.cons (k := 1) rfl (.cons (k := 2) rfl (.cons (k := 3) rfl (.cons (k := 7) rfl (.cons (k := 37) rfl (.cons (k := 38) rfl (.cons (k := 39) rfl .nil))))))) (.cons (k := 0) rfl (.cons (k := 1) rfl (.cons (k := 103) rfl (.cons (k := 132) rfl .nil)))) ?_ ?_ ?_
    rotate_left 1
    ·
      intro hg40
      refine RL.gq rfl rfl (Yld.loadW (c := 103) Tryd.underlying24 rfl sz24 rfl rfl (by first | exact single_self _ _ | exact pset_self _ _ _ | assumption) rfl) rfl ?_
      refine RL.gq rfl rfl (Yld.move rfl) rfl ?_
      refine RL.ge rfl rfl (Eff.call ent11 [1, 132] [1, 132] (.cons rfl (.cons rfl .nil)) (cquorum_ct x H1 hx (l ++ m) _ _ _ hOb.sl (by omega) (by omega)) rfl rfl rfl rfl (by rintro _ _ ⟨_, rfl⟩; rfl)) rfl ?_
      rintro _ _ ⟨_, ⟨rfl, rfl⟩, rfl⟩
      refine RL.gq rfl rfl (by first | exact Yld.notD rfl | exact Yld.not rfl) rfl ?_
      refine RL.q (by first | exact Yld.pickT rfl rfl | exact Yld.pickF rfl rfl) rfl ?_
      exact RL.nil (N.meet (.cons rfl (.cons rfl (.cons rfl (.cons rfl (.cons rfl (.cons rfl (.cons rfl (.cons rfl .nil)))))))) (.cons rfl (.cons rfl (.cons rfl (.cons rfl .nil)))))
    ·
      intro hg40
      refine RL.gskip rfl rfl rfl rfl ?_
      refine RL.gskip rfl rfl rfl rfl ?_
      refine RL.gskip rfl rfl rfl rfl ?_
      refine RL.gskip rfl rfl rfl rfl ?_
      refine RL.q (by first | exact Yld.pickT rfl rfl | exact Yld.pickF rfl rfl) rfl ?_
      exact RL.nil (N.meet (.cons rfl (.cons rfl (.cons rfl (.cons rfl (.cons rfl (.cons rfl (.cons rfl (.cons rfl .nil)))))))) (.cons rfl (.cons rfl (.cons rfl (.cons rfl .nil)))))
    refine RL.q (Yld.move rfl) rfl ?_
    refine' RL.or (t := 46) (d := 49) 3 rfl (.cons (k := 1) rfl (.cons (k := 2) rfl (.cons (k := 3) rfl (.cons (k := 7) rfl (.cons (k := 37) rfl (.cons (k := 38) rfl (.cons (k := 39) rfl (.cons (k := 45) rfl .nil)))))))) (.cons (k := 0) rfl (.cons (k := 1) rfl (.cons (k := 103) rfl (.cons (k := 132) rfl .nil)))) ?_ ?_ ?_
    rotate_left 1
    ·
      intro hg46
      refine RL.gq rfl rfl (Yld.loadW (c := 103) Tryd.underlying24 rfl sz24 rfl rfl (by first | exact single_self _ _ | exact pset_self _ _ _ | assumption) rfl) rfl ?_
      refine RL.ge rfl rfl (Eff.call ent11 [1] [1] (.cons rfl (.cons rfl .nil)) (cquorumS_ct x H1 hx [] _ _ ⟨rfl, rfl⟩ (by omega) (by omega)) rfl rfl rfl rfl (by rintro _ _ ⟨_, rfl⟩; rfl)) rfl ?_
      rintro _ _ ⟨_, ⟨rfl, rfl⟩, rfl⟩
      refine RL.q (by first | exact Yld.pickT rfl rfl | exact Yld.pickF rfl rfl) rfl ?_
      exact RL.nil (N.meet (.cons rfl (.cons rfl (.cons rfl (.cons rfl (.cons rfl (.cons rfl (.cons rfl (.cons rfl (.cons rfl .nil))))))))) (.cons rfl (.cons rfl (.cons rfl (.cons rfl .nil)))))
    ·
      intro hg46
      refine RL.gskip rfl rfl rfl rfl ?_
      refine RL.gskip rfl rfl rfl rfl ?_
      refine RL.q (by first | exact Yld.pickT rfl rfl | exact Yld.pickF rfl rfl) rfl ?_
      exact RL.nil (N.meet (.cons rfl (.cons rfl (.cons rfl (.cons rfl (.cons rfl (.cons rfl (.cons rfl (.cons rfl (.cons rfl .nil))))))))) (.cons rfl (.cons rfl (.cons rfl (.cons rfl .nil)))))
    refine RL.nil ?_
    refine N.next ?_
    refine W.keep (.cons (k := 1) rfl (.cons (k := 2) rfl (.cons (k := 3) rfl (.cons (k := 49) rfl .nil)))) (.cons (k := 0) rfl (.cons (k := 1) rfl (.cons (k := 103) rfl (.cons (k := 132) rfl .nil)))) ?_
    refine W.cond rfl (fun hc49 => ?_) (fun hc49 => ?_)
    ·
      exfalso
      rw [quor_nil] at hc49
      simp only [Bool.or_false, Bool.and_eq_true, Bool.not_eq_true'] at hc49
      have := quor_mono (o := x.o) (n := x.n) (r := l) (s := l ++ m) (fun z hz => List.mem_append.2 (.inl hz)) hc49.1
      rw [this] at hc49; exact absurd hc49.2 (by decide) --stop
    ·
      refine W.skip ?_
      refine N.next ?_
      refine W.seq ?_
      refine W.region ?_
      refine RL.q (Yld.loadW (c := 103) Tryd.underlying24 rfl sz24 rfl rfl (by first | exact single_self _ _ | exact pset_self _ _ _ | assumption) rfl) rfl ?_
      refine RL.e (Eff.call ent12 [1] [1, 130] (.cons rfl .nil) (cvoters_ct x H1 hx (by simp; omega)) rfl rfl rfl rfl (by rintro _ _ ⟨_, _, _, _, _, rfl⟩; rfl)) rfl ?_
      rintro _ _ ⟨_, ⟨Hv, pv, cv, rfl, hOv, rfl⟩, rfl⟩
      have hVl := setL_len (x.o ++ x.n)
      rw [List.length_append] at hVl
      have hV1 : ∀ z ∈ setL (x.o ++ x.n), 1 ≤ z := fun z hz => setL_pos hz
      obtain ⟨V, hV⟩ : ∃ V, setL (x.o ++ x.n) = V := ⟨_, rfl⟩
      rw [hV] at hOv hVl hV1 ⊢
      have hcv := hOv.sl.len_le
      simp only [iz_len, maxLen] at hcv
      refine RL.q (Yld.assign rfl) rfl ?_
      refine RL.nil ?_
      refine N.next ?_
      refine W.seq ?_
      refine W.region ?_
      refine RL.e (Eff.buildSlice 152 Tryd.underlying22 sz3 zc3 rfl rfl .nil rfl) rfl ?_
      rintro _ _ ⟨b52, rfl, rfl⟩
      refine RL.q (Yld.assign rfl) rfl ?_
      refine RL.nil ?_
      refine N.next ?_
      refine W.keep (.cons (k := 1) rfl (.cons (k := 2) rfl (.cons (k := 3) rfl (.cons (k := 8) rfl (.cons (k := 9) rfl .nil))))) (.cons (k := 0) rfl (.cons (k := 1) rfl (.cons (k := 103) rfl (.cons (k := 130) rfl (.cons (k := 132) rfl (.cons (k := 152) rfl .nil)))))) ?_
      refine W.seq ?_
      refine W.seq ?_
      refine W.region ?_
      refine RL.q (Yld.move rfl) rfl ?_
      refine RL.q (Yld.lenSl Tryd.underlying22 rfl) rfl ?_
      refine RL.q (Yld.move rfl) rfl ?_
      refine RL.nil ?_
      refine N.next ?_
      refine W.block ?_
      refine W.loopK (ι := SI) (fun y => (y.i ≤ m.length ∧ Own y.H y.p y.c 3 1 (iz y.s) ∧ y.s = (m.take y.i).filter (fun z => (decide (¬ z ∈ V) && decide (¬ z ∈ x.o)) && decide (¬ z ∈ x.n)))) (fun y => [(9, .slice y.p y.s.length y.c), (55, .int .i64 (y.i : Nat))]) (fun y => [(152, y.H)]) (fun y => m.length - y.i) (.cons (k := 1) rfl (.cons (k := 3) rfl (.cons (k := 8) rfl (.cons (k := 53) rfl (.cons (k := 54) rfl .nil))))) (.cons (k := 0) rfl (.cons (k := 1) rfl (.cons (k := 103) rfl (.cons (k := 130) rfl (.cons (k := 132) rfl .nil))))) ⟨0, single b52 (.cells [].toArray 3 (0, 0)), some ⟨b52, 0, none⟩, 0, []⟩ ?_ ?_ ?_ ?_
      · exact ⟨Nat.zero_le _, iz_none rfl, rfl⟩
      · exact (.as rfl (by first | rfl | (simp; done) | (congr 1; simp; done) | (congr 1; omega)) (.as rfl (by first | rfl | (simp; done) | (congr 1; simp; done) | (congr 1; omega)) .nil))
      · exact (.cons rfl .nil)
      rintro y ⟨hi, hO, hs⟩
      refine W.keep (.cons (k := 9) rfl (.cons (k := 55) rfl (.cons (k := 1) rfl (.cons (k := 3) rfl (.cons (k := 8) rfl (.cons (k := 53) rfl (.cons (k := 54) rfl .nil))))))) (.cons (k := 152) rfl (.cons (k := 0) rfl (.cons (k := 1) rfl (.cons (k := 103) rfl (.cons (k := 130) rfl (.cons (k := 132) rfl .nil)))))) ?_
      refine W.seq ?_
      refine W.region ?_
      refine RL.q (Yld.bin rfl rfl BinV.lss) rfl ?_
      refine RL.nil ?_
      refine N.next ?_
      refine W.seq ?_
      first | refine W.condD rfl (fun hc56 => ?_) (fun hc56 => ?_) | (refine W.cond rfl (fun hc56 => ?_) (fun hc56 => ?_) <;> try simp only [Bool.or_eq_true, Bool.and_eq_true, Bool.not_eq_true', Bool.not_eq_false', decide_eq_true_eq, Bool.or_eq_false_iff, Bool.and_eq_false_iff, decide_eq_false_iff_not, beq_iff_eq, beq_eq_false_iff_ne, ne_eq, Decidable.not_not] at hc56)
      ·
        obtain ⟨z, hz, hlz⟩ := iz_at (show y.i < m.length by omega)
        have hsl : y.s.length ≤ y.i := by rw [hs]; exact Nat.le_trans (List.length_filter_le _ _) (by rw [List.length_take]; omega)
        refine W.skip ?_
        refine N.next ?_
        refine W.seq ?_
        refine W.block ?_
        refine W.seq ?_
        refine W.region ?_
        refine RL.q (Yld.indexRow Tryd.underlying22 sz3 rfl rfl (by first | assumption | exact Own.sl (by assumption)) (by first | rfl | omega | (simp; done) | (simp; omega)) (by omega) (by first | omega | (simp; done) | (simp; omega))) rfl ?_
        refine RL.q (by first | exact (by first | exact Yld.loadRow1 (cl := 1) Tryd.underlying3 rfl rfl rfl (by first | assumption | exact Own.sl (by assumption)) (by assumption) | exact Yld.loadRow1 (cl := 103) Tryd.underlying3 rfl rfl rfl (by first | assumption | exact Own.sl (by assumption)) (by assumption) | exact Yld.loadRow1 (cl := 130) Tryd.underlying3 rfl rfl rfl (by first | assumption | exact Own.sl (by assumption)) (by assumption) | exact Yld.loadRow1 (cl := 132) Tryd.underlying3 rfl rfl rfl (by first | assumption | exact Own.sl (by assumption)) (by assumption) | exact Yld.loadRow1 (cl := 152) Tryd.underlying3 rfl rfl rfl (by first | assumption | exact Own.sl (by assumption)) (by assumption)) | exact (by first | exact Yld.loadRowF (cl := 1) (j := 0) Tryd.underlying3 rfl rfl rfl (by first | assumption | exact Own.sl (by assumption)) (by assumption) rfl | exact Yld.loadRowF (cl := 103) (j := 0) Tryd.underlying3 rfl rfl rfl (by first | assumption | exact Own.sl (by assumption)) (by assumption) rfl | exact Yld.loadRowF (cl := 130) (j := 0) Tryd.underlying3 rfl rfl rfl (by first | assumption | exact Own.sl (by assumption)) (by assumption) rfl | exact Yld.loadRowF (cl := 132) (j := 0) Tryd.underlying3 rfl rfl rfl (by first | assumption | exact Own.sl (by assumption)) (by assumption) rfl | exact Yld.loadRowF (cl := 152) (j := 0) Tryd.underlying3 rfl rfl rfl (by first | assumption | exact Own.sl (by assumption)) (by assumption) rfl)) rfl ?_
        refine RL.q (Yld.assign rfl) rfl ?_
        refine RL.nil ?_
        refine N.next ?_
        refine W.seq ?_
        refine W.region ?_
        refine RL.q (Yld.move rfl) rfl ?_
        refine RL.q (Yld.move rfl) rfl ?_
        refine RL.e (Eff.call ent13 [130] [130] (.cons rfl (.cons rfl .nil)) (has_ct V _ _ _ hOv.sl z) rfl rfl rfl rfl (by rintro _ _ ⟨_, rfl⟩; rfl)) rfl ?_
        rintro _ _ ⟨_, ⟨rfl, rfl⟩, rfl⟩
        refine RL.q (by first | exact Yld.notD rfl | exact Yld.not rfl) rfl ?_
        refine RL.q (Yld.move rfl) rfl ?_
        refine' RL.and (t := 63) (d := 69) 6 rfl (.cons (k := 1) rfl (.cons (k := 3) rfl (.cons (k := 8) rfl (.cons (k := 9) rfl (.cons (k := 11) rfl (.cons (k := 53) rfl (.cons (k := 54) rfl (.cons (k := 55) rfl (.cons (k := 56) rfl (.cons (k := 57) rfl (.cons (k := 58) rfl (.cons (k := 59) rfl (.cons (k := 60) rfl (.cons (k := 61) rfl (.cons (k := 62) rfl .nil))))))))))))))) (.cons (k := 0) rfl (.cons (k := 1) rfl (.cons (k := 103) rfl (.cons (k := 130) rfl (.cons (k := 132) rfl (.cons (k := 152) rfl .nil)))))) ?_ ?_ ?_
        rotate_left 1
        ·
          intro hg63
          refine RL.gq rfl rfl (Yld.fieldAddr fo24_0 rfl) rfl ?_
          refine RL.gq rfl rfl (Yld.load1 (c := 103) Tryd.underlying22 rfl rfl rfl (by first | exact single_self _ _ | exact pset_self _ _ _ | assumption) rfl) rfl ?_
          refine RL.gq rfl rfl (Yld.move rfl) rfl ?_
          refine RL.ge rfl rfl (Eff.call ent13 [1] [1] (.cons rfl (.cons rfl .nil)) (has_ct x.o _ _ _ ho z) rfl rfl rfl rfl (by rintro _ _ ⟨_, rfl⟩; rfl)) rfl ?_
          rintro _ _ ⟨_, ⟨rfl, rfl⟩, rfl⟩
          refine RL.gq rfl rfl (by first | exact Yld.notD rfl | exact Yld.not rfl) rfl ?_
          refine RL.q (by first | exact Yld.pickT rfl rfl | exact Yld.pickF rfl rfl) rfl ?_
          exact RL.nil (N.meet (.cons rfl (.cons rfl (.cons rfl (.cons rfl (.cons rfl (.cons rfl (.cons rfl (.cons rfl (.cons rfl (.cons rfl (.cons rfl (.cons rfl (.cons rfl (.cons rfl (.cons rfl (.cons rfl .nil)))))))))))))))) (.cons rfl (.cons rfl (.cons rfl (.cons rfl (.cons rfl (.cons rfl .nil)))))))
        ·
          intro hg63
          refine RL.gskip rfl rfl rfl rfl ?_
          refine RL.gskip rfl rfl rfl rfl ?_
          refine RL.gskip rfl rfl rfl rfl ?_
          refine RL.gskip rfl rfl rfl rfl ?_
          refine RL.gskip rfl rfl rfl rfl ?_
          refine RL.q (by first | exact Yld.pickT rfl rfl | exact Yld.pickF rfl rfl) rfl ?_
          exact RL.nil (N.meet (.cons rfl (.cons rfl (.cons rfl (.cons rfl (.cons rfl (.cons rfl (.cons rfl (.cons rfl (.cons rfl (.cons rfl (.cons rfl (.cons rfl (.cons rfl (.cons rfl (.cons rfl (.cons rfl .nil)))))))))))))))) (.cons rfl (.cons rfl (.cons rfl (.cons rfl (.cons rfl (.cons rfl .nil)))))))
        refine RL.q (Yld.move rfl) rfl ?_
        refine' RL.and (t := 70) (d := 76) 6 rfl (.cons (k := 1) rfl (.cons (k := 3) rfl (.cons (k := 8) rfl (.cons (k := 9) rfl (.cons (k := 11) rfl (.cons (k := 53) rfl (.cons (k := 54) rfl (.cons (k := 55) rfl (.cons (k := 56) rfl (.cons (k := 57) rfl (.cons (k := 58) rfl (.cons (k := 59) rfl (.cons (k := 60) rfl (.cons (k := 61) rfl (.cons (k := 62) rfl (.cons (k := 69) rfl .nil)))))))))))))))) (.cons (k := 0) rfl (.cons (k := 1) rfl (.cons (k := 103) rfl (.cons (k := 130) rfl (.cons (k := 132) rfl (.cons (k := 152) rfl .nil)))))) ?_ ?_ ?_
        rotate_left 1
        ·
          intro hg70
          refine RL.gq rfl rfl (Yld.fieldAddr fo24_1 rfl) rfl ?_
          refine RL.gq rfl rfl (Yld.load1 (c := 103) Tryd.underlying22 rfl rfl rfl (by first | exact single_self _ _ | exact pset_self _ _ _ | assumption) rfl) rfl ?_
          refine RL.gq rfl rfl (Yld.move rfl) rfl ?_
          refine RL.ge rfl rfl (Eff.call ent13 [1] [1] (.cons rfl (.cons rfl .nil)) (has_ct x.n _ _ _ hn z) rfl rfl rfl rfl (by rintro _ _ ⟨_, rfl⟩; rfl)) rfl ?_
          rintro _ _ ⟨_, ⟨rfl, rfl⟩, rfl⟩
          refine RL.gq rfl rfl (by first | exact Yld.notD rfl | exact Yld.not rfl) rfl ?_
          refine RL.q (by first | exact Yld.pickT rfl rfl | exact Yld.pickF rfl rfl) rfl ?_
          exact RL.nil (N.meet (.cons rfl (.cons rfl (.cons rfl (.cons rfl (.cons rfl (.cons rfl (.cons rfl (.cons rfl (.cons rfl (.cons rfl (.cons rfl (.cons rfl (.cons rfl (.cons rfl (.cons rfl (.cons rfl (.cons rfl .nil))))))))))))))))) (.cons rfl (.cons rfl (.cons rfl (.cons rfl (.cons rfl (.cons rfl .nil)))))))
        ·
          intro hg70
          refine RL.gskip rfl rfl rfl rfl ?_
          refine RL.gskip rfl rfl rfl rfl ?_
          refine RL.gskip rfl rfl rfl rfl ?_
          refine RL.gskip rfl rfl rfl rfl ?_
          refine RL.gskip rfl rfl rfl rfl ?_
          refine RL.q (by first | exact Yld.pickT rfl rfl | exact Yld.pickF rfl rfl) rfl ?_
          exact RL.nil (N.meet (.cons rfl (.cons rfl (.cons rfl (.cons rfl (.cons rfl (.cons rfl (.cons rfl (.cons rfl (.cons rfl (.cons rfl (.cons rfl (.cons rfl (.cons rfl (.cons rfl (.cons rfl (.cons rfl (.cons rfl .nil))))))))))))))))) (.cons rfl (.cons rfl (.cons rfl (.cons rfl (.cons rfl (.cons rfl .nil)))))))
        refine RL.nil ?_
        refine N.next ?_
        refine W.keep (.cons (k := 1) rfl (.cons (k := 3) rfl (.cons (k := 8) rfl (.cons (k := 9) rfl (.cons (k := 11) rfl (.cons (k := 53) rfl (.cons (k := 54) rfl (.cons (k := 55) rfl (.cons (k := 76) rfl .nil))))))))) (.cons (k := 0) rfl (.cons (k := 1) rfl (.cons (k := 103) rfl (.cons (k := 130) rfl (.cons (k := 132) rfl (.cons (k := 152) rfl .nil)))))) ?_
        refine W.cond rfl (fun hc76 => ?_) (fun hc76 => ?_)
        ·
          refine W.region ?_
          refine RL.q (Yld.move rfl) rfl ?_
          refine RL.q (Yld.move rfl) rfl ?_
          refine RL.e (Eff.buildSlice 179 Tryd.underlying22 sz3 zc3 rfl rfl (.cons rfl rfl .nil) rfl) rfl ?_
          rintro _ _ ⟨b79, rfl, rfl⟩
          refine RL.e (Eff.appendE (tc := 152) (sc := 179) (fun z : Int => [Value.int .i64 z]) Tryd.underlying22 el3 rfl rfl rfl rfl hO rfl (iz_single rfl) rfl (iz_one1 _) (by decide) (by first | (simp; done) | (simp; omega)) (by first | (simp [maxLen]; done) | (simp [maxLen]; omega))) rfl ?_
          rintro _ _ ⟨Ha, pa, ca, rfl, hOa, rfl⟩
          refine RL.q (Yld.assign rfl) rfl ?_
          refine RL.nil ?_
          refine N.block_normal ?_
          refine N.next ?_
          refine W.keep (.cons (k := 1) rfl (.cons (k := 3) rfl (.cons (k := 8) rfl (.cons (k := 9) rfl (.cons (k := 53) rfl (.cons (k := 54) rfl (.cons (k := 55) rfl .nil))))))) (.cons (k := 0) rfl (.cons (k := 1) rfl (.cons (k := 103) rfl (.cons (k := 130) rfl (.cons (k := 132) rfl (.cons (k := 152) rfl (.cons (k := 179) rfl .nil))))))) ?_
          refine W.region ?_
          refine RL.q (Yld.bin rfl rfl (by first | exact BinV.add (by omega) (by omega) | exact BinV.addW)) rfl ?_
          refine RL.q (Yld.move rfl) rfl ?_
          refine RL.nil ?_
          exact N.famK ⟨y.i + 1, Ha, pa, ca, y.s ++ [z]⟩ ⟨⟨by dsimp only; omega, hOa, by dsimp only; rw [filter_take hz, if_pos hc76, hs]⟩, by dsimp only; omega⟩ (.as rfl (by first | rfl | (simp; done) | (congr 1; simp; done) | (congr 1; omega)) (.as rfl (by first | rfl | (simp; done) | (congr 1; simp; done) | (congr 1; omega)) .nil)) (.cons rfl (.cons rfl (.cons rfl (.cons rfl (.cons rfl .nil))))) (.cons rfl .nil) (.cons rfl (.cons rfl (.cons rfl (.cons rfl (.cons rfl .nil)))))
        ·
          refine W.skip ?_
          refine N.block_normal ?_
          refine N.next ?_
          refine W.region ?_
          refine RL.q (Yld.bin rfl rfl (by first | exact BinV.add (by omega) (by omega) | exact BinV.addW)) rfl ?_
          refine RL.q (Yld.move rfl) rfl ?_
          refine RL.nil ?_
          exact N.famK ⟨y.i + 1, y.H, y.p, y.c, y.s⟩ ⟨⟨by dsimp only; omega, hO, by dsimp only; rw [filter_take hz, if_neg (by rw [hc76]; decide)]; exact hs⟩, by dsimp only; omega⟩ (.as rfl (by first | rfl | (simp; done) | (congr 1; simp; done) | (congr 1; omega)) (.as rfl (by first | rfl | (simp; done) | (congr 1; simp; done) | (congr 1; omega)) .nil)) (.cons rfl (.cons rfl (.cons rfl (.cons rfl (.cons rfl .nil))))) (.cons rfl .nil) (.cons rfl (.cons rfl (.cons rfl (.cons rfl (.cons rfl .nil)))))
      ·
        have hend : y.i = m.length := by omega
        have hsl : y.s.length ≤ y.i := by rw [hs]; exact Nat.le_trans (List.length_filter_le _ _) (by rw [List.length_take]; omega)
        have hqq : quor x.o x.n (l ++ l ++ y.s) = quor x.o x.n l := quor_on fun z hz => by
          rw [List.mem_append, List.mem_append]
          refine ⟨fun h => h.elim (fun h => h.elim id id) (fun h => ?_), fun h => .inl (.inl h)⟩
          rw [hs] at h
          have h2 := (List.mem_filter.1 h).2
          simp only [Bool.and_eq_true, decide_eq_true_eq] at h2
          exact hz.elim (fun h3 => absurd h3 h2.1.2) (fun h3 => absurd h3 h2.2)
        refine W.exit ?_
        refine N.then_exit ?_
        refine N.then_exit ?_
        refine N.block_eq ?_
        refine N.next ?_
        refine W.keep (.cons (k := 1) rfl (.cons (k := 3) rfl (.cons (k := 8) rfl (.cons (k := 9) rfl .nil)))) (.cons (k := 0) rfl (.cons (k := 1) rfl (.cons (k := 103) rfl (.cons (k := 130) rfl (.cons (k := 132) rfl (.cons (k := 152) rfl .nil)))))) ?_
        refine W.seq ?_
        refine W.seq ?_
        refine W.draw (.q 0 (.q 2 (.q 4 (.q 6 (.q 9 (.q 10 (.one 1 (.one 3 (.one 5 (.one 7 (.one 8 (.one 11 (.q 12 .done))))))))))))) (.cons (k := 0) rfl (.cons (k := 103) rfl (.cons (k := 130) rfl (.cons (k := 132) rfl (.cons (k := 152) rfl .nil))))) mix (by kernel_rfl) (by kernel_rfl) ?_
        refine DL.q rfl (Yld.loadW (c := 103) Tryd.underlying24 rfl sz24 rfl rfl (by first | exact single_self _ _ | exact pset_self _ _ _ | assumption) rfl) rfl ?_
        refine DL.q rfl (Yld.move rfl) rfl ?_
        refine DL.q rfl (Yld.move rfl) rfl ?_
        refine DL.q rfl (Yld.move rfl) rfl ?_
        refine DL.q rfl (Yld.loadW (c := 103) Tryd.underlying24 rfl sz24 rfl rfl (by first | exact single_self _ _ | exact pset_self _ _ _ | assumption) rfl) rfl ?_
        refine DL.q rfl (Yld.move rfl) rfl ?_
        refine DL.one rfl (Eff.buildSlice 183 Tryd.underlying22 sz3 zc3 rfl rfl .nil rfl) rfl (by rintro _ _ ⟨b83, rfl, rfl⟩; repeat (first | exact .nil | refine .cons rfl ?_)) ?_
        rintro _ _ ⟨b83, rfl, rfl⟩
        refine DL.one rfl (Eff.appendE (tc := 183) (sc := 1) (fun z : Int => [Value.int .i64 z]) Tryd.underlying22 el3 rfl rfl rfl rfl (iz_none rfl) rfl hl rfl (iz_one1 _) (by decide) (by first | (simp; done) | (simp; omega)) (by first | (simp [maxLen]; done) | (simp [maxLen]; omega))) rfl (by rintro _ _ ⟨Hc, pc, cc, rfl, hOc, rfl⟩; repeat (first | exact .nil | refine .cons rfl ?_)) ?_
        rintro _ _ ⟨Hc, pc, cc, rfl, hOc, rfl⟩
        refine DL.one rfl (Eff.appendE (tc := 183) (sc := 1) (fun z : Int => [Value.int .i64 z]) Tryd.underlying22 el3 rfl rfl rfl rfl hOc rfl hl rfl (iz_one1 _) (by decide) (by first | (simp; done) | (simp; omega)) (by first | (simp [maxLen]; done) | (simp [maxLen]; omega))) rfl (by rintro _ _ ⟨Hd, pd, cd, rfl, hOd, rfl⟩; repeat (first | exact .nil | refine .cons rfl ?_)) ?_
        rintro _ _ ⟨Hd, pd, cd, rfl, hOd, rfl⟩
        refine DL.one rfl (Eff.appendE (tc := 183) (sc := 152) (fun z : Int => [Value.int .i64 z]) Tryd.underlying22 el3 rfl rfl rfl rfl hOd rfl hO.sl rfl (iz_one1 _) (by decide) (by first | (simp; done) | (simp; omega)) (by first | (simp [maxLen]; done) | (simp [maxLen]; omega))) rfl (by rintro _ _ ⟨He, pe, ce, rfl, hOe, rfl⟩; repeat (first | exact .nil | refine .cons rfl ?_)) ?_
        rintro _ _ ⟨He, pe, ce, rfl, hOe, rfl⟩
        refine DL.one rfl (Eff.call ent11 [1, 183] [1, 183] (.cons rfl (.cons rfl .nil)) (cquorum_ct x H1 hx (l ++ l ++ y.s) _ _ _ hOe.sl (by omega) (by omega)) rfl rfl rfl rfl (by rintro _ _ ⟨_, rfl⟩; rfl)) rfl (by rintro _ _ ⟨_, ⟨rfl, rfl⟩, rfl⟩; repeat (first | exact .nil | refine .cons rfl ?_)) ?_
        rintro _ _ ⟨_, ⟨rfl, rfl⟩, rfl⟩
        refine DL.one rfl (Eff.call ent11 [1] [1] (.cons rfl (.cons rfl .nil)) (cquorumS_ct x H1 hx l _ _ hl (by omega) (by omega)) rfl rfl rfl rfl (by rintro _ _ ⟨_, rfl⟩; rfl)) rfl (by rintro _ _ ⟨_, ⟨rfl, rfl⟩, rfl⟩; repeat (first | exact .nil | refine .cons rfl ?_)) ?_
        rintro _ _ ⟨_, ⟨rfl, rfl⟩, rfl⟩
        refine DL.q rfl (Yld.bin rfl rfl (BinV.neqB Tryd.underlying4)) rfl ?_
        refine DL.done ?_
        refine N.next ?_
        refine W.keep (.cons (k := 3) rfl (.cons (k := 8) rfl (.cons (k := 94) rfl .nil))) (.cons (k := 0) rfl (.cons (k := 1) rfl (.cons (k := 103) rfl (.cons (k := 130) rfl (.cons (k := 132) rfl (.cons (k := 152) rfl (.cons (k := 183) rfl .nil))))))) ?_
        refine W.cond rfl (fun hc94 => ?_) (fun hc94 => ?_)
        ·
          exfalso
          rw [hqq] at hc94
          simp at hc94 --stop
        ·
          refine W.skip ?_
          refine N.next ?_
          refine W.seq ?_
          refine W.region ?_
          refine RL.q (Yld.loadW (c := 103) Tryd.underlying24 rfl sz24 rfl rfl (by first | exact single_self _ _ | exact pset_self _ _ _ | assumption) rfl) rfl ?_
          refine RL.e (Eff.call ent14 [1] [1] (.cons rfl .nil) (cvalid_ct x H1 hx (by omega) (by omega) (by omega)) rfl rfl rfl rfl (by rintro _ _ ⟨_, rfl⟩; rfl)) rfl ?_
          rintro _ _ ⟨_, ⟨rfl, rfl⟩, rfl⟩
          refine RL.q (by first | exact Yld.notD rfl | exact Yld.not rfl) rfl ?_
          refine RL.q (Yld.move rfl) rfl ?_
          refine' RL.or (t := 98) (d := 102) 4 rfl (.cons (k := 3) rfl (.cons (k := 8) rfl (.cons (k := 94) rfl (.cons (k := 95) rfl (.cons (k := 96) rfl (.cons (k := 97) rfl .nil)))))) (.cons (k := 0) rfl (.cons (k := 1) rfl (.cons (k := 103) rfl (.cons (k := 130) rfl (.cons (k := 132) rfl (.cons (k := 152) rfl (.cons (k := 183) rfl .nil))))))) ?_ ?_ ?_
          rotate_left 1
          ·
            intro hg98
            refine RL.gq rfl rfl (Yld.loadW (c := 103) Tryd.underlying24 rfl sz24 rfl rfl (by first | exact single_self _ _ | exact pset_self _ _ _ | assumption) rfl) rfl ?_
            refine RL.gq rfl rfl (Yld.move rfl) rfl ?_
            refine RL.ge rfl rfl (Eff.call ent11 [1, 130] [1, 130] (.cons rfl (.cons rfl .nil)) (cquorum_ct x H1 hx V _ _ _ hOv.sl (by omega) (by omega)) rfl rfl rfl rfl (by rintro _ _ ⟨_, rfl⟩; rfl)) rfl ?_
            rintro _ _ ⟨_, ⟨rfl, rfl⟩, rfl⟩
            refine RL.q (by first | exact Yld.pickT rfl rfl | exact Yld.pickF rfl rfl) rfl ?_
            exact RL.nil (N.meet (.cons rfl (.cons rfl (.cons rfl (.cons rfl (.cons rfl (.cons rfl (.cons rfl .nil))))))) (.cons rfl (.cons rfl (.cons rfl (.cons rfl (.cons rfl (.cons rfl (.cons rfl .nil))))))))
          ·
            intro hg98
            refine RL.gskip rfl rfl rfl rfl ?_
            refine RL.gskip rfl rfl rfl rfl ?_
            refine RL.gskip rfl rfl rfl rfl ?_
            refine RL.q (by first | exact Yld.pickT rfl rfl | exact Yld.pickF rfl rfl) rfl ?_
            exact RL.nil (N.meet (.cons rfl (.cons rfl (.cons rfl (.cons rfl (.cons rfl (.cons rfl (.cons rfl .nil))))))) (.cons rfl (.cons rfl (.cons rfl (.cons rfl (.cons rfl (.cons rfl (.cons rfl .nil))))))))
          refine RL.q (Yld.assign rfl) rfl ?_
          refine RL.nil ?_
          refine N.next ?_
          refine W.keep (.cons (k := 6) rfl .nil) (.cons (k := 0) rfl (.cons (k := 1) rfl (.cons (k := 103) rfl (.cons (k := 130) rfl (.cons (k := 132) rfl (.cons (k := 152) rfl (.cons (k := 183) rfl .nil))))))) ?_
          refine W.ret ?_
          exact N.retBy [1] (.cons (.tmp rfl) .nil) rfl rfl rfl rfl ⟨by show Value.bool _ = _; rw [Value.bool.injEq]; exact (Decidable.em x.Ok).elim (fun hk => by rw [← hV, quor_voters hk.1 hk.2.1 hk.2.2.2.1, Bool.or_true]) (fun hk => by simp [hk]), rfl⟩

def Cfg.qof (m : List Int) (z : Int) : Int := if z < 0 ∨ m.length = 0 then 0 else (m[(z % (m.length : Int)).toNat]?).getD 0
theorem Cfg.qof_at {m : List Int} {z : Int} (h : ¬ z < 0) (h0 : m.length ≠ 0) : ∃ k : Nat, k < m.length ∧ z % (m.length : Int) = k ∧ m[k]? = some (qof m z) := by
  have h1 := Int.emod_nonneg z (show (m.length : Int) ≠ 0 by omega)
  have h2 := Int.emod_lt_of_pos z (show (0 : Int) < m.length by omega)
  refine ⟨(z % (m.length : Int)).toNat, by omega, (Int.toNat_of_nonneg h1).symm, ?_⟩
  unfold qof
  rw [if_neg (by omega), List.getElem?_eq_getElem (show (z % (m.length : Int)).toNat < m.length by omega)]; rfl

set_option maxRecDepth 100000 in
set_option maxHeartbeats 400000 in
theorem qof_ct (b : Nat) (H1 : PH) (m : List Int) (q : Option Addr) (d : Nat) (hm : Sl H1 q d 1 (iz m)) (z : Int) : Ct Tryd.prog 15 [.int .i64 z, .pointer (some ⟨b, 0, none⟩)] [single b (.cells [.slice q m.length d].toArray 22 (0, 0)), H1] (fun v Hs => v = .int .i64 (qof m z) ∧ Hs = [single b (.cells [.slice q m.length d].toArray 22 (0, 0)), H1]) := by
  refine Ct.body Tryd.func15 rfl Tryd.ntmps15 rfl ?_
  intro E F
  have hmxm := hm.len_le
  simp only [iz_len, maxLen] at hmxm
  refine W.seq ?_
  refine W.region ?_
  refine RL.q (Yld.assign rfl) rfl ?_
  refine RL.nil ?_
  refine N.next ?_
  refine W.seq ?_
  refine W.seq ?_
  refine W.region ?_
  refine RL.q (Yld.move rfl) rfl ?_
  refine RL.q (Yld.bin rfl rfl BinV.lss) rfl ?_
  refine RL.q (Yld.move rfl) rfl ?_
  refine' RL.or (t := 6) (d := 10) 4 rfl (.cons (k := 0) rfl (.cons (k := 1) rfl (.cons (k := 3) rfl (.cons (k := 4) rfl (.cons (k := 5) rfl .nil))))) (.cons (k := 0) rfl (.cons (k := 1) rfl (.cons (k := 2) rfl .nil))) ?_ ?_ ?_
  rotate_left 1
  ·
    intro hg6
    refine RL.gq rfl rfl (Yld.load1 (c := 1) Tryd.underlying22 rfl rfl rfl (by first | exact single_self _ _ | exact pset_self _ _ _ | assumption) rfl) rfl ?_
    refine RL.gq rfl rfl (Yld.lenSl Tryd.underlying22 rfl) rfl ?_
    refine RL.gq rfl rfl (Yld.bin rfl rfl BinV.eql) rfl ?_
    refine RL.q (by first | exact Yld.pickT rfl rfl | exact Yld.pickF rfl rfl) rfl ?_
    exact RL.nil (N.meet (.cons rfl (.cons rfl (.cons rfl (.cons rfl (.cons rfl (.cons rfl .nil)))))) (.cons rfl (.cons rfl (.cons rfl .nil))))
  ·
    intro hg6
    refine RL.gskip rfl rfl rfl rfl ?_
    refine RL.gskip rfl rfl rfl rfl ?_
    refine RL.gskip rfl rfl rfl rfl ?_
    refine RL.q (by first | exact Yld.pickT rfl rfl | exact Yld.pickF rfl rfl) rfl ?_
    exact RL.nil (N.meet (.cons rfl (.cons rfl (.cons rfl (.cons rfl (.cons rfl (.cons rfl .nil)))))) (.cons rfl (.cons rfl (.cons rfl .nil))))
  refine RL.nil ?_
  refine N.next ?_
  refine W.cond rfl (fun hc10 => ?_) (fun hc10 => ?_)
  ·
    have hz0 : z < 0 ∨ m.length = 0 := by simp only [Bool.or_eq_true, decide_eq_true_eq] at hc10; omega
    refine W.seq ?_
    refine W.region ?_
    refine RL.q (Yld.assign rfl) rfl ?_
    refine RL.nil ?_
    refine N.next ?_
    refine W.keep (.cons (k := 3) rfl .nil) (.cons (k := 0) rfl (.cons (k := 1) rfl (.cons (k := 2) rfl .nil))) ?_
    refine W.ret ?_
    refine N.then_ret ?_
    exact N.retBy [1, 2] (.cons (.tmp rfl) .nil) rfl rfl rfl rfl ⟨by unfold qof; rw [if_pos hz0]; rfl, rfl⟩
  ·
    simp only [Bool.or_eq_false_iff, decide_eq_false_iff_not] at hc10
    obtain ⟨k, hk, hkz, hqk⟩ := qof_at (m := m) (z := z) hc10.1 (by omega)
    have hlk : (iz m)[k]? = some [.int .i64 (qof m z)] := iz_get hqk
    refine W.skip ?_
    refine N.next ?_
    refine W.keep (.cons (k := 0) rfl (.cons (k := 1) rfl .nil)) (.cons (k := 0) rfl (.cons (k := 1) rfl (.cons (k := 2) rfl .nil))) ?_
    refine W.seq ?_
    refine W.draw (.q 0 (.q 1 (.q 2 (.q 3 (.q 4 (.q 5 (.q 6 (.q 7 .done)))))))) (.cons (k := 0) rfl (.cons (k := 1) rfl (.cons (k := 2) rfl .nil))) mix (by kernel_rfl) (by kernel_rfl) ?_
    refine DL.q rfl (Yld.load1 (c := 1) Tryd.underlying22 rfl rfl rfl (by first | exact single_self _ _ | exact pset_self _ _ _ | assumption) rfl) rfl ?_
    refine DL.q rfl (Yld.move rfl) rfl ?_
    refine DL.q rfl (Yld.load1 (c := 1) Tryd.underlying22 rfl rfl rfl (by first | exact single_self _ _ | exact pset_self _ _ _ | assumption) rfl) rfl ?_
    refine DL.q rfl (Yld.lenSl Tryd.underlying22 rfl) rfl ?_
    refine DL.q rfl (Yld.eq (v' := .int .i64 (k : Nat)) (Yld.bin rfl rfl (by first | exact BinV.rem (by omega) (by omega) | exact BinV.remW (by omega))) (by rw [hkz])) rfl ?_
    refine DL.q rfl (Yld.indexRow Tryd.underlying22 sz3 rfl rfl (by first | assumption | exact Own.sl (by assumption)) (by first | rfl | omega | (simp; done) | (simp; omega)) (by omega) (by first | omega | (simp; done) | (simp; omega))) rfl ?_
    refine DL.q rfl (by first | exact (by first | exact Yld.loadRow1 (cl := 1) Tryd.underlying3 rfl rfl rfl (by first | assumption | exact Own.sl (by assumption)) (by assumption) | exact Yld.loadRow1 (cl := 2) Tryd.underlying3 rfl rfl rfl (by first | assumption | exact Own.sl (by assumption)) (by assumption)) | exact (by first | exact Yld.loadRowF (cl := 1) (j := 0) Tryd.underlying3 rfl rfl rfl (by first | assumption | exact Own.sl (by assumption)) (by assumption) rfl | exact Yld.loadRowF (cl := 2) (j := 0) Tryd.underlying3 rfl rfl rfl (by first | assumption | exact Own.sl (by assumption)) (by assumption) rfl)) rfl ?_
    refine DL.q rfl (Yld.assign rfl) rfl ?_
    refine DL.done ?_
    refine N.next ?_
    refine W.keep (.cons (k := 3) rfl .nil) (.cons (k := 0) rfl (.cons (k := 1) rfl (.cons (k := 2) rfl .nil))) ?_
    refine W.ret ?_
    exact N.retBy [1, 2] (.cons (.tmp rfl) .nil) rfl rfl rfl rfl ⟨rfl, rfl⟩

set_option maxRecDepth 100000 in
set_option maxHeartbeats 3200000 in
theorem quorums_ct (x : Cf) (H1 : PH) (hx : x.In H1) (hT : TabH H1) (l : List Int) (p : Option Addr) (c : Nat) (hl : Sl H1 p c 1 (iz l)) (m : List Int) (q : Option Addr) (d : Nat) (hm : Sl H1 q d 1 (iz m)) : Ct Tryd.prog 4 [.agg [.slice x.po x.o.length x.co, .slice x.pn x.n.length x.cn, .slice x.pl x.l.length x.cl].toArray, .slice p l.length c, .slice q m.length d] [H1] (fun v Hs => v = .bool true ∧ Hs = [H1]) := by
  refine Ct.body Tryd.func4 rfl Tryd.ntmps4 rfl ?_
  intro E F
  obtain ⟨ho, hn, hll⟩ := hx
  have hx : x.In H1 := ⟨ho, hn, hll⟩
  have hmxl := hl.len_le
  simp only [iz_len, maxLen] at hmxl
  have hmxm := hm.len_le
  simp only [iz_len, maxLen] at hmxm
  refine W.seq ?_
  refine W.region ?_
  refine RL.e (Eff.box 103 _ rfl rfl) rfl ?_
  rintro _ _ ⟨b3, rfl, rfl⟩
  refine RL.e (Eff.box 105 _ rfl rfl) rfl ?_
  rintro _ _ ⟨b5, rfl, rfl⟩
  refine RL.q (Yld.assign rfl) rfl ?_
  refine RL.nil ?_
  refine N.next ?_
  refine W.seq ?_
  refine W.seq ?_
  refine W.region ?_
  refine RL.e (Eff.call ent8 [1] [1] .nil (awake_ct H1 hT) rfl rfl rfl rfl (by rintro _ _ ⟨_, rfl⟩; rfl)) rfl ?_
  rintro _ _ ⟨_, ⟨rfl, rfl⟩, rfl⟩
  refine RL.q (by first | exact Yld.notD rfl | exact Yld.not rfl) rfl ?_
  refine RL.nil ?_
  refine N.next ?_
  refine W.keep (.cons (k := 1) rfl (.cons (k := 3) rfl (.cons (k := 5) rfl (.cons (k := 12) rfl .nil)))) (.cons (k := 0) rfl (.cons (k := 1) rfl (.cons (k := 103) rfl (.cons (k := 105) rfl .nil)))) ?_
  first | (refine W.as (t := 12) rfl (boolF (by first | assumption | omega | (simp; done))) ?_; refine W.condF rfl ?_) | refine W.condF rfl ?_
  refine W.skip ?_
  refine N.next ?_
  refine W.seq ?_
  refine W.seq ?_
  refine W.region ?_
  refine RL.q (Yld.loadW (c := 103) Tryd.underlying24 rfl sz24 rfl rfl (by first | exact single_self _ _ | exact pset_self _ _ _ | assumption) rfl) rfl ?_
  refine RL.e (Eff.call ent9 [1] [1] (.cons rfl (.cons rfl .nil)) (cfew_ct x H1 hx 8) rfl rfl rfl rfl (by rintro _ _ ⟨_, rfl⟩; rfl)) rfl ?_
  rintro _ _ ⟨_, ⟨rfl, rfl⟩, rfl⟩
  refine RL.q (by first | exact Yld.notD rfl | exact Yld.not rfl) rfl ?_
  refine RL.q (Yld.move rfl) rfl ?_
  refine' RL.or (t := 16) (d := 20) 4 rfl (.cons (k := 1) rfl (.cons (k := 3) rfl (.cons (k := 5) rfl (.cons (k := 12) rfl (.cons (k := 13) rfl (.cons (k := 14) rfl (.cons (k := 15) rfl .nil))))))) (.cons (k := 0) rfl (.cons (k := 1) rfl (.cons (k := 103) rfl (.cons (k := 105) rfl .nil)))) ?_ ?_ ?_
  rotate_left 1
  ·
    intro hg16
    have hf8 : (x.o.length : Int) ≤ 8 ∧ (x.n.length : Int) ≤ 8 ∧ (x.l.length : Int) ≤ 8 := by
      have h := hg16
      simp only [Bool.or_eq_false_iff, Bool.not_eq_false', decide_eq_true_eq, decide_eq_false_iff_not, Classical.not_not] at h
      exact h
    refine RL.gq rfl rfl (Yld.loadW (c := 103) Tryd.underlying24 rfl sz24 rfl rfl (by first | exact single_self _ _ | exact pset_self _ _ _ | assumption) rfl) rfl ?_
    refine RL.ge rfl rfl (Eff.call ent10 [1] [1] (.cons rfl .nil) (plain_ct x H1 hx (by omega) (by omega) (by omega)) rfl rfl rfl rfl (by rintro _ _ ⟨_, rfl⟩; rfl)) rfl ?_
    rintro _ _ ⟨_, ⟨rfl, rfl⟩, rfl⟩
    refine RL.gq rfl rfl (by first | exact Yld.notD rfl | exact Yld.not rfl) rfl ?_
    refine RL.q (by first | exact Yld.pickT rfl rfl | exact Yld.pickF rfl rfl) rfl ?_
    exact RL.nil (N.meet (.cons rfl (.cons rfl (.cons rfl (.cons rfl (.cons rfl (.cons rfl (.cons rfl (.cons rfl .nil)))))))) (.cons rfl (.cons rfl (.cons rfl (.cons rfl .nil)))))
  ·
    intro hg16
    refine RL.gskip rfl rfl rfl rfl ?_
    refine RL.gskip rfl rfl rfl rfl ?_
    refine RL.gskip rfl rfl rfl rfl ?_
    refine RL.q (by first | exact Yld.pickT rfl rfl | exact Yld.pickF rfl rfl) rfl ?_
    exact RL.nil (N.meet (.cons rfl (.cons rfl (.cons rfl (.cons rfl (.cons rfl (.cons rfl (.cons rfl (.cons rfl .nil)))))))) (.cons rfl (.cons rfl (.cons rfl (.cons rfl .nil)))))
  refine RL.q (Yld.move rfl) rfl ?_
  refine' RL.or (t := 21) (d := 25) 4 rfl (.cons (k := 1) rfl (.cons (k := 3) rfl (.cons (k := 5) rfl (.cons (k := 12) rfl (.cons (k := 13) rfl (.cons (k := 14) rfl (.cons (k := 15) rfl (.cons (k := 20) rfl .nil)))))))) (.cons (k := 0) rfl (.cons (k := 1) rfl (.cons (k := 103) rfl (.cons (k := 105) rfl .nil)))) ?_ ?_ ?_
  rotate_left 1
  ·
    intro hg21
    refine RL.gq rfl rfl (Yld.move rfl) rfl ?_
    refine RL.gq rfl rfl (Yld.lenSl Tryd.underlying22 rfl) rfl ?_
    refine RL.gq rfl rfl (Yld.bin rfl rfl BinV.gtr) rfl ?_
    refine RL.q (by first | exact Yld.pickT rfl rfl | exact Yld.pickF rfl rfl) rfl ?_
    exact RL.nil (N.meet (.cons rfl (.cons rfl (.cons rfl (.cons rfl (.cons rfl (.cons rfl (.cons rfl (.cons rfl (.cons rfl .nil))))))))) (.cons rfl (.cons rfl (.cons rfl (.cons rfl .nil)))))
  ·
    intro hg21
    refine RL.gskip rfl rfl rfl rfl ?_
    refine RL.gskip rfl rfl rfl rfl ?_
    refine RL.gskip rfl rfl rfl rfl ?_
    refine RL.q (by first | exact Yld.pickT rfl rfl | exact Yld.pickF rfl rfl) rfl ?_
    exact RL.nil (N.meet (.cons rfl (.cons rfl (.cons rfl (.cons rfl (.cons rfl (.cons rfl (.cons rfl (.cons rfl (.cons rfl .nil))))))))) (.cons rfl (.cons rfl (.cons rfl (.cons rfl .nil)))))
  refine RL.q (Yld.move rfl) rfl ?_
  refine' RL.or (t := 26) (d := 30) 4 rfl (.cons (k := 1) rfl (.cons (k := 3) rfl (.cons (k := 5) rfl (.cons (k := 12) rfl (.cons (k := 13) rfl (.cons (k := 14) rfl (.cons (k := 15) rfl (.cons (k := 20) rfl (.cons (k := 25) rfl .nil))))))))) (.cons (k := 0) rfl (.cons (k := 1) rfl (.cons (k := 103) rfl (.cons (k := 105) rfl .nil)))) ?_ ?_ ?_
  rotate_left 1
  ·
    intro hg26
    refine RL.gq rfl rfl (Yld.load1 (c := 105) Tryd.underlying22 rfl rfl rfl (by first | exact single_self _ _ | exact pset_self _ _ _ | assumption) rfl) rfl ?_
    refine RL.gq rfl rfl (Yld.lenSl Tryd.underlying22 rfl) rfl ?_
    refine RL.gq rfl rfl (Yld.bin rfl rfl BinV.gtr) rfl ?_
    refine RL.q (by first | exact Yld.pickT rfl rfl | exact Yld.pickF rfl rfl) rfl ?_
    exact RL.nil (N.meet (.cons rfl (.cons rfl (.cons rfl (.cons rfl (.cons rfl (.cons rfl (.cons rfl (.cons rfl (.cons rfl (.cons rfl .nil)))))))))) (.cons rfl (.cons rfl (.cons rfl (.cons rfl .nil)))))
  ·
    intro hg26
    refine RL.gskip rfl rfl rfl rfl ?_
    refine RL.gskip rfl rfl rfl rfl ?_
    refine RL.gskip rfl rfl rfl rfl ?_
    refine RL.q (by first | exact Yld.pickT rfl rfl | exact Yld.pickF rfl rfl) rfl ?_
    exact RL.nil (N.meet (.cons rfl (.cons rfl (.cons rfl (.cons rfl (.cons rfl (.cons rfl (.cons rfl (.cons rfl (.cons rfl (.cons rfl .nil)))))))))) (.cons rfl (.cons rfl (.cons rfl (.cons rfl .nil)))))
  refine RL.nil ?_
  refine N.next ?_
  refine W.keep (.cons (k := 1) rfl (.cons (k := 3) rfl (.cons (k := 5) rfl (.cons (k := 30) rfl .nil)))) (.cons (k := 0) rfl (.cons (k := 1) rfl (.cons (k := 103) rfl (.cons (k := 105) rfl .nil)))) ?_
  refine W.cond rfl (fun hc30 => ?_) (fun hc30 => ?_)
  ·
    refine W.seq ?_
    refine W.region ?_
    refine RL.q (Yld.assign rfl) rfl ?_
    refine RL.nil ?_
    refine N.next ?_
    refine W.keep (.cons (k := 6) rfl .nil) (.cons (k := 0) rfl (.cons (k := 1) rfl (.cons (k := 103) rfl (.cons (k := 105) rfl .nil)))) ?_
    refine W.ret ?_
    refine N.then_ret ?_
    exact N.retBy [1] (.cons (.tmp rfl) .nil) rfl rfl rfl rfl ⟨rfl, rfl⟩
  ·
    simp only [Bool.or_eq_false_iff, Bool.not_eq_false', decide_eq_true_eq, decide_eq_false_iff_not, Classical.not_not] at hc30
    have hf8 := hc30.1.1.1
    refine W.skip ?_
    refine N.next ?_
    refine W.seq ?_
    refine W.region ?_
    refine RL.q (Yld.makeFunc eval0 (eval1 rfl)) rfl ?_
    refine RL.q (Yld.assign rfl) rfl ?_
    refine RL.nil ?_
    refine N.next ?_
    refine W.seq ?_
    refine W.region ?_
    refine RL.e (Eff.buildSlice 132 Tryd.underlying22 sz3 zc3 rfl rfl .nil rfl) rfl ?_
    rintro _ _ ⟨b32, rfl, rfl⟩
    refine RL.q (Yld.assign rfl) rfl ?_
    refine RL.nil ?_
    refine N.next ?_
    refine W.keep (.cons (k := 1) rfl (.cons (k := 3) rfl (.cons (k := 7) rfl (.cons (k := 8) rfl .nil)))) (.cons (k := 0) rfl (.cons (k := 1) rfl (.cons (k := 103) rfl (.cons (k := 105) rfl (.cons (k := 132) rfl .nil))))) ?_
    refine W.seq ?_
    refine W.seq ?_
    refine W.region ?_
    refine RL.q (Yld.loadW (c := 103) Tryd.underlying24 rfl sz24 rfl rfl (by first | exact single_self _ _ | exact pset_self _ _ _ | assumption) rfl) rfl ?_
    refine RL.e (Eff.call ent16 [1] [1, 130] (.cons rfl .nil) (rvoters_ct x H1 hx (by simp; omega)) rfl rfl rfl rfl (by rintro _ _ ⟨_, _, _, _, _, rfl⟩; rfl)) rfl ?_
    rintro _ _ ⟨_, ⟨Hv, pv, cv, rfl, hOv, rfl⟩, rfl⟩
    have hVl := setL_len (x.o ++ x.n)
    rw [List.length_append] at hVl
    have hV1 : ∀ z ∈ setL (x.o ++ x.n), 1 ≤ z := fun z hz => setL_pos hz
    obtain ⟨V, hV⟩ : ∃ V, setL (x.o ++ x.n) = V := ⟨_, rfl⟩
    rw [hV] at hOv hVl hV1 ⊢
    have hcv := hOv.sl.len_le
    simp only [iz_len, maxLen] at hcv
    refine RL.q (Yld.lenSl Tryd.underlying22 rfl) rfl ?_
    refine RL.q (Yld.move rfl) rfl ?_
    refine RL.nil ?_
    refine N.next ?_
    refine W.block ?_
    refine W.loopK (ι := SI) (fun y => (y.i ≤ V.length ∧ Own y.H y.p y.c 3 1 (iz y.s) ∧ y.s = (V.take y.i).map (qof m))) (fun y => [(8, .slice y.p y.s.length y.c), (36, .int .i64 (y.i : Nat))]) (fun y => [(132, y.H)]) (fun y => V.length - y.i) (.cons (k := 1) rfl (.cons (k := 3) rfl (.cons (k := 7) rfl (.cons (k := 34) rfl (.cons (k := 35) rfl .nil))))) (.cons (k := 0) rfl (.cons (k := 1) rfl (.cons (k := 103) rfl (.cons (k := 105) rfl (.cons (k := 130) rfl .nil))))) ⟨0, single b32 (.cells [].toArray 3 (0, 0)), some ⟨b32, 0, none⟩, 0, []⟩ ?_ ?_ ?_ ?_
    · exact ⟨Nat.zero_le _, iz_none rfl, rfl⟩
    · exact (.as rfl (by first | rfl | (simp; done) | (congr 1; simp; done) | (congr 1; omega)) (.as rfl (by first | rfl | (simp; done) | (congr 1; simp; done) | (congr 1; omega)) .nil))
    · exact (.cons rfl .nil)
    rintro y ⟨hi, hO, hs⟩
    refine W.keep (.cons (k := 8) rfl (.cons (k := 36) rfl (.cons (k := 1) rfl (.cons (k := 3) rfl (.cons (k := 7) rfl (.cons (k := 34) rfl (.cons (k := 35) rfl .nil))))))) (.cons (k := 132) rfl (.cons (k := 0) rfl (.cons (k := 1) rfl (.cons (k := 103) rfl (.cons (k := 105) rfl (.cons (k := 130) rfl .nil)))))) ?_
    refine W.seq ?_
    refine W.region ?_
    refine RL.q (Yld.bin rfl rfl BinV.lss) rfl ?_
    refine RL.nil ?_
    refine N.next ?_
    refine W.seq ?_
    first | refine W.condD rfl (fun hc37 => ?_) (fun hc37 => ?_) | (refine W.cond rfl (fun hc37 => ?_) (fun hc37 => ?_) <;> try simp only [Bool.or_eq_true, Bool.and_eq_true, Bool.not_eq_true', Bool.not_eq_false', decide_eq_true_eq, Bool.or_eq_false_iff, Bool.and_eq_false_iff, decide_eq_false_iff_not, beq_iff_eq, beq_eq_false_iff_ne, ne_eq, Decidable.not_not] at hc37)
    ·
      obtain ⟨z, hz, hlz⟩ := iz_at (show y.i < V.length by omega)
      have hsl : y.s.length ≤ y.i := by rw [hs, List.length_map, List.length_take]; omega
      refine W.skip ?_
      refine N.next ?_
      refine W.seq ?_
      refine W.block ?_
      refine W.seq ?_
      refine W.region ?_
      refine RL.q (Yld.indexRow Tryd.underlying22 sz3 rfl rfl (by first | assumption | exact Own.sl (by assumption)) (by first | rfl | omega | (simp; done) | (simp; omega)) (by omega) (by first | omega | (simp; done) | (simp; omega))) rfl ?_
      refine RL.q (by first | exact (by first | exact Yld.loadRow1 (cl := 1) Tryd.underlying3 rfl rfl rfl (by first | assumption | exact Own.sl (by assumption)) (by assumption) | exact Yld.loadRow1 (cl := 103) Tryd.underlying3 rfl rfl rfl (by first | assumption | exact Own.sl (by assumption)) (by assumption) | exact Yld.loadRow1 (cl := 105) Tryd.underlying3 rfl rfl rfl (by first | assumption | exact Own.sl (by assumption)) (by assumption) | exact Yld.loadRow1 (cl := 130) Tryd.underlying3 rfl rfl rfl (by first | assumption | exact Own.sl (by assumption)) (by assumption) | exact Yld.loadRow1 (cl := 132) Tryd.underlying3 rfl rfl rfl (by first | assumption | exact Own.sl (by assumption)) (by assumption)) | exact (by first | exact Yld.loadRowF (cl := 1) (j := 0) Tryd.underlying3 rfl rfl rfl (by first | assumption | exact Own.sl (by assumption)) (by assumption) rfl | exact Yld.loadRowF (cl := 103) (j := 0) Tryd.underlying3 rfl rfl rfl (by first | assumption | exact Own.sl (by assumption)) (by assumption) rfl | exact Yld.loadRowF (cl := 105) (j := 0) Tryd.underlying3 rfl rfl rfl (by first | assumption | exact Own.sl (by assumption)) (by assumption) rfl | exact Yld.loadRowF (cl := 130) (j := 0) Tryd.underlying3 rfl rfl rfl (by first | assumption | exact Own.sl (by assumption)) (by assumption) rfl | exact Yld.loadRowF (cl := 132) (j := 0) Tryd.underlying3 rfl rfl rfl (by first | assumption | exact Own.sl (by assumption)) (by assumption) rfl)) rfl ?_
      refine RL.q (Yld.assign rfl) rfl ?_
      refine RL.nil ?_
      refine N.next ?_
      refine W.region ?_
      refine RL.q (Yld.move rfl) rfl ?_
      refine RL.q (Yld.move rfl) rfl ?_
      refine RL.q (Yld.move rfl) rfl ?_
      refine RL.e (Eff.callV ent15 [105, 1] [105, 1] rfl (.cons rfl .nil) (qof_ct b5 H1 m _ _ hm z) rfl rfl rfl rfl (by rintro _ _ ⟨_, rfl⟩; rfl)) rfl ?_
      rintro _ _ ⟨_, ⟨rfl, rfl⟩, rfl⟩
      refine RL.e (Eff.buildSlice 144 Tryd.underlying22 sz3 zc3 rfl rfl (.cons rfl rfl .nil) rfl) rfl ?_
      rintro _ _ ⟨b44, rfl, rfl⟩
      refine RL.e (Eff.appendE (tc := 132) (sc := 144) (fun z : Int => [Value.int .i64 z]) Tryd.underlying22 el3 rfl rfl rfl rfl hO rfl (iz_single rfl) rfl (iz_one1 _) (by decide) (by first | (simp; done) | (simp; omega)) (by first | (simp [maxLen]; done) | (simp [maxLen]; omega))) rfl ?_
      rintro _ _ ⟨Ha, pa, ca, rfl, hOa, rfl⟩
      refine RL.q (Yld.assign rfl) rfl ?_
      refine RL.nil ?_
      refine N.block_normal ?_
      refine N.next ?_
      refine W.keep (.cons (k := 1) rfl (.cons (k := 3) rfl (.cons (k := 7) rfl (.cons (k := 8) rfl (.cons (k := 34) rfl (.cons (k := 35) rfl (.cons (k := 36) rfl .nil))))))) (.cons (k := 0) rfl (.cons (k := 1) rfl (.cons (k := 103) rfl (.cons (k := 105) rfl (.cons (k := 130) rfl (.cons (k := 132) rfl (.cons (k := 144) rfl .nil))))))) ?_
      refine W.region ?_
      refine RL.q (Yld.bin rfl rfl (by first | exact BinV.add (by omega) (by omega) | exact BinV.addW)) rfl ?_
      refine RL.q (Yld.move rfl) rfl ?_
      refine RL.nil ?_
      exact N.famK ⟨y.i + 1, Ha, pa, ca, y.s ++ [qof m z]⟩ ⟨⟨by dsimp only; omega, hOa, by dsimp only; rw [List.take_add_one, hz, List.map_append, ← hs]; rfl⟩, by dsimp only; omega⟩ (.as rfl (by first | rfl | (simp; done) | (congr 1; simp; done) | (congr 1; omega)) (.as rfl (by first | rfl | (simp; done) | (congr 1; simp; done) | (congr 1; omega)) .nil)) (.cons rfl (.cons rfl (.cons rfl (.cons rfl (.cons rfl .nil))))) (.cons rfl .nil) (.cons rfl (.cons rfl (.cons rfl (.cons rfl (.cons rfl .nil)))))
    ·
      have hend : y.i = V.length := by omega
      rw [hend, List.take_length] at hs
      refine W.exit ?_
      refine N.then_exit ?_
      refine N.then_exit ?_
      refine N.block_eq ?_
      refine N.next ?_
      refine W.keep (.cons (k := 1) rfl (.cons (k := 3) rfl (.cons (k := 7) rfl (.cons (k := 8) rfl .nil)))) (.cons (k := 0) rfl (.cons (k := 1) rfl (.cons (k := 103) rfl (.cons (k := 105) rfl (.cons (k := 130) rfl (.cons (k := 132) rfl .nil)))))) ?_
      refine W.seq ?_
      refine W.draw (.q 0 (.q 1 (.q 3 (.q 4 (.one 2 (.one 5 (.q 6 (.q 7 (.q 8 (.q 9 (.q 11 (.q 12 (.one 10 (.one 13 (.q 14 (.q 15 (.q 16 .done))))))))))))))))) (.cons (k := 0) rfl (.cons (k := 103) rfl (.cons (k := 130) rfl .nil))) mix (by kernel_rfl) (by kernel_rfl) ?_
      refine DL.q rfl (Yld.loadW (c := 103) Tryd.underlying24 rfl sz24 rfl rfl (by first | exact single_self _ _ | exact pset_self _ _ _ | assumption) rfl) rfl ?_
      refine DL.q rfl (Yld.move rfl) rfl ?_
      refine DL.q rfl (Yld.loadW (c := 103) Tryd.underlying24 rfl sz24 rfl rfl (by first | exact single_self _ _ | exact pset_self _ _ _ | assumption) rfl) rfl ?_
      refine DL.q rfl (Yld.move rfl) rfl ?_
      refine DL.one rfl (Eff.call ent11 [1] [1] (.cons rfl (.cons rfl .nil)) (cquorumS_ct x H1 hx l _ _ hl (by omega) (by omega)) rfl rfl rfl rfl (by rintro _ _ ⟨_, rfl⟩; rfl)) rfl (by rintro _ _ ⟨_, ⟨rfl, rfl⟩, rfl⟩; repeat (first | exact .nil | refine .cons rfl ?_)) ?_
      rintro _ _ ⟨_, ⟨rfl, rfl⟩, rfl⟩
      refine DL.one rfl (Eff.call ent17 [1] [1] (.cons rfl (.cons rfl .nil)) (rquorumS_ct x H1 hx l _ _ hl (by omega) (by omega)) rfl rfl rfl rfl (by rintro _ _ ⟨_, rfl⟩; rfl)) rfl (by rintro _ _ ⟨_, ⟨rfl, rfl⟩, rfl⟩; repeat (first | exact .nil | refine .cons rfl ?_)) ?_
      rintro _ _ ⟨_, ⟨rfl, rfl⟩, rfl⟩
      refine DL.q rfl (Yld.bin rfl rfl (BinV.eqlB Tryd.underlying4)) rfl ?_
      refine DL.q rfl (Yld.move rfl) rfl ?_
      refine' DL.and (t := 54) (d := 62) 8 rfl (.cons (k := 1) rfl (.cons (k := 3) rfl (.cons (k := 7) rfl (.cons (k := 8) rfl (.cons (k := 47) rfl (.cons (k := 48) rfl (.cons (k := 49) rfl (.cons (k := 50) rfl (.cons (k := 51) rfl (.cons (k := 52) rfl (.cons (k := 53) rfl .nil))))))))))) (.cons (k := 0) rfl (.cons (k := 1) rfl (.cons (k := 103) rfl (.cons (k := 105) rfl (.cons (k := 130) rfl (.cons (k := 132) rfl .nil)))))) ?_ ?_ ?_
      rotate_left 1
      ·
        intro hg54
        refine DL.gq rfl rfl rfl (Yld.loadW (c := 103) Tryd.underlying24 rfl sz24 rfl rfl (by first | exact single_self _ _ | exact pset_self _ _ _ | assumption) rfl) rfl ?_
        refine DL.gq rfl rfl rfl (Yld.move rfl) rfl ?_
        refine DL.gq rfl rfl rfl (Yld.loadW (c := 103) Tryd.underlying24 rfl sz24 rfl rfl (by first | exact single_self _ _ | exact pset_self _ _ _ | assumption) rfl) rfl ?_
        refine DL.gq rfl rfl rfl (Yld.move rfl) rfl ?_
        refine DL.gone rfl rfl rfl (Eff.call ent18 [1, 105] [1, 105] (.cons rfl (.cons rfl .nil)) (agreed_ct x H1 hx 15 [.pointer (some ⟨b5, 0, none⟩)] _ (qof m) ent15 (fun z _ => qof_ct b5 H1 m _ _ hm z) (by omega) (by omega)) rfl rfl rfl rfl (by rintro _ _ ⟨_, rfl⟩; rfl)) rfl (by rintro _ _ ⟨_, ⟨rfl, rfl⟩, rfl⟩; repeat (first | exact .nil | refine .cons rfl ?_)) ?_
        rintro _ _ ⟨_, ⟨rfl, rfl⟩, rfl⟩
        refine DL.gone rfl rfl rfl (Eff.call ent19 [1, 132] [1, 132] (.cons rfl (.cons rfl .nil)) (ragreed_ct x H1 hx (qof m) _ _ _ y.s.length (by rw [hV, hs, List.length_map]) (by rw [hV, ← hs]; exact hO.sl) (by omega) (by omega)) rfl rfl rfl rfl (by rintro _ _ ⟨_, rfl⟩; rfl)) rfl (by rintro _ _ ⟨_, ⟨rfl, rfl⟩, rfl⟩; repeat (first | exact .nil | refine .cons rfl ?_)) ?_
        rintro _ _ ⟨_, ⟨rfl, rfl⟩, rfl⟩
        refine DL.gq rfl rfl rfl (Yld.bin rfl rfl BinV.eql) rfl ?_
        refine DL.q rfl (by first | exact Yld.pickT rfl rfl | exact Yld.pickF rfl rfl) rfl ?_
        exact DL.meet (.cons rfl (.cons rfl (.cons rfl (.cons rfl (.cons rfl (.cons rfl (.cons rfl (.cons rfl (.cons rfl (.cons rfl (.cons rfl (.cons rfl .nil)))))))))))) (.cons rfl (.cons rfl (.cons rfl (.cons rfl (.cons rfl (.cons rfl .nil))))))
      ·
        intro hg54
        refine DL.gskip rfl rfl rfl rfl rfl ?_
        refine DL.gskip rfl rfl rfl rfl rfl ?_
        refine DL.gskip rfl rfl rfl rfl rfl ?_
        refine DL.gskip rfl rfl rfl rfl rfl ?_
        refine DL.gskip1 rfl rfl rfl rfl rfl ?_
        refine DL.gskip1 rfl rfl rfl rfl rfl ?_
        refine DL.gskip rfl rfl rfl rfl rfl ?_
        refine DL.q rfl (by first | exact Yld.pickT rfl rfl | exact Yld.pickF rfl rfl) rfl ?_
        exact DL.meet (.cons rfl (.cons rfl (.cons rfl (.cons rfl (.cons rfl (.cons rfl (.cons rfl (.cons rfl (.cons rfl (.cons rfl (.cons rfl (.cons rfl .nil)))))))))))) (.cons rfl (.cons rfl (.cons rfl (.cons rfl (.cons rfl (.cons rfl .nil))))))
      refine DL.q rfl (Yld.assign rfl) rfl ?_
      refine DL.done ?_
      refine N.next ?_
      refine W.keep (.cons (k := 6) rfl .nil) (.cons (k := 0) rfl (.cons (k := 1) rfl (.cons (k := 103) rfl (.cons (k := 105) rfl (.cons (k := 130) rfl (.cons (k := 132) rfl .nil)))))) ?_
      refine W.ret ?_
      exact N.retBy [1] (.cons (.tmp rfl) .nil) rfl rfl rfl rfl ⟨by show Value.bool _ = _; rw [Value.bool.injEq]; simp, rfl⟩

end Go.Proofs.YtiedcjebkkdneaaDoor
