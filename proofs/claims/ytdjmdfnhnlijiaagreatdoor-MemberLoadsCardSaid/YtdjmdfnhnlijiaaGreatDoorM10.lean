/- MemberReaches. Written by program (walk2.py). -/
import Derived.Test.YtdjmdfnhnlijiaaGreatDoorM9
import Derived.Test.YtdjmdfnhnlijiaaGreatDoorO1
namespace Go.Proofs.YtdjmdfnhnlijiaaGreatDoor
open SL Cfg Memb
set_option linter.unusedVariables false
set_option linter.unusedSimpArgs false
theorem ent14 : Ent Tryz.prog 14 := ⟨_, _, Tryz.func14, by kernel_rfl, rfl⟩
theorem ent18 : Ent Tryz.prog 18 := ⟨_, _, Tryz.func18, by kernel_rfl, rfl⟩
theorem ent19 : Ent Tryz.prog 19 := ⟨_, _, Tryz.func19, by kernel_rfl, rfl⟩
theorem Cfg.minus_self {l m : List Int} : (minusL l m).length = l.length ↔ ∀ z ∈ l, z ∉ m := by
  unfold minusL
  rw [List.length_filter_eq_length_iff]
  exact ⟨fun h z hz => by simpa using h z hz, fun h z hz => by simpa using h z hz⟩
theorem Cfg.final_ok {x s : Cf} (h : x.Ok) (s1 : s.o = if x.n.length = 0 then x.o else x.n) (s2 : s.n = []) (s3 : s.l = x.l) : s.Ok := by
  obtain ⟨h1, h2, h3, h4, h5, h6⟩ := h
  have hso : setL s.o = s.o := by rw [s1]; split <;> assumption
  have hpos : 0 < s.o.length := by
    rw [s1]; split
    · exact h4
    · omega
  have hin : ∀ z ∈ s.o, z ∈ setL (x.o ++ x.n) := fun z hz => (mem_voters h1 h2).2 (by
    rw [s1] at hz
    split at hz
    · exact .inl hz
    · exact .inr hz)
  refine ⟨hso, by rw [s2]; exact setE, by rw [s3]; exact h3, hpos, fun e => ?_, ?_⟩
  · rw [e, s2] at hpos; simp at hpos
  · rw [minus_self] at h6 ⊢
    rw [s3, s2]
    intro z hz hm
    rcases (mem_voters hso setE).1 hm with h7 | h7
    · exact h6 z hz (hin z h7)
    · cases h7
theorem Cfg.joint_ok {s j : Cf} {l : List Int} (h : s.Ok) (s2 : s.n = []) (j1 : j.o = s.o) (j2 : j.n = setL l) (j3 : j.l = minusL s.l (setL l)) : j.Ok ↔ s.o ≠ setL l := by
  obtain ⟨h1, h2, h3, h4, h5, h6⟩ := h
  constructor
  · intro hj
    have := hj.2.2.2.2.1
    rwa [j1, j2] at this
  · intro hne
    refine ⟨by rw [j1]; exact h1, by rw [j2]; exact set_idem l, by rw [j3]; exact set_minus h3 _, by rw [j1]; exact h4, by rw [j1, j2]; exact hne, ?_⟩
    rw [minus_self] at h6 ⊢
    rw [j1, j2, j3]
    intro z hz hm
    obtain ⟨hz1, hz2⟩ := List.mem_filter.1 hz
    rw [Bool.not_eq_true', decide_eq_false_iff_not] at hz2
    rcases (mem_voters h1 (set_idem l)).1 hm with h7 | h7
    · exact h6 z hz1 ((mem_voters h1 h2).2 (.inl h7))
    · exact hz2 h7
def Memb.rk (g : Gl) (z : Cf) : Nat := if z.n.length = 0 then (if g.o.length = 0 then 0 else if g.o ≠ z.o then 3 else if g.n ≠ z.l then 1 else 0) else (if g.o.length = 0 then 1 else if z.n = g.o then 2 else 4)
theorem Memb.rk_le (g : Gl) (z : Cf) : rk g z ≤ 4 := by unfold rk; repeat' split
                                                        all_goals omega
theorem Memb.nil_of {l : List Int} (h : ¬ 0 < l.length) : l = [] := List.length_eq_zero_iff.1 (by omega)
theorem Memb.nx_step {k : Nat} {g : Gl} {z y : Cf} (hk : k ≤ 100) (hg : GOK k g) (hz : z.Ok) (h : nextG g z = some (gl y)) (z1 : z.o.length ≤ 8) (z2 : z.n.length ≤ 8) (z3 : z.l.length ≤ 100) :
    y.Ok ∧ rk g y < rk g z ∧ ¬ (z.o = y.o ∧ z.n = y.n ∧ z.l = y.l) ∧ ovl z.o z.n y.o y.n = true ∧ y.o.length ≤ 8 ∧ y.n.length ≤ 8 ∧ y.l.length ≤ 100 := by
  unfold nextG at h
  rw [if_pos hz] at h
  split at h
  · rename_i hn
    obtain ⟨e1, e2, e3⟩ : z.n = y.o ∧ [] = y.n ∧ z.l = y.l := by simpa [gl] using h
    have hy : y.Ok := final_ok hz (by rw [if_neg (by omega)]; exact e1.symm) e2.symm e3.symm
    refine ⟨hy, ?_, fun hh => ?_, ovl_share hz.1 hz.2.1 hy.1 hy.2.1 z.n (fun r h => quor_new h (by omega)) (fun r h => by rw [e1]; exact quor_old h), by rw [← e1]; exact z2, by rw [← e2]; simp, by rw [← e3]; exact z3⟩
    · unfold rk
      rw [if_pos (show y.n.length = 0 by rw [← e2]; rfl), if_neg (show ¬ z.n.length = 0 by omega), ← e1]
      split
      · omega
      · by_cases e : z.n = g.o
        · rw [if_pos e, if_neg (fun h => h e.symm)]; split <;> omega
        · rw [if_neg e]; split <;> (try split) <;> omega
    · rw [← e2] at hh; rw [hh.2.1] at hn; simp at hn
  · rename_i hn
    have hzn := nil_of hn
    split at h
    · simp at h
    · rename_i hgo
      split at h
      · rename_i hne
        obtain ⟨e1, e2, e3⟩ : z.o = y.o ∧ setL g.o = y.n ∧ minusL z.l (setL g.o) = y.l := by simpa [gl] using h
        have hy : y.Ok := (joint_ok hz hzn e1.symm e2.symm e3.symm).2 (by rw [hg.o]; exact fun h => hne h.symm)
        rw [hg.o] at e2
        refine ⟨hy, ?_, fun hh => ?_, ovl_share hz.1 hz.2.1 hy.1 hy.2.1 z.o (fun r h => quor_old h) (fun r h => by rw [e1]; exact quor_old h), by rw [← e1]; exact z1, by rw [← e2]; exact hg.bo, by rw [← e3]; exact Nat.le_trans minus_len z3⟩
        · unfold rk
          rw [← e2, if_neg hgo, if_neg hgo, if_pos rfl, if_pos (show z.n.length = 0 by omega), if_neg hgo, if_pos hne]; omega
        · rw [← e2, hzn] at hh
          have := hh.2.1
          rw [← this] at hgo
          exact hgo rfl
      · rename_i heq
        have heq : g.o = z.o := Classical.not_not.1 heq
        split at h
        · rename_i hnl
          obtain ⟨e1, e2, e3⟩ : z.o = y.o ∧ z.n = y.n ∧ minusL (setL g.n) (z.o ++ z.n) = y.l := by simpa [gl] using h
          have e4 : minusL (setL g.n) (z.o ++ z.n) = g.n := by
            rw [hzn, List.append_nil, hg.n, ← heq]
            unfold minusL
            exact List.filter_eq_self.2 fun a ha => by simp [hg.no a ha]
          rw [e4] at e3
          have hy : y.Ok := by
            refine ⟨by rw [← e1]; exact hz.1, by rw [← e2]; exact hz.2.1, by rw [← e3]; exact hg.n, by rw [← e1]; exact hz.2.2.2.1, by rw [← e1, ← e2]; exact hz.2.2.2.2.1, ?_⟩
            rw [minus_full, ← e1, ← e2, ← e3, hzn, List.append_nil, hz.1, ← heq]
            exact hg.no
          refine ⟨hy, ?_, fun hh => ?_, ovl_share hz.1 hz.2.1 hy.1 hy.2.1 z.o (fun r h => quor_old h) (fun r h => by rw [e1]; exact quor_old h), by rw [← e1]; exact z1, by rw [← e2]; exact z2, by rw [← e3]; exact Nat.le_trans hg.bn hk⟩
          · unfold rk
            rw [if_pos (show y.n.length = 0 by rw [← e2]; omega), if_neg hgo, ← e1, if_neg (fun h => h heq), ← e3, if_neg (fun h => h rfl), if_pos (show z.n.length = 0 by omega), if_neg hgo, if_neg (fun h => h heq), if_pos hnl]; omega
          · exact hnl (e3.trans hh.2.2.symm)
        · simp at h
theorem Memb.nx_none {g : Gl} {z : Cf} (hz : z.Ok) (h : nextG g z = none) : z.n.length = 0 ∧ (g.o.length = 0 ∨ (z.o = g.o ∧ z.l = g.n)) := by
  unfold nextG at h
  rw [if_pos hz] at h
  split at h
  · simp at h
  · rename_i hn
    refine ⟨by omega, ?_⟩
    split at h
    · exact .inl (by assumption)
    · split at h
      · simp at h
      · rename_i h1
        split at h
        · simp at h
        · rename_i h2
          exact .inr ⟨(Classical.not_not.1 h1).symm, (Classical.not_not.1 h2).symm⟩
structure Memb.TI where
  i : Nat
  z : Cf
  K : PH

set_option maxRecDepth 100000 in
set_option maxHeartbeats 400000 in
theorem cequal_ct (x : Cf) (H1 : PH) (hx : x.In H1) (y : Cf) (H2 : PH) (hy : y.In H2) : Ct Tryz.prog 18 [.agg [.slice x.po x.o.length x.co, .slice x.pn x.n.length x.cn, .slice x.pl x.l.length x.cl].toArray, .agg [.slice y.po y.o.length y.co, .slice y.pn y.n.length y.cn, .slice y.pl y.l.length y.cl].toArray] [H1, H2] (fun v Hs => v = .bool (decide (x.o = y.o ∧ x.n = y.n ∧ x.l = y.l)) ∧ Hs = [H1, H2]) := by
  refine Ct.body Tryz.func18 rfl Tryz.ntmps18 rfl ?_
  intro E F
  obtain ⟨hxo, hxn, hxl⟩ := hx
  obtain ⟨hyo, hyn, hyl⟩ := hy
  refine W.seq ?_
  refine W.region ?_
  refine RL.e (Eff.box 102 _ rfl rfl) rfl ?_
  rintro _ _ ⟨b2, rfl, rfl⟩
  refine RL.e (Eff.box 103 _ rfl rfl) rfl ?_
  rintro _ _ ⟨b3, rfl, rfl⟩
  refine RL.q (Yld.assign rfl) rfl ?_
  refine RL.nil ?_
  refine N.next ?_
  refine W.seq ?_
  refine W.region ?_
  refine RL.q (Yld.fieldAddr fo25_0 rfl) rfl ?_
  refine RL.q (Yld.load1 (c := 102) Tryz.underlying22 rfl rfl rfl (by first | exact single_self _ _ | exact pset_self _ _ _ | assumption) rfl) rfl ?_
  refine RL.q (Yld.fieldAddr fo25_0 rfl) rfl ?_
  refine RL.q (Yld.load1 (c := 103) Tryz.underlying22 rfl rfl rfl (by first | exact single_self _ _ | exact pset_self _ _ _ | assumption) rfl) rfl ?_
  refine RL.e (Eff.call ent31 [1, 2] [1, 2] (.cons rfl (.cons rfl .nil)) (equal_ct x.o H1 _ _ hxo y.o H2 _ _ hyo) rfl rfl rfl rfl (by rintro _ _ ⟨_, rfl⟩; rfl)) rfl ?_
  rintro _ _ ⟨_, ⟨rfl, rfl⟩, rfl⟩
  refine RL.q (Yld.move rfl) rfl ?_
  refine' RL.and (t := 10) (d := 16) 6 rfl (.cons (k := 0) rfl (.cons (k := 1) rfl (.cons (k := 2) rfl (.cons (k := 3) rfl (.cons (k := 4) rfl (.cons (k := 5) rfl (.cons (k := 6) rfl (.cons (k := 7) rfl (.cons (k := 8) rfl (.cons (k := 9) rfl .nil)))))))))) (.cons (k := 0) rfl (.cons (k := 1) rfl (.cons (k := 2) rfl (.cons (k := 102) rfl (.cons (k := 103) rfl .nil))))) ?_ ?_ ?_
  rotate_left 1
  ·
    intro hg10
    refine RL.gq rfl rfl (Yld.fieldAddr fo25_1 rfl) rfl ?_
    refine RL.gq rfl rfl (Yld.load1 (c := 102) Tryz.underlying22 rfl rfl rfl (by first | exact single_self _ _ | exact pset_self _ _ _ | assumption) rfl) rfl ?_
    refine RL.gq rfl rfl (Yld.fieldAddr fo25_1 rfl) rfl ?_
    refine RL.gq rfl rfl (Yld.load1 (c := 103) Tryz.underlying22 rfl rfl rfl (by first | exact single_self _ _ | exact pset_self _ _ _ | assumption) rfl) rfl ?_
    refine RL.ge rfl rfl (Eff.call ent31 [1, 2] [1, 2] (.cons rfl (.cons rfl .nil)) (equal_ct x.n H1 _ _ hxn y.n H2 _ _ hyn) rfl rfl rfl rfl (by rintro _ _ ⟨_, rfl⟩; rfl)) rfl ?_
    rintro _ _ ⟨_, ⟨rfl, rfl⟩, rfl⟩
    refine RL.q (by first | exact Yld.pickT rfl rfl | exact Yld.pickF rfl rfl) rfl ?_
    exact RL.nil (N.meet (.cons rfl (.cons rfl (.cons rfl (.cons rfl (.cons rfl (.cons rfl (.cons rfl (.cons rfl (.cons rfl (.cons rfl (.cons rfl .nil))))))))))) (.cons rfl (.cons rfl (.cons rfl (.cons rfl (.cons rfl .nil))))))
  ·
    intro hg10
    refine RL.gskip rfl rfl rfl rfl ?_
    refine RL.gskip rfl rfl rfl rfl ?_
    refine RL.gskip rfl rfl rfl rfl ?_
    refine RL.gskip rfl rfl rfl rfl ?_
    refine RL.gskip rfl rfl rfl rfl ?_
    refine RL.q (by first | exact Yld.pickT rfl rfl | exact Yld.pickF rfl rfl) rfl ?_
    exact RL.nil (N.meet (.cons rfl (.cons rfl (.cons rfl (.cons rfl (.cons rfl (.cons rfl (.cons rfl (.cons rfl (.cons rfl (.cons rfl (.cons rfl .nil))))))))))) (.cons rfl (.cons rfl (.cons rfl (.cons rfl (.cons rfl .nil))))))
  refine RL.q (Yld.move rfl) rfl ?_
  refine' RL.and (t := 17) (d := 23) 6 rfl (.cons (k := 0) rfl (.cons (k := 1) rfl (.cons (k := 2) rfl (.cons (k := 3) rfl (.cons (k := 4) rfl (.cons (k := 5) rfl (.cons (k := 6) rfl (.cons (k := 7) rfl (.cons (k := 8) rfl (.cons (k := 9) rfl (.cons (k := 16) rfl .nil))))))))))) (.cons (k := 0) rfl (.cons (k := 1) rfl (.cons (k := 2) rfl (.cons (k := 102) rfl (.cons (k := 103) rfl .nil))))) ?_ ?_ ?_
  rotate_left 1
  ·
    intro hg17
    refine RL.gq rfl rfl (Yld.fieldAddr fo25_2 rfl) rfl ?_
    refine RL.gq rfl rfl (Yld.load1 (c := 102) Tryz.underlying22 rfl rfl rfl (by first | exact single_self _ _ | exact pset_self _ _ _ | assumption) rfl) rfl ?_
    refine RL.gq rfl rfl (Yld.fieldAddr fo25_2 rfl) rfl ?_
    refine RL.gq rfl rfl (Yld.load1 (c := 103) Tryz.underlying22 rfl rfl rfl (by first | exact single_self _ _ | exact pset_self _ _ _ | assumption) rfl) rfl ?_
    refine RL.ge rfl rfl (Eff.call ent31 [1, 2] [1, 2] (.cons rfl (.cons rfl .nil)) (equal_ct x.l H1 _ _ hxl y.l H2 _ _ hyl) rfl rfl rfl rfl (by rintro _ _ ⟨_, rfl⟩; rfl)) rfl ?_
    rintro _ _ ⟨_, ⟨rfl, rfl⟩, rfl⟩
    refine RL.q (by first | exact Yld.pickT rfl rfl | exact Yld.pickF rfl rfl) rfl ?_
    exact RL.nil (N.meet (.cons rfl (.cons rfl (.cons rfl (.cons rfl (.cons rfl (.cons rfl (.cons rfl (.cons rfl (.cons rfl (.cons rfl (.cons rfl (.cons rfl .nil)))))))))))) (.cons rfl (.cons rfl (.cons rfl (.cons rfl (.cons rfl .nil))))))
  ·
    intro hg17
    refine RL.gskip rfl rfl rfl rfl ?_
    refine RL.gskip rfl rfl rfl rfl ?_
    refine RL.gskip rfl rfl rfl rfl ?_
    refine RL.gskip rfl rfl rfl rfl ?_
    refine RL.gskip rfl rfl rfl rfl ?_
    refine RL.q (by first | exact Yld.pickT rfl rfl | exact Yld.pickF rfl rfl) rfl ?_
    exact RL.nil (N.meet (.cons rfl (.cons rfl (.cons rfl (.cons rfl (.cons rfl (.cons rfl (.cons rfl (.cons rfl (.cons rfl (.cons rfl (.cons rfl (.cons rfl .nil)))))))))))) (.cons rfl (.cons rfl (.cons rfl (.cons rfl (.cons rfl .nil))))))
  refine RL.q (Yld.assign rfl) rfl ?_
  refine RL.nil ?_
  refine N.next ?_
  refine W.keep (.cons (k := 4) rfl .nil) (.cons (k := 0) rfl (.cons (k := 1) rfl (.cons (k := 2) rfl (.cons (k := 102) rfl (.cons (k := 103) rfl .nil))))) ?_
  refine W.ret ?_
  exact N.retBy [1, 2] (.cons (.tmp rfl) .nil) rfl rfl rfl rfl ⟨by show Value.bool _ = _; rw [Value.bool.injEq, Bool.eq_iff_iff]; simp [and_assoc], rfl⟩

set_option maxRecDepth 100000 in
set_option maxHeartbeats 400000 in
theorem cblank_ct (x : Cf) (H1 : PH) (hx : x.In H1) (hbo : x.o.length ≤ 1000000) (hbn : x.n.length ≤ 1000000) (hbl : x.l.length ≤ 1000000) : Ct Tryz.prog 14 [.agg [.slice x.po x.o.length x.co, .slice x.pn x.n.length x.cn, .slice x.pl x.l.length x.cl].toArray] [H1] (fun v Hs => v = .bool (decide (x.o.length + x.n.length + x.l.length = 0)) ∧ Hs = [H1]) := by
  refine Ct.body Tryz.func14 rfl Tryz.ntmps14 rfl ?_
  intro E F
  obtain ⟨ho, hn, hl⟩ := hx
  have hmo := ho.len_le
  have hmn := hn.len_le
  have hml := hl.len_le
  simp only [iz_len, maxLen] at hmo hmn hml
  refine W.seq ?_
  refine W.region ?_
  refine RL.e (Eff.box 101 _ rfl rfl) rfl ?_
  rintro _ _ ⟨b1, rfl, rfl⟩
  refine RL.q (Yld.assign rfl) rfl ?_
  refine RL.nil ?_
  refine N.next ?_
  refine W.seq ?_
  refine W.region ?_
  refine RL.q (Yld.fieldAddr fo25_0 rfl) rfl ?_
  refine RL.q (Yld.load1 (c := 101) Tryz.underlying22 rfl rfl rfl (by first | exact single_self _ _ | exact pset_self _ _ _ | assumption) rfl) rfl ?_
  refine RL.q (Yld.lenSl Tryz.underlying22 rfl) rfl ?_
  refine RL.q (Yld.fieldAddr fo25_1 rfl) rfl ?_
  refine RL.q (Yld.load1 (c := 101) Tryz.underlying22 rfl rfl rfl (by first | exact single_self _ _ | exact pset_self _ _ _ | assumption) rfl) rfl ?_
  refine RL.q (Yld.lenSl Tryz.underlying22 rfl) rfl ?_
  refine RL.q (Yld.bin rfl rfl (by first | exact BinV.add (by omega) (by omega) | exact BinV.addW)) rfl ?_
  refine RL.q (Yld.fieldAddr fo25_2 rfl) rfl ?_
  refine RL.q (Yld.load1 (c := 101) Tryz.underlying22 rfl rfl rfl (by first | exact single_self _ _ | exact pset_self _ _ _ | assumption) rfl) rfl ?_
  refine RL.q (Yld.lenSl Tryz.underlying22 rfl) rfl ?_
  refine RL.q (Yld.bin rfl rfl (by first | exact BinV.add (by omega) (by omega) | exact BinV.addW)) rfl ?_
  refine RL.q (Yld.bin rfl rfl BinV.eql) rfl ?_
  refine RL.q (Yld.assign rfl) rfl ?_
  refine RL.nil ?_
  refine N.next ?_
  refine W.keep (.cons (k := 2) rfl .nil) (.cons (k := 0) rfl (.cons (k := 1) rfl (.cons (k := 101) rfl .nil))) ?_
  refine W.ret ?_
  exact N.retBy [1] (.cons (.tmp rfl) .nil) rfl rfl rfl rfl ⟨by show Value.bool _ = _; rw [Value.bool.injEq]; congr 1; rw [eq_iff_iff]; omega, rfl⟩

set_option maxRecDepth 100000 in
set_option maxHeartbeats 6400000 in
theorem reaches_ct (vs : List Int) (H : PH) (p : Option Addr) (e : Nat) (hv : Sl H p e 1 (iz vs)) (hvi : ∀ z ∈ vs, -9223372036854775808 ≤ z ∧ z ≤ 9223372036854775807) (l : List Ch) (q : Option Addr) (d : Nat) (hS : Sl H q d 4 (l.map Ch.cells)) (hC : ∀ c ∈ l, c.In H) (hR : ∀ c ∈ l, c.Ri) (z : Cf) (hz : z.In H) (hT : TabH H) : Ct Tryz.prog 4 [.slice p vs.length e, .slice q l.length d, .agg [.slice z.po z.o.length z.co, .slice z.pn z.n.length z.cn, .slice z.pl z.l.length z.cl].toArray] [H] (fun v Hs => v = .bool true ∧ Hs = [H]) := by
  refine Ct.body Tryz.func4 rfl Tryz.ntmps4 rfl ?_
  intro E F
  have hml := hS.len_le
  simp only [List.length_map, maxLen] at hml
  have hmv := hv.len_le
  simp only [iz_len, maxLen] at hmv
  have hzz := hz
  obtain ⟨hz1, hz2, hz3⟩ := hzz
  refine W.seq ?_
  refine W.region ?_
  refine RL.e (Eff.box 105 _ rfl rfl) rfl ?_
  rintro _ _ ⟨b5, rfl, rfl⟩
  refine RL.q (Yld.assign rfl) rfl ?_
  refine RL.nil ?_
  refine N.next ?_
  refine W.seq ?_
  refine W.seq ?_
  refine W.region ?_
  refine RL.e (Eff.call ent6 [1] [1] .nil (awake_ct H hT) rfl rfl rfl rfl (by rintro _ _ ⟨_, rfl⟩; rfl)) rfl ?_
  rintro _ _ ⟨_, ⟨rfl, rfl⟩, rfl⟩
  refine RL.q (by first | exact Yld.notD rfl | exact Yld.not rfl) rfl ?_
  refine RL.nil ?_
  refine N.next ?_
  first | (refine W.as (t := 15) rfl (boolF (by first | assumption | omega | (simp; done))) ?_; refine W.condF rfl ?_) | refine W.condF rfl ?_
  refine W.skip ?_
  refine N.next ?_
  refine W.keep (.cons (k := 0) rfl (.cons (k := 1) rfl (.cons (k := 5) rfl .nil))) (.cons (k := 0) rfl (.cons (k := 1) rfl (.cons (k := 105) rfl .nil))) ?_
  refine W.seq ?_
  refine W.seq ?_
  refine W.region ?_
  refine RL.q (Yld.move rfl) rfl ?_
  refine RL.e (Eff.call ent7 [1] [1] (.cons rfl (.cons rfl .nil)) (few_ct l q d H hS 12) rfl rfl rfl rfl (by rintro _ _ ⟨_, rfl⟩; rfl)) rfl ?_
  rintro _ _ ⟨_, ⟨rfl, rfl⟩, rfl⟩
  refine RL.q (by first | exact Yld.notD rfl | exact Yld.not rfl) rfl ?_
  refine RL.q (Yld.move rfl) rfl ?_
  refine' RL.or (t := 19) (d := 23) 4 rfl (.cons (k := 0) rfl (.cons (k := 1) rfl (.cons (k := 5) rfl (.cons (k := 16) rfl (.cons (k := 17) rfl (.cons (k := 18) rfl .nil)))))) (.cons (k := 0) rfl (.cons (k := 1) rfl (.cons (k := 105) rfl .nil))) ?_ ?_ ?_
  rotate_left 1
  ·
    intro hg19
    refine RL.gq rfl rfl (Yld.move rfl) rfl ?_
    refine RL.gq rfl rfl (Yld.lenSl Tryz.underlying22 rfl) rfl ?_
    refine RL.gq rfl rfl (Yld.bin rfl rfl BinV.gtr) rfl ?_
    refine RL.q (by first | exact Yld.pickT rfl rfl | exact Yld.pickF rfl rfl) rfl ?_
    exact RL.nil (N.meet (.cons rfl (.cons rfl (.cons rfl (.cons rfl (.cons rfl (.cons rfl (.cons rfl .nil))))))) (.cons rfl (.cons rfl (.cons rfl .nil))))
  ·
    intro hg19
    refine RL.gskip rfl rfl rfl rfl ?_
    refine RL.gskip rfl rfl rfl rfl ?_
    refine RL.gskip rfl rfl rfl rfl ?_
    refine RL.q (by first | exact Yld.pickT rfl rfl | exact Yld.pickF rfl rfl) rfl ?_
    exact RL.nil (N.meet (.cons rfl (.cons rfl (.cons rfl (.cons rfl (.cons rfl (.cons rfl (.cons rfl .nil))))))) (.cons rfl (.cons rfl (.cons rfl .nil))))
  refine RL.q (Yld.move rfl) rfl ?_
  refine' RL.or (t := 24) (d := 28) 4 rfl (.cons (k := 0) rfl (.cons (k := 1) rfl (.cons (k := 5) rfl (.cons (k := 16) rfl (.cons (k := 17) rfl (.cons (k := 18) rfl (.cons (k := 23) rfl .nil))))))) (.cons (k := 0) rfl (.cons (k := 1) rfl (.cons (k := 105) rfl .nil))) ?_ ?_ ?_
  rotate_left 1
  ·
    intro hg24
    refine RL.gq rfl rfl (Yld.loadW (c := 105) Tryz.underlying25 rfl sz25 rfl rfl (by first | exact single_self _ _ | exact pset_self _ _ _ | assumption) rfl) rfl ?_
    refine RL.ge rfl rfl (Eff.call ent8 [1] [1] (.cons rfl (.cons rfl .nil)) (cfew_ct z H hz 4) rfl rfl rfl rfl (by rintro _ _ ⟨_, rfl⟩; rfl)) rfl ?_
    rintro _ _ ⟨_, ⟨rfl, rfl⟩, rfl⟩
    refine RL.gq rfl rfl (by first | exact Yld.notD rfl | exact Yld.not rfl) rfl ?_
    refine RL.q (by first | exact Yld.pickT rfl rfl | exact Yld.pickF rfl rfl) rfl ?_
    exact RL.nil (N.meet (.cons rfl (.cons rfl (.cons rfl (.cons rfl (.cons rfl (.cons rfl (.cons rfl (.cons rfl .nil)))))))) (.cons rfl (.cons rfl (.cons rfl .nil))))
  ·
    intro hg24
    refine RL.gskip rfl rfl rfl rfl ?_
    refine RL.gskip rfl rfl rfl rfl ?_
    refine RL.gskip rfl rfl rfl rfl ?_
    refine RL.q (by first | exact Yld.pickT rfl rfl | exact Yld.pickF rfl rfl) rfl ?_
    exact RL.nil (N.meet (.cons rfl (.cons rfl (.cons rfl (.cons rfl (.cons rfl (.cons rfl (.cons rfl (.cons rfl .nil)))))))) (.cons rfl (.cons rfl (.cons rfl .nil))))
  refine RL.q (Yld.move rfl) rfl ?_
  refine' RL.or (t := 29) (d := 33) 4 rfl (.cons (k := 0) rfl (.cons (k := 1) rfl (.cons (k := 5) rfl (.cons (k := 16) rfl (.cons (k := 17) rfl (.cons (k := 18) rfl (.cons (k := 23) rfl (.cons (k := 28) rfl .nil)))))))) (.cons (k := 0) rfl (.cons (k := 1) rfl (.cons (k := 105) rfl .nil))) ?_ ?_ ?_
  rotate_left 1
  ·
    intro hg29
    have hg4 : (z.o.length : Int) ≤ 4 ∧ (z.n.length : Int) ≤ 4 ∧ (z.l.length : Int) ≤ 4 := by
      simp only [Bool.or_eq_false_iff, Bool.not_eq_false', decide_eq_true_eq, decide_eq_false_iff_not, Classical.not_not] at hg29
      exact hg29.2
    refine RL.gq rfl rfl (Yld.loadW (c := 105) Tryz.underlying25 rfl sz25 rfl rfl (by first | exact single_self _ _ | exact pset_self _ _ _ | assumption) rfl) rfl ?_
    refine RL.ge rfl rfl (Eff.call ent13 [1] [1] (.cons rfl .nil) (cvalid_ct z H hz (by omega) (by omega) (by omega)) rfl rfl rfl rfl (by rintro _ _ ⟨_, rfl⟩; rfl)) rfl ?_
    rintro _ _ ⟨_, ⟨rfl, rfl⟩, rfl⟩
    refine RL.gq rfl rfl (by first | exact Yld.notD rfl | exact Yld.not rfl) rfl ?_
    refine RL.q (by first | exact Yld.pickT rfl rfl | exact Yld.pickF rfl rfl) rfl ?_
    exact RL.nil (N.meet (.cons rfl (.cons rfl (.cons rfl (.cons rfl (.cons rfl (.cons rfl (.cons rfl (.cons rfl (.cons rfl .nil))))))))) (.cons rfl (.cons rfl (.cons rfl .nil))))
  ·
    intro hg29
    refine RL.gskip rfl rfl rfl rfl ?_
    refine RL.gskip rfl rfl rfl rfl ?_
    refine RL.gskip rfl rfl rfl rfl ?_
    refine RL.q (by first | exact Yld.pickT rfl rfl | exact Yld.pickF rfl rfl) rfl ?_
    exact RL.nil (N.meet (.cons rfl (.cons rfl (.cons rfl (.cons rfl (.cons rfl (.cons rfl (.cons rfl (.cons rfl (.cons rfl .nil))))))))) (.cons rfl (.cons rfl (.cons rfl .nil))))
  refine RL.nil ?_
  refine N.next ?_
  refine W.keep (.cons (k := 0) rfl (.cons (k := 1) rfl (.cons (k := 5) rfl (.cons (k := 33) rfl .nil)))) (.cons (k := 0) rfl (.cons (k := 1) rfl (.cons (k := 105) rfl .nil))) ?_
  refine W.cond rfl (fun hc33 => ?_) (fun hc33 => ?_)
  ·
    refine W.seq ?_
    refine W.region ?_
    refine RL.q (Yld.assign rfl) rfl ?_
    refine RL.nil ?_
    refine N.next ?_
    refine W.keep (.cons (k := 6) rfl .nil) (.cons (k := 0) rfl (.cons (k := 1) rfl (.cons (k := 105) rfl .nil))) ?_
    refine W.ret ?_
    refine N.then_ret ?_
    exact N.retBy [1] (.cons (.tmp rfl) .nil) rfl rfl rfl rfl ⟨rfl, rfl⟩
  ·
    simp only [Bool.or_eq_false_iff, Bool.not_eq_false', decide_eq_true_eq, decide_eq_false_iff_not, Classical.not_not] at hc33
    obtain ⟨⟨⟨⟨hf8, hl20⟩, hv8⟩, hz8⟩, hzk⟩ := hc33
    have hv8 : vs.length ≤ 8 := by omega
    have hI : ∀ c ∈ l, c.Sm := fun c h => ⟨(hf8 c h).1, (hf8 c h).2, hR c h⟩
    refine W.skip ?_
    refine N.next ?_
    refine W.seq ?_
    refine W.seq ?_
    refine W.region ?_
    refine RL.q (Yld.move rfl) rfl ?_
    refine RL.q (Yld.lenSl Tryz.underlying23 rfl) rfl ?_
    refine RL.q (Yld.move rfl) rfl ?_
    refine RL.nil ?_
    refine N.next ?_
    refine W.block ?_
    refine W.loopK (ι := Nat) (fun j => (j ≤ l.length)) (fun j => [(36, .int .i64 (j : Nat))]) (fun j => []) (fun j => l.length - j) (.cons (k := 0) rfl (.cons (k := 1) rfl (.cons (k := 5) rfl (.cons (k := 35) rfl .nil)))) (.cons (k := 0) rfl (.cons (k := 1) rfl (.cons (k := 105) rfl .nil))) 0 ?_ ?_ ?_ ?_
    · exact Nat.zero_le _
    · exact (.as rfl (by first | rfl | (simp; done) | (congr 1; simp; done) | (congr 1; omega)) .nil)
    · exact .nil
    rintro j hj
    refine W.keep (.cons (k := 36) rfl (.cons (k := 0) rfl (.cons (k := 1) rfl (.cons (k := 5) rfl (.cons (k := 35) rfl .nil))))) (.cons (k := 0) rfl (.cons (k := 1) rfl (.cons (k := 105) rfl .nil))) ?_
    refine W.seq ?_
    refine W.region ?_
    refine RL.q (Yld.bin rfl rfl BinV.lss) rfl ?_
    refine RL.nil ?_
    refine N.next ?_
    refine W.seq ?_
    first | refine W.condD rfl (fun hc37 => ?_) (fun hc37 => ?_) | (refine W.cond rfl (fun hc37 => ?_) (fun hc37 => ?_) <;> try simp only [Bool.or_eq_true, Bool.and_eq_true, Bool.not_eq_true', Bool.not_eq_false', decide_eq_true_eq, Bool.or_eq_false_iff, Bool.and_eq_false_iff, decide_eq_false_iff_not, beq_iff_eq, beq_eq_false_iff_ne, ne_eq, Decidable.not_not] at hc37)
    ·
      obtain ⟨c, hcj⟩ : ∃ c, l[j]? = some c := ⟨_, List.getElem?_eq_getElem (show j < l.length by omega)⟩
      have hlc : (l.map Ch.cells)[j]? = some [.int .i64 c.k, .int .i64 c.m, .slice c.pf c.f.length c.cf, .slice c.pt c.t.length c.ct] := by simp [hcj, Ch.cells]
      refine W.skip ?_
      refine N.next ?_
      refine W.seq ?_
      refine W.block ?_
      refine W.seq ?_
      refine W.region ?_
      refine RL.q (Yld.move rfl) rfl ?_
      refine RL.q (Yld.assign rfl) rfl ?_
      refine RL.nil ?_
      refine N.next ?_
      refine W.seq ?_
      refine W.region ?_
      refine RL.q (Yld.move rfl) rfl ?_
      refine RL.q (Yld.move rfl) rfl ?_
      refine RL.q (Yld.indexRow Tryz.underlying23 sz41 rfl rfl (by first | assumption | exact Own.sl (by assumption)) (by first | rfl | omega | (simp; done) | (simp; omega)) (by omega) (by first | omega | (simp; done) | (simp; omega))) rfl ?_
      refine RL.q (Yld.fieldAddr fo41_3 rfl) rfl ?_
      refine RL.q (by first | exact Yld.loadRowF (cl := 1) (j := 3) Tryz.underlying22 rfl rfl rfl (by first | assumption | exact Own.sl (by assumption)) (by assumption) rfl | exact Yld.loadRowF (cl := 105) (j := 3) Tryz.underlying22 rfl rfl rfl (by first | assumption | exact Own.sl (by assumption)) (by assumption) rfl) rfl ?_
      refine RL.q (Yld.lenSl Tryz.underlying22 rfl) rfl ?_
      refine RL.q (Yld.bin rfl rfl BinV.gtr) rfl ?_
      refine RL.nil ?_
      refine N.next ?_
      refine W.keep (.cons (k := 0) rfl (.cons (k := 1) rfl (.cons (k := 5) rfl (.cons (k := 35) rfl (.cons (k := 36) rfl (.cons (k := 45) rfl .nil)))))) (.cons (k := 0) rfl (.cons (k := 1) rfl (.cons (k := 105) rfl .nil))) ?_
      first | refine W.condD rfl (fun hc45 => ?_) (fun hc45 => ?_) | (refine W.cond rfl (fun hc45 => ?_) (fun hc45 => ?_) <;> try simp only [Bool.or_eq_true, Bool.and_eq_true, Bool.not_eq_true', Bool.not_eq_false', decide_eq_true_eq, Bool.or_eq_false_iff, Bool.and_eq_false_iff, decide_eq_false_iff_not, beq_iff_eq, beq_eq_false_iff_ne, ne_eq, Decidable.not_not] at hc45)
      ·
        refine W.seq ?_
        refine W.region ?_
        refine RL.q (Yld.assign rfl) rfl ?_
        refine RL.nil ?_
        refine N.next ?_
        refine W.keep (.cons (k := 6) rfl .nil) (.cons (k := 0) rfl (.cons (k := 1) rfl (.cons (k := 105) rfl .nil))) ?_
        refine W.ret ?_
        refine N.block_ret ?_
        refine N.then_ret ?_
        refine N.then_ret ?_
        refine N.block_ret ?_
        refine N.then_ret ?_
        exact N.retBy [1] (.cons (.tmp rfl) .nil) rfl rfl rfl rfl ⟨rfl, rfl⟩
      ·
        refine W.skip ?_
        refine N.block_normal ?_
        refine N.next ?_
        refine W.region ?_
        refine RL.q (Yld.bin rfl rfl (by first | exact BinV.add (by omega) (by omega) | exact BinV.addW)) rfl ?_
        refine RL.q (Yld.move rfl) rfl ?_
        refine RL.nil ?_
        exact N.famK (j + 1) ⟨by omega, by omega⟩ (.as rfl (by first | rfl | (simp; done) | (congr 1; simp; done) | (congr 1; omega)) .nil) (.cons rfl (.cons rfl (.cons rfl (.cons rfl .nil)))) .nil (.cons rfl (.cons rfl (.cons rfl .nil)))
    ·
      refine W.exit ?_
      refine N.then_exit ?_
      refine N.then_exit ?_
      refine N.block_eq ?_
      refine N.next ?_
      refine W.seq ?_
      refine W.region ?_
      refine RL.q (Yld.move rfl) rfl ?_
      refine RL.q (Yld.move rfl) rfl ?_
      refine RL.e (Eff.call ent9 [1] [1, 150, 151, 152] (.cons rfl (.cons rfl .nil)) (run_ct vs H p e hv hvi l q d hS hC hI hv8 (by omega)) rfl rfl rfl rfl (by rintro _ _ ⟨_, _, _, _, _, _, _, _, _, _, rfl⟩; rfl)) rfl ?_
      rintro _ _ ⟨_, ⟨b, x, G, w, H2, rfl, hx, hw, hgl, hgw, rfl⟩, rfl⟩
      have hgk : GOK l.length (gl x) := hgl ▸ runG_OK hv8 hvi hI
      have g1 := hgk.bo
      have g2 := hgk.bn
      replace g1 : x.o.length ≤ 8 := g1
      replace g2 : x.n.length ≤ l.length := g2
      have hrk := rk_le (gl x) z
      refine RL.q (Yld.move rfl) rfl ?_
      refine RL.q (Yld.extract rfl rfl) rfl ?_
      refine RL.q (Yld.extract rfl rfl) rfl ?_
      refine RL.q (Yld.extract rfl rfl) rfl ?_
      refine RL.e (Eff.alloc 109 zc31) rfl ?_
      rintro _ _ ⟨b9, rfl, rfl⟩
      refine RL.q (Yld.assign rfl) rfl ?_
      refine RL.e0 (Eff.storeS (c := 109) _ sz31 rfl rfl rfl rfl rfl rfl rfl (by (try simp only [putAt, List.take, List.drop, List.nil_append, List.cons_append, List.append_nil, List.length_cons, List.length_nil, Nat.add_zero, Nat.zero_add, Nat.reduceAdd]); rfl)) ?_
      rintro _ _ rfl
      refine RL.q (Yld.assign rfl) rfl ?_
      refine RL.nil ?_
      refine N.next ?_
      refine W.keep (.cons (k := 5) rfl (.cons (k := 8) rfl (.cons (k := 10) rfl .nil))) (.cons (k := 0) rfl (.cons (k := 1) rfl (.cons (k := 105) rfl (.cons (k := 109) rfl (.cons (k := 150) rfl (.cons (k := 151) rfl (.cons (k := 152) rfl .nil))))))) ?_
      refine W.seq ?_
      refine W.seq ?_
      refine W.region ?_
      refine RL.q (Yld.move rfl) rfl ?_
      refine RL.q (by first | exact Yld.notD rfl | exact Yld.not rfl) rfl ?_
      refine RL.nil ?_
      refine N.next ?_
      first | (refine W.as (t := 55) rfl (boolF (by first | assumption | omega | (simp; done))) ?_; refine W.condF rfl ?_) | refine W.condF rfl ?_
      refine W.skip ?_
      refine N.next ?_
      refine W.seq ?_
      refine W.seq ?_
      refine W.region ?_
      refine RL.q (Yld.assign rfl) rfl ?_
      refine RL.nil ?_
      refine N.next ?_
      refine W.block ?_
      refine W.loopK (ι := TI) (fun y => (y.i + rk (gl x) y.z ≤ 4 ∧ y.z.In y.K ∧ y.z.Ok ∧ y.z.o.length ≤ 8 ∧ y.z.n.length ≤ 8 ∧ y.z.l.length ≤ 100 ∧ ∀ b o, H b = some o → y.K b = some o)) (fun y => [(11, .int .i64 (y.i : Nat))]) (fun y => [(1, y.K), (105, single b5 (.cells [.slice y.z.po y.z.o.length y.z.co, .slice y.z.pn y.z.n.length y.z.cn, .slice y.z.pl y.z.l.length y.z.cl].toArray 25 (0, 0)))]) (fun y => 4 - y.i) (.cons (k := 5) rfl (.cons (k := 8) rfl .nil)) (.cons (k := 0) rfl (.cons (k := 109) rfl (.cons (k := 150) rfl (.cons (k := 151) rfl (.cons (k := 152) rfl .nil))))) ⟨0, z, H⟩ ?_ ?_ ?_ ?_
      · exact ⟨by dsimp only; omega, hz, hzk, by dsimp only; omega, by dsimp only; omega, by dsimp only; omega, fun _ _ h => h⟩
      · exact (.as rfl (by first | rfl | (simp; done) | (congr 1; simp; done) | (congr 1; omega)) .nil)
      · exact (.cons rfl (.cons rfl .nil))
      rintro y ⟨hyi, hyI, hyk, hy1, hy2, hy3, hext⟩
      refine W.keep (.cons (k := 11) rfl (.cons (k := 5) rfl (.cons (k := 8) rfl .nil))) (.cons (k := 1) rfl (.cons (k := 105) rfl (.cons (k := 0) rfl (.cons (k := 109) rfl (.cons (k := 150) rfl (.cons (k := 151) rfl (.cons (k := 152) rfl .nil))))))) ?_
      refine W.seq ?_
      refine W.seq ?_
      refine W.region ?_
      refine RL.q (Yld.move rfl) rfl ?_
      refine RL.q (Yld.bin rfl rfl BinV.lss) rfl ?_
      refine RL.nil ?_
      refine N.next ?_
      first | refine W.condD rfl (fun hc57 => ?_) (fun hc57 => ?_) | (refine W.cond rfl (fun hc57 => ?_) (fun hc57 => ?_) <;> try simp only [Bool.or_eq_true, Bool.and_eq_true, Bool.not_eq_true', Bool.not_eq_false', decide_eq_true_eq, Bool.or_eq_false_iff, Bool.and_eq_false_iff, decide_eq_false_iff_not, beq_iff_eq, beq_eq_false_iff_ne, ne_eq, Decidable.not_not] at hc57)
      ·
        refine W.skip ?_
        refine N.next ?_
        refine W.seq ?_
        refine W.block ?_
        refine W.seq ?_
        refine W.region ?_
        refine RL.q (Yld.move rfl) rfl ?_
        refine RL.q (Yld.loadW (c := 105) Tryz.underlying25 rfl sz25 rfl rfl (by first | exact single_self _ _ | exact pset_self _ _ _ | assumption) rfl) rfl ?_
        refine RL.e (Eff.call ent10 [150, 151, 1] [150, 151, 1, 161] (.cons rfl (.cons rfl .nil)) (mnext_ct b x G hx (by omega) (by omega) y.z y.K hyI (by omega) (by omega) (by omega)) rfl rfl rfl rfl (by rintro _ _ ⟨_, _, _, _, _, rfl⟩; rfl)) rfl ?_
        rintro _ _ ⟨_, ⟨u, Hu, rfl, hu, hgu, rfl⟩, rfl⟩
        refine RL.q (Yld.move rfl) rfl ?_
        refine RL.q (Yld.extract rfl rfl) rfl ?_
        refine RL.q (Yld.extract rfl rfl) rfl ?_
        refine RL.e (Eff.alloc 112 zc25) rfl ?_
        rintro _ _ ⟨b12, rfl, rfl⟩
        refine RL.e0 (Eff.storeS (c := 112) _ sz25 rfl rfl rfl rfl rfl rfl rfl (by (try simp only [putAt, List.take, List.drop, List.nil_append, List.cons_append, List.append_nil, List.length_cons, List.length_nil, Nat.add_zero, Nat.zero_add, Nat.reduceAdd]); rfl)) ?_
        rintro _ _ rfl
        refine RL.q (Yld.assign rfl) rfl ?_
        refine RL.nil ?_
        refine N.next ?_
        refine W.keep (.cons (k := 5) rfl (.cons (k := 8) rfl (.cons (k := 11) rfl (.cons (k := 12) rfl (.cons (k := 13) rfl .nil))))) (.cons (k := 0) rfl (.cons (k := 1) rfl (.cons (k := 105) rfl (.cons (k := 109) rfl (.cons (k := 112) rfl (.cons (k := 150) rfl (.cons (k := 151) rfl (.cons (k := 152) rfl (.cons (k := 161) rfl .nil))))))))) ?_
        refine W.seq ?_
        refine W.seq ?_
        refine W.region ?_
        refine RL.q (Yld.move rfl) rfl ?_
        refine RL.q (by first | exact Yld.notD rfl | exact Yld.not rfl) rfl ?_
        refine RL.nil ?_
        refine N.next ?_
        refine W.cond rfl (fun hc67 => ?_) (fun hc67 => ?_)
        ·
          have hno : nextG (gl x) y.z = none := by
            cases h : nextG (gl x) y.z with
            | none => rfl
            | some w => rw [h] at hc67; simp at hc67
          rw [hno] at hgu
          have hf := nx_none hyk hno
          obtain ⟨u1, u2, u3⟩ : u.o = [] ∧ u.n = [] ∧ u.l = [] := by simpa [gl] using hgu
          have u1 : u.o.length = 0 := by rw [u1]; rfl
          have u2 : u.n.length = 0 := by rw [u2]; rfl
          have u3 : u.l.length = 0 := by rw [u3]; rfl
          refine W.seq ?_
          refine W.draw (.q 0 (.q 1 (.q 2 (.q 3 (.q 4 (.q 5 (.one 6 (.q 7 (.q 8 (.q 9 (.one 10 (.q 11 (.q 12 (.q 13 (.q 14 (.q 15 (.q 16 (.one 17 (.one 18 (.q 19 (.q 20 (.q 21 (.q 22 (.one 23 (.one 24 (.q 25 (.q 26 (.q 27 (.q 28 .done))))))))))))))))))))))))))))) (.cons (k := 0) rfl (.cons (k := 1) rfl (.cons (k := 105) rfl (.cons (k := 109) rfl (.cons (k := 112) rfl (.cons (k := 150) rfl (.cons (k := 151) rfl (.cons (k := 152) rfl (.cons (k := 161) rfl .nil))))))))) mix (by kernel_rfl) (by kernel_rfl) ?_
          refine DL.q rfl (Yld.fieldAddr fo25_1 rfl) rfl ?_
          refine DL.q rfl (Yld.load1 (c := 105) Tryz.underlying22 rfl rfl rfl (by first | exact single_self _ _ | exact pset_self _ _ _ | assumption) rfl) rfl ?_
          refine DL.q rfl (Yld.lenSl Tryz.underlying22 rfl) rfl ?_
          refine DL.q rfl (Yld.eq (v' := .bool true) (Yld.bin rfl rfl BinV.eql) (by rw [decide_eq_true (by have := hf.1; omega)])) rfl ?_
          refine DL.q rfl (Yld.move rfl) rfl ?_
          first | refine DL.as (t := 72) rfl (boolT (by first | assumption | omega | (simp; done))) ?_ | refine DL.as (t := 72) (v := .bool true) rfl rfl ?_
          refine DL.gq rfl rfl rfl (Yld.loadW (c := 112) Tryz.underlying25 rfl sz25 rfl rfl (by first | exact single_self _ _ | exact pset_self _ _ _ | assumption) rfl) rfl ?_
          refine DL.gone rfl rfl rfl (Eff.call ent14 [161] [161] (.cons rfl .nil) (cblank_ct u Hu hu (by omega) (by omega) (by omega)) rfl rfl rfl rfl (by rintro _ _ ⟨_, rfl⟩; rfl)) rfl (by rintro _ _ ⟨_, ⟨rfl, rfl⟩, rfl⟩; repeat (first | exact .nil | refine .cons rfl ?_)) ?_
          rintro _ _ ⟨_, ⟨rfl, rfl⟩, rfl⟩
          rw [decide_eq_true (show u.o.length + u.n.length + u.l.length = 0 by omega)]
          refine DL.q rfl (by first | exact Yld.pickT rfl rfl | exact Yld.pickF rfl rfl) rfl ?_
          refine DL.q rfl (Yld.move rfl) rfl ?_
          first | refine DL.as (t := 76) rfl (boolT (by first | assumption | omega | (simp; done))) ?_ | refine DL.as (t := 76) (v := .bool true) rfl rfl ?_
          refine DL.gq rfl rfl rfl (Yld.move rfl) rfl ?_
          refine DL.gone rfl rfl rfl (Eff.call ent15 [150, 151] [150, 151, 170] (.cons rfl .nil) (mvot_ct b x G hx (by omega)) rfl rfl rfl rfl (by rintro _ _ ⟨_, _, _, _, _, rfl⟩; rfl)) rfl (by rintro _ _ ⟨_, ⟨Ha, pa, ca, rfl, hOa, rfl⟩, rfl⟩; repeat (first | exact .nil | refine .cons rfl ?_)) ?_
          rintro _ _ ⟨_, ⟨Ha, pa, ca, rfl, hOa, rfl⟩, rfl⟩
          refine DL.gq rfl rfl rfl (Yld.lenSl Tryz.underlying22 rfl) rfl ?_
          refine DL.gq rfl rfl rfl (Yld.bin rfl rfl BinV.eql) rfl ?_
          refine DL.gq rfl rfl rfl (Yld.move rfl) rfl ?_
          first | refine DL.split (t := 81) rfl (fun hg81 => ?_) (fun hg81 => ?_) | refine DL.splitB (t := 81) rfl (fun hg81 => ?_) (fun hg81 => ?_)
          ·
            refine DL.gskip rfl rfl rfl rfl rfl ?_
            refine DL.gskip rfl rfl rfl rfl rfl ?_
            refine DL.gskip rfl rfl rfl rfl rfl ?_
            refine DL.gskip1 rfl rfl rfl rfl rfl ?_
            refine DL.gskip1 rfl rfl rfl rfl rfl ?_
            refine DL.gskip rfl rfl rfl rfl rfl ?_
            refine DL.gskipU rfl rfl rfl rfl ?_
            refine DL.gskipU rfl rfl rfl rfl ?_
            refine DL.gskipU rfl rfl rfl rfl ?_
            refine DL.gskip1U rfl rfl rfl rfl ?_
            refine DL.gskip1U rfl rfl rfl rfl ?_
            refine DL.gskip rfl rfl rfl rfl rfl ?_
            refine DL.gq rfl rfl rfl (by first | exact Yld.pickT rfl rfl | exact Yld.pickF rfl rfl) rfl ?_
            refine DL.q rfl (by first | exact Yld.pickT rfl rfl | exact Yld.pickF rfl rfl) rfl ?_
            refine DL.q rfl (Yld.assign rfl) rfl ?_
            refine DL.done ?_
            refine N.next ?_
            refine W.keep (.cons (k := 6) rfl .nil) (.cons (k := 0) rfl (.cons (k := 1) rfl (.cons (k := 105) rfl (.cons (k := 109) rfl (.cons (k := 112) rfl (.cons (k := 150) rfl (.cons (k := 151) rfl (.cons (k := 152) rfl (.cons (k := 161) rfl (.cons (k := 170) rfl .nil)))))))))) ?_
            refine W.ret ?_
            refine N.then_ret ?_
            refine N.block_ret ?_
            refine N.then_ret ?_
            refine N.then_ret ?_
            refine N.block_ret ?_
            refine N.then_ret ?_
            refine N.imp (Imp.sub (c := 1) (G := H) rfl hext) ?_
            exact N.retBy [1] (.cons (.tmp rfl) .nil) rfl rfl rfl rfl ⟨rfl, rfl⟩
          ·
            have hgo : ¬ (gl x).o.length = 0 := by show ¬ x.o.length = 0; omega
            refine DL.gq rfl rfl rfl (Yld.fieldAddr fo25_0 rfl) rfl ?_
            refine DL.gq rfl rfl rfl (Yld.load1 (c := 105) Tryz.underlying22 rfl rfl rfl (by first | exact single_self _ _ | exact pset_self _ _ _ | assumption) rfl) rfl ?_
            refine DL.gq rfl rfl rfl (Yld.move rfl) rfl ?_
            refine DL.gone rfl rfl rfl (Eff.call ent15 [150, 151] [150, 151, 171] (.cons rfl .nil) (mvot_ct b x G hx (by omega)) rfl rfl rfl rfl (by rintro _ _ ⟨_, _, _, _, _, rfl⟩; rfl)) rfl (by rintro _ _ ⟨_, ⟨Hb, pb, cb, rfl, hOb, rfl⟩, rfl⟩; repeat (first | exact .nil | refine .cons rfl ?_)) ?_
            rintro _ _ ⟨_, ⟨Hb, pb, cb, rfl, hOb, rfl⟩, rfl⟩
            refine DL.gone rfl rfl rfl (Eff.call ent16 [1, 171] [1, 171] (.cons rfl (.cons rfl .nil)) (ints_ct y.z.o _ _ _ hyI.1 x.o _ _ _ hOb.sl) rfl rfl rfl rfl (by rintro _ _ ⟨_, rfl⟩; rfl)) rfl (by rintro _ _ ⟨_, ⟨rfl, rfl⟩, rfl⟩; repeat (first | exact .nil | refine .cons rfl ?_)) ?_
            rintro _ _ ⟨_, ⟨rfl, rfl⟩, rfl⟩
            rw [decide_eq_true (show y.z.o = x.o from (hf.2.resolve_left hgo).1)]
            refine DL.gq rfl rfl rfl (Yld.move rfl) rfl ?_
            first | refine DL.as (t := 87) rfl (boolT (by first | assumption | omega | (simp; done))) ?_ | refine DL.as (t := 87) (v := .bool true) rfl rfl ?_
            refine DL.gq rfl rfl rfl (Yld.fieldAddr fo25_2 rfl) rfl ?_
            refine DL.gq rfl rfl rfl (Yld.load1 (c := 105) Tryz.underlying22 rfl rfl rfl (by first | exact single_self _ _ | exact pset_self _ _ _ | assumption) rfl) rfl ?_
            refine DL.gq rfl rfl rfl (Yld.move rfl) rfl ?_
            refine DL.gone rfl rfl rfl (Eff.call ent17 [150, 151] [150, 151, 172] (.cons rfl .nil) (mlea_ct b x G hx (by omega)) rfl rfl rfl rfl (by rintro _ _ ⟨_, _, _, _, _, rfl⟩; rfl)) rfl (by rintro _ _ ⟨_, ⟨Hc, pc, cc, rfl, hOc, rfl⟩, rfl⟩; repeat (first | exact .nil | refine .cons rfl ?_)) ?_
            rintro _ _ ⟨_, ⟨Hc, pc, cc, rfl, hOc, rfl⟩, rfl⟩
            refine DL.gone rfl rfl rfl (Eff.call ent16 [1, 172] [1, 172] (.cons rfl (.cons rfl .nil)) (ints_ct y.z.l _ _ _ hyI.2.2 x.n _ _ _ hOc.sl) rfl rfl rfl rfl (by rintro _ _ ⟨_, rfl⟩; rfl)) rfl (by rintro _ _ ⟨_, ⟨rfl, rfl⟩, rfl⟩; repeat (first | exact .nil | refine .cons rfl ?_)) ?_
            rintro _ _ ⟨_, ⟨rfl, rfl⟩, rfl⟩
            rw [decide_eq_true (show y.z.l = x.n from (hf.2.resolve_left hgo).2)]
            refine DL.gq rfl rfl rfl (by first | exact Yld.pickT rfl rfl | exact Yld.pickF rfl rfl) rfl ?_
            refine DL.gq rfl rfl rfl (by first | exact Yld.pickT rfl rfl | exact Yld.pickF rfl rfl) rfl ?_
            refine DL.q rfl (by first | exact Yld.pickT rfl rfl | exact Yld.pickF rfl rfl) rfl ?_
            refine DL.q rfl (Yld.assign rfl) rfl ?_
            refine DL.done ?_
            refine N.next ?_
            refine W.keep (.cons (k := 6) rfl .nil) (.cons (k := 0) rfl (.cons (k := 1) rfl (.cons (k := 105) rfl (.cons (k := 109) rfl (.cons (k := 112) rfl (.cons (k := 150) rfl (.cons (k := 151) rfl (.cons (k := 152) rfl (.cons (k := 161) rfl (.cons (k := 170) rfl (.cons (k := 171) rfl (.cons (k := 172) rfl .nil)))))))))))) ?_
            refine W.ret ?_
            refine N.then_ret ?_
            refine N.block_ret ?_
            refine N.then_ret ?_
            refine N.then_ret ?_
            refine N.block_ret ?_
            refine N.then_ret ?_
            refine N.imp (Imp.sub (c := 1) (G := H) rfl hext) ?_
            exact N.retBy [1] (.cons (.tmp rfl) .nil) rfl rfl rfl rfl ⟨rfl, rfl⟩
        ·
          have hsm : nextG (gl x) y.z = some (gl u) := by
            cases h : nextG (gl x) y.z with
            | none => rw [h] at hc67; simp at hc67
            | some w => rw [h] at hgu; exact congrArg some hgu.symm
          have hst := nx_step (k := l.length) (by omega) hgk hyk hsm hy1 hy2 hy3
          obtain ⟨u1, u2, u3⟩ := hst.2.2.2.2
          refine W.skip ?_
          refine N.next ?_
          refine W.seq ?_
          refine W.seq ?_
          refine W.region ?_
          refine RL.q (Yld.loadW (c := 112) Tryz.underlying25 rfl sz25 rfl rfl (by first | exact single_self _ _ | exact pset_self _ _ _ | assumption) rfl) rfl ?_
          refine RL.e (Eff.call ent13 [161] [161] (.cons rfl .nil) (cvalid_ct u Hu hu (by omega) (by omega) (by omega)) rfl rfl rfl rfl (by rintro _ _ ⟨_, rfl⟩; rfl)) rfl ?_
          rintro _ _ ⟨_, ⟨rfl, rfl⟩, rfl⟩
          rw [decide_eq_true hst.1]
          refine RL.q (by first | exact Yld.notD rfl | exact Yld.not rfl) rfl ?_
          refine RL.q (Yld.move rfl) rfl ?_
          first | refine RL.as (t := 99) rfl (boolF (by first | assumption | omega | (simp; done))) ?_ | refine RL.as (t := 99) (v := .bool false) rfl rfl ?_
          refine RL.gq rfl rfl (Yld.loadW (c := 105) Tryz.underlying25 rfl sz25 rfl rfl (by first | exact single_self _ _ | exact pset_self _ _ _ | assumption) rfl) rfl ?_
          refine RL.gq rfl rfl (Yld.loadW (c := 112) Tryz.underlying25 rfl sz25 rfl rfl (by first | exact single_self _ _ | exact pset_self _ _ _ | assumption) rfl) rfl ?_
          refine RL.ge rfl rfl (Eff.call ent18 [1, 161] [1, 161] (.cons rfl (.cons rfl .nil)) (cequal_ct y.z y.K hyI u Hu hu) rfl rfl rfl rfl (by rintro _ _ ⟨_, rfl⟩; rfl)) rfl ?_
          rintro _ _ ⟨_, ⟨rfl, rfl⟩, rfl⟩
          rw [decide_eq_false hst.2.2.1]
          refine RL.q (by first | exact Yld.pickT rfl rfl | exact Yld.pickF rfl rfl) rfl ?_
          refine RL.q (Yld.move rfl) rfl ?_
          first | refine RL.as (t := 104) rfl (boolF (by first | assumption | omega | (simp; done))) ?_ | refine RL.as (t := 104) (v := .bool false) rfl rfl ?_
          refine RL.gq rfl rfl (Yld.loadW (c := 105) Tryz.underlying25 rfl sz25 rfl rfl (by first | exact single_self _ _ | exact pset_self _ _ _ | assumption) rfl) rfl ?_
          refine RL.gq rfl rfl (Yld.loadW (c := 112) Tryz.underlying25 rfl sz25 rfl rfl (by first | exact single_self _ _ | exact pset_self _ _ _ | assumption) rfl) rfl ?_
          refine RL.ge rfl rfl (Eff.call ent19 [1, 161] [1, 161] (.cons rfl (.cons rfl .nil)) (overlapD_ct y.z u y.K Hu hyI hu (by omega) (by omega) (by omega) (by omega) (by have := setL_len (y.z.o ++ y.z.n); rw [List.length_append] at this; omega)) rfl rfl rfl rfl (by rintro _ _ ⟨_, rfl⟩; rfl)) rfl ?_
          rintro _ _ ⟨_, ⟨rfl, rfl⟩, rfl⟩
          rw [hst.2.2.2.1]
          refine RL.gq rfl rfl (by first | exact Yld.notD rfl | exact Yld.not rfl) rfl ?_
          refine RL.q (by first | exact Yld.pickT rfl rfl | exact Yld.pickF rfl rfl) rfl ?_
          refine RL.nil ?_
          refine N.next ?_
          refine W.keep (.cons (k := 5) rfl (.cons (k := 8) rfl (.cons (k := 11) rfl (.cons (k := 12) rfl (.cons (k := 109) rfl .nil))))) (.cons (k := 0) rfl (.cons (k := 1) rfl (.cons (k := 105) rfl (.cons (k := 109) rfl (.cons (k := 112) rfl (.cons (k := 150) rfl (.cons (k := 151) rfl (.cons (k := 152) rfl (.cons (k := 161) rfl .nil))))))))) ?_
          first | (refine W.as (t := 109) rfl (boolF (by first | assumption | omega | (simp; done))) ?_; refine W.condF rfl ?_) | refine W.condF rfl ?_
          refine W.skip ?_
          refine N.next ?_
          refine W.region ?_
          refine RL.q (Yld.loadW (c := 112) Tryz.underlying25 rfl sz25 rfl rfl (by first | exact single_self _ _ | exact pset_self _ _ _ | assumption) rfl) rfl ?_
          refine RL.e0 (Eff.storeS (c := 105) _ sz25 rfl rfl rfl rfl rfl rfl rfl (by (try simp only [putAt, List.take, List.drop, List.nil_append, List.cons_append, List.append_nil, List.length_cons, List.length_nil, Nat.add_zero, Nat.zero_add, Nat.reduceAdd]); rfl)) ?_
          rintro _ _ rfl
          refine RL.nil ?_
          refine N.block_normal ?_
          refine N.next ?_
          refine W.region ?_
          refine RL.q (Yld.move rfl) rfl ?_
          refine RL.q (Yld.bin rfl rfl (by first | exact BinV.add (by omega) (by omega) | exact BinV.addW)) rfl ?_
          refine RL.q (Yld.assign rfl) rfl ?_
          refine RL.nil ?_
          refine N.merge 1 161 rfl rfl rfl fun ha => ?_
          exact N.famK ⟨y.i + 1, u, _⟩ ⟨⟨by dsimp only; omega, ⟨hu.1.mono ha, hu.2.1.mono ha, hu.2.2.mono ha⟩, hst.1, by dsimp only; omega, by dsimp only; omega, by dsimp only; omega, fun b o h => hjoin_l b o (hext b o h)⟩, by dsimp only; omega⟩ (.as rfl (by first | rfl | (simp; done) | (congr 1; simp; done) | (congr 1; omega)) .nil) (.cons rfl (.cons rfl .nil)) (.cons rfl (.cons rfl .nil)) (.cons rfl (.cons rfl (.cons rfl (.cons rfl (.cons rfl .nil)))))
      ·
        exfalso
        omega --stop

end Go.Proofs.YtdjmdfnhnlijiaaGreatDoor
