/- ConfigChanges. Written by program (walk2.py). -/
import Derived.Test.YtiedcjebkkdneaaDoorC11
namespace Go.Proofs.YtiedcjebkkdneaaDoor
open SL Cfg
set_option linter.unusedVariables false
set_option linter.unusedSimpArgs false
theorem ent24 : Ent Tryd.prog 24 := ⟨_, _, Tryd.func24, by kernel_rfl, rfl⟩
theorem Cfg.minus_self {l m : List Int} : (minusL l m).length = l.length ↔ ∀ z ∈ l, z ∉ m := by
  unfold minusL
  rw [List.length_filter_eq_length_iff]
  exact ⟨fun h z hz => by simpa using h z hz, fun h z hz => by simpa using h z hz⟩
theorem Cfg.set_idem (l : List Int) : setL (setL l) = setL l := (IsSet.eq ⟨(setL_is l).sorted, fun z => ⟨fun h => ⟨h, setL_pos h⟩, fun h => h.1⟩⟩).symm
theorem Cfg.set_minus {l : List Int} (h : setL l = l) (m : List Int) : setL (minusL l m) = minusL l m := by
  have hs : l.Pairwise (· < ·) := h ▸ (setL_is l).sorted
  exact (IsSet.eq ⟨hs.sublist List.filter_sublist, fun z => ⟨fun hz => ⟨hz, setL_self h z (List.mem_filter.1 hz).1⟩, fun hz => hz.1⟩⟩).symm
theorem Cfg.final_ok {x s : Cf} (h : x.Ok) (s1 : s.o = if x.n.length = 0 then x.o else x.n) (s2 : s.n = []) (s3 : s.l = x.l) : s.Ok := by
  obtain ⟨h1, h2, h3, h4, h5, h6⟩ := h
  have hso : setL s.o = s.o := by rw [s1]; split <;> assumption
  have hpos : 0 < s.o.length := by
    rw [s1]; split
    · exact h4
    · omega
  have hin : ∀ z ∈ s.o, z ∈ setL (x.o ++ x.n) := fun z hz => (mem_voters h1 h2).2 (by
    rw [s1] at hz
    split at hz
    · exact .inl hz
    · exact .inr hz)
  refine ⟨hso, by rw [s2]; exact setE, by rw [s3]; exact h3, hpos, fun e => ?_, ?_⟩
  · rw [e, s2] at hpos; simp at hpos
  · rw [minus_self] at h6 ⊢
    rw [s3, s2]
    intro z hz hm
    rcases (mem_voters hso setE).1 hm with h7 | h7
    · exact h6 z hz (hin z h7)
    · cases h7
theorem Cfg.joint_ok {s j : Cf} {l : List Int} (h : s.Ok) (s2 : s.n = []) (j1 : j.o = s.o) (j2 : j.n = setL l) (j3 : j.l = minusL s.l (setL l)) : j.Ok ↔ s.o ≠ setL l := by
  obtain ⟨h1, h2, h3, h4, h5, h6⟩ := h
  constructor
  · intro hj
    have := hj.2.2.2.2.1
    rwa [j1, j2] at this
  · intro hne
    refine ⟨by rw [j1]; exact h1, by rw [j2]; exact set_idem l, by rw [j3]; exact set_minus h3 _, by rw [j1]; exact h4, by rw [j1, j2]; exact hne, ?_⟩
    rw [minus_self] at h6 ⊢
    rw [j1, j2, j3]
    intro z hz hm
    obtain ⟨hz1, hz2⟩ := List.mem_filter.1 hz
    rw [Bool.not_eq_true', decide_eq_false_iff_not] at hz2
    rcases (mem_voters h1 (set_idem l)).1 hm with h7 | h7
    · exact h6 z hz1 ((mem_voters h1 h2).2 (.inl h7))
    · exact hz2 h7

set_option maxRecDepth 100000 in
set_option maxHeartbeats 3200000 in
theorem changes_ct (x : Cf) (H1 : PH) (hx : x.In H1) (hT : TabH H1) (l : List Int) (p : Option Addr) (c : Nat) (hl : Sl H1 p c 1 (iz l)) : Ct Tryd.prog 7 [.agg [.slice x.po x.o.length x.co, .slice x.pn x.n.length x.cn, .slice x.pl x.l.length x.cl].toArray, .slice p l.length c] [H1] (fun v Hs => v = .bool true ∧ Hs = [H1]) := by
  refine Ct.body Tryd.func7 rfl Tryd.ntmps7 rfl ?_
  intro E F
  have hmxl := hl.len_le
  simp only [iz_len, maxLen] at hmxl
  have hsl := setL_len l
  refine W.seq ?_
  refine W.region ?_
  refine RL.e (Eff.box 102 _ rfl rfl) rfl ?_
  rintro _ _ ⟨b2, rfl, rfl⟩
  refine RL.q (Yld.assign rfl) rfl ?_
  refine RL.nil ?_
  refine N.next ?_
  refine W.seq ?_
  refine W.seq ?_
  refine W.region ?_
  refine RL.e (Eff.call ent8 [1] [1] .nil (awake_ct H1 hT) rfl rfl rfl rfl (by rintro _ _ ⟨_, rfl⟩; rfl)) rfl ?_
  rintro _ _ ⟨_, ⟨rfl, rfl⟩, rfl⟩
  refine RL.q (by first | exact Yld.notD rfl | exact Yld.not rfl) rfl ?_
  refine RL.nil ?_
  refine N.next ?_
  first | (refine W.as (t := 9) rfl (boolF (by first | assumption | omega | (simp; done))) ?_; refine W.condF rfl ?_) | refine W.condF rfl ?_
  refine W.skip ?_
  refine N.next ?_
  refine W.keep (.cons (k := 1) rfl (.cons (k := 2) rfl .nil)) (.cons (k := 0) rfl (.cons (k := 1) rfl (.cons (k := 102) rfl .nil))) ?_
  refine W.seq ?_
  refine W.seq ?_
  refine W.region ?_
  refine RL.q (Yld.loadW (c := 102) Tryd.underlying24 rfl sz24 rfl rfl (by first | exact single_self _ _ | exact pset_self _ _ _ | assumption) rfl) rfl ?_
  refine RL.e (Eff.call ent9 [1] [1] (.cons rfl (.cons rfl .nil)) (cfew_ct x H1 hx 5) rfl rfl rfl rfl (by rintro _ _ ⟨_, rfl⟩; rfl)) rfl ?_
  rintro _ _ ⟨_, ⟨rfl, rfl⟩, rfl⟩
  refine RL.q (by first | exact Yld.notD rfl | exact Yld.not rfl) rfl ?_
  refine RL.q (Yld.move rfl) rfl ?_
  refine' RL.or (t := 13) (d := 17) 4 rfl (.cons (k := 1) rfl (.cons (k := 2) rfl (.cons (k := 10) rfl (.cons (k := 11) rfl (.cons (k := 12) rfl .nil))))) (.cons (k := 0) rfl (.cons (k := 1) rfl (.cons (k := 102) rfl .nil))) ?_ ?_ ?_
  rotate_left 1
  ·
    intro hg13
    refine RL.gq rfl rfl (Yld.move rfl) rfl ?_
    refine RL.gq rfl rfl (Yld.lenSl Tryd.underlying22 rfl) rfl ?_
    refine RL.gq rfl rfl (Yld.bin rfl rfl BinV.gtr) rfl ?_
    refine RL.q (by first | exact Yld.pickT rfl rfl | exact Yld.pickF rfl rfl) rfl ?_
    exact RL.nil (N.meet (.cons rfl (.cons rfl (.cons rfl (.cons rfl (.cons rfl (.cons rfl .nil)))))) (.cons rfl (.cons rfl (.cons rfl .nil))))
  ·
    intro hg13
    refine RL.gskip rfl rfl rfl rfl ?_
    refine RL.gskip rfl rfl rfl rfl ?_
    refine RL.gskip rfl rfl rfl rfl ?_
    refine RL.q (by first | exact Yld.pickT rfl rfl | exact Yld.pickF rfl rfl) rfl ?_
    exact RL.nil (N.meet (.cons rfl (.cons rfl (.cons rfl (.cons rfl (.cons rfl (.cons rfl .nil)))))) (.cons rfl (.cons rfl (.cons rfl .nil))))
  refine RL.q (Yld.move rfl) rfl ?_
  refine' RL.or (t := 18) (d := 23) 5 rfl (.cons (k := 1) rfl (.cons (k := 2) rfl (.cons (k := 10) rfl (.cons (k := 11) rfl (.cons (k := 12) rfl (.cons (k := 17) rfl .nil)))))) (.cons (k := 0) rfl (.cons (k := 1) rfl (.cons (k := 102) rfl .nil))) ?_ ?_ ?_
  rotate_left 1
  ·
    intro hg18
    simp only [Bool.or_eq_false_iff, Bool.not_eq_false', decide_eq_true_eq, decide_eq_false_iff_not, Classical.not_not] at hg18
    refine RL.gq rfl rfl (Yld.move rfl) rfl ?_
    refine RL.ge rfl rfl (Eff.call ent21 [1] [1, 150] (.cons rfl .nil) (rset_ct l _ _ _ hl (by omega)) rfl rfl rfl rfl (by rintro _ _ ⟨_, _, _, _, _, rfl⟩; rfl)) rfl ?_
    rintro _ _ ⟨_, ⟨Hr, pr, cr, rfl, hOr, rfl⟩, rfl⟩
    refine RL.gq rfl rfl (Yld.lenSl Tryd.underlying22 rfl) rfl ?_
    refine RL.gq rfl rfl (Yld.bin rfl rfl BinV.eql) rfl ?_
    refine RL.q (by first | exact Yld.pickT rfl rfl | exact Yld.pickF rfl rfl) rfl ?_
    exact RL.nil (N.meet (.cons rfl (.cons rfl (.cons rfl (.cons rfl (.cons rfl (.cons rfl (.cons rfl .nil))))))) (.cons rfl (.cons rfl (.cons rfl .nil))))
  ·
    intro hg18
    refine RL.gskip rfl rfl rfl rfl ?_
    refine RL.gskip rfl rfl rfl rfl ?_
    refine RL.gskip rfl rfl rfl rfl ?_
    refine RL.gskip rfl rfl rfl rfl ?_
    refine RL.q (by first | exact Yld.pickT rfl rfl | exact Yld.pickF rfl rfl) rfl ?_
    exact RL.nil (N.meet (.cons rfl (.cons rfl (.cons rfl (.cons rfl (.cons rfl (.cons rfl (.cons rfl .nil))))))) (.cons rfl (.cons rfl (.cons rfl .nil))))
  refine RL.q (Yld.move rfl) rfl ?_
  refine' RL.or (t := 24) (d := 28) 4 rfl (.cons (k := 1) rfl (.cons (k := 2) rfl (.cons (k := 10) rfl (.cons (k := 11) rfl (.cons (k := 12) rfl (.cons (k := 17) rfl (.cons (k := 23) rfl .nil))))))) (.cons (k := 0) rfl (.cons (k := 1) rfl (.cons (k := 102) rfl .nil))) ?_ ?_ ?_
  rotate_left 1
  ·
    intro hg24
    have hf5 : (x.o.length : Int) ≤ 5 ∧ (x.n.length : Int) ≤ 5 ∧ (x.l.length : Int) ≤ 5 := by
      have h := hg24
      simp only [Bool.or_eq_false_iff, Bool.not_eq_false', decide_eq_true_eq, decide_eq_false_iff_not, Classical.not_not] at h
      exact h.1.1
    refine RL.gq rfl rfl (Yld.loadW (c := 102) Tryd.underlying24 rfl sz24 rfl rfl (by first | exact single_self _ _ | exact pset_self _ _ _ | assumption) rfl) rfl ?_
    refine RL.ge rfl rfl (Eff.call ent14 [1] [1] (.cons rfl .nil) (cvalid_ct x H1 hx (by omega) (by omega) (by omega)) rfl rfl rfl rfl (by rintro _ _ ⟨_, rfl⟩; rfl)) rfl ?_
    rintro _ _ ⟨_, ⟨rfl, rfl⟩, rfl⟩
    refine RL.gq rfl rfl (by first | exact Yld.notD rfl | exact Yld.not rfl) rfl ?_
    refine RL.q (by first | exact Yld.pickT rfl rfl | exact Yld.pickF rfl rfl) rfl ?_
    exact RL.nil (N.meet (.cons rfl (.cons rfl (.cons rfl (.cons rfl (.cons rfl (.cons rfl (.cons rfl (.cons rfl .nil)))))))) (.cons rfl (.cons rfl (.cons rfl .nil))))
  ·
    intro hg24
    refine RL.gskip rfl rfl rfl rfl ?_
    refine RL.gskip rfl rfl rfl rfl ?_
    refine RL.gskip rfl rfl rfl rfl ?_
    refine RL.q (by first | exact Yld.pickT rfl rfl | exact Yld.pickF rfl rfl) rfl ?_
    exact RL.nil (N.meet (.cons rfl (.cons rfl (.cons rfl (.cons rfl (.cons rfl (.cons rfl (.cons rfl (.cons rfl .nil)))))))) (.cons rfl (.cons rfl (.cons rfl .nil))))
  refine RL.nil ?_
  refine N.next ?_
  refine W.keep (.cons (k := 1) rfl (.cons (k := 2) rfl (.cons (k := 28) rfl .nil))) (.cons (k := 0) rfl (.cons (k := 1) rfl (.cons (k := 102) rfl .nil))) ?_
  refine W.cond rfl (fun hc28 => ?_) (fun hc28 => ?_)
  ·
    refine W.seq ?_
    refine W.region ?_
    refine RL.q (Yld.assign rfl) rfl ?_
    refine RL.nil ?_
    refine N.next ?_
    refine W.ret ?_
    refine N.then_ret ?_
    exact N.retBy [1] (.cons (.tmp rfl) .nil) rfl rfl rfl rfl ⟨rfl, rfl⟩
  ·
    simp only [Bool.or_eq_false_iff, Bool.not_eq_false', decide_eq_true_eq, decide_eq_false_iff_not, Classical.not_not] at hc28
    have hf5 := hc28.1.1.1
    have hok := hc28.2
    have hvx := setL_len (x.o ++ x.n)
    rw [List.length_append] at hvx
    refine W.skip ?_
    refine N.next ?_
    refine W.seq ?_
    refine W.region ?_
    refine RL.q (Yld.loadW (c := 102) Tryd.underlying24 rfl sz24 rfl rfl (by first | exact single_self _ _ | exact pset_self _ _ _ | assumption) rfl) rfl ?_
    refine RL.e (Eff.call ent24 [1] [1, 160] (.cons rfl .nil) (cfinal_ct x H1 hx (by omega) (by omega) (by omega)) rfl rfl rfl rfl (by rintro _ _ ⟨_, _, _, _, _, _, _, rfl⟩; rfl)) rfl ?_
    rintro _ _ ⟨_, ⟨s, Hf, rfl, hs, s1, s2, s3, rfl⟩, rfl⟩
    have hsok := final_ok hok s1 s2 s3
    have hso5 : s.o.length ≤ 5 := by rw [s1]; split <;> omega
    have hsn0 : s.n.length = 0 := by rw [s2]; rfl
    have hsl5 : s.l.length ≤ 5 := by rw [s3]; omega
    have hvs := setL_len (s.o ++ s.n)
    rw [List.length_append] at hvs
    have hov1 := ovl_share hok.1 hok.2.1 hok.1 hok.2.1 x.o (fun r h => quor_old h) (fun r h => quor_old h)
    have hov2 : ovl x.o x.n s.o s.n = true := ovl_share hok.1 hok.2.1 hsok.1 hsok.2.1 s.o (fun r h => by rw [s1]; split; exact quor_old h; rename_i hn0; exact quor_new h hn0) (fun r h => quor_old h)
    have hov3 := ovl_share hsok.1 hsok.2.1 hsok.1 hsok.2.1 s.o (fun r h => quor_old h) (fun r h => quor_old h)
    refine RL.e (Eff.alloc 105 zc24) rfl ?_
    rintro _ _ ⟨b5, rfl, rfl⟩
    refine RL.e0 (Eff.storeS (c := 105) _ sz24 rfl rfl rfl rfl rfl rfl rfl (by (try simp only [putAt, List.take, List.drop, List.nil_append, List.cons_append, List.append_nil, List.length_cons, List.length_nil, Nat.add_zero, Nat.zero_add, Nat.reduceAdd]); rfl)) ?_
    rintro _ _ rfl
    refine RL.nil ?_
    refine N.next ?_
    refine W.seq ?_
    refine W.seq ?_
    refine W.region ?_
    refine RL.q (Yld.loadW (c := 105) Tryd.underlying24 rfl sz24 rfl rfl (by first | exact single_self _ _ | exact pset_self _ _ _ | assumption) rfl) rfl ?_
    refine RL.e (Eff.call ent14 [160] [160] (.cons rfl .nil) (cvalid_ct s Hf hs (by omega) (by omega) (by omega)) rfl rfl rfl rfl (by rintro _ _ ⟨_, rfl⟩; rfl)) rfl ?_
    rintro _ _ ⟨_, ⟨rfl, rfl⟩, rfl⟩
    refine RL.q (Yld.eq (v' := .bool false) (by first | exact Yld.notD rfl | exact Yld.not rfl) (by simp [hsok])) rfl ?_
    refine RL.q (Yld.move rfl) rfl ?_
    first | refine RL.as (t := 34) rfl (boolF (by first | assumption | omega | (simp; done))) ?_ | refine RL.as (t := 34) (v := .bool false) rfl rfl ?_
    refine RL.gq rfl rfl (Yld.loadW (c := 102) Tryd.underlying24 rfl sz24 rfl rfl (by first | exact single_self _ _ | exact pset_self _ _ _ | assumption) rfl) rfl ?_
    refine RL.gq rfl rfl (Yld.loadW (c := 102) Tryd.underlying24 rfl sz24 rfl rfl (by first | exact single_self _ _ | exact pset_self _ _ _ | assumption) rfl) rfl ?_
    refine RL.ge rfl rfl (Eff.call ent22 [1] [1] (.cons rfl (.cons rfl .nil)) (overlapS_ct x x H1 hx hx (by omega) (by omega) (by omega) (by omega) (by omega)) rfl rfl rfl rfl (by rintro _ _ ⟨_, rfl⟩; rfl)) rfl ?_
    rintro _ _ ⟨_, ⟨rfl, rfl⟩, rfl⟩
    rw [hov1]
    refine RL.gq rfl rfl (Yld.eq (v' := .bool false) (by first | exact Yld.notD rfl | exact Yld.not rfl) (by rfl)) rfl ?_
    refine RL.q (by first | exact Yld.pickT rfl rfl | exact Yld.pickF rfl rfl) rfl ?_
    refine RL.q (Yld.move rfl) rfl ?_
    first | refine RL.as (t := 40) rfl (boolF (by first | assumption | omega | (simp; done))) ?_ | refine RL.as (t := 40) (v := .bool false) rfl rfl ?_
    refine RL.gq rfl rfl (Yld.loadW (c := 102) Tryd.underlying24 rfl sz24 rfl rfl (by first | exact single_self _ _ | exact pset_self _ _ _ | assumption) rfl) rfl ?_
    refine RL.gq rfl rfl (Yld.loadW (c := 105) Tryd.underlying24 rfl sz24 rfl rfl (by first | exact single_self _ _ | exact pset_self _ _ _ | assumption) rfl) rfl ?_
    refine RL.ge rfl rfl (Eff.call ent22 [1, 160] [1, 160] (.cons rfl (.cons rfl .nil)) (overlapD_ct x s H1 Hf hx hs (by omega) (by omega) (by omega) (by omega) (by omega)) rfl rfl rfl rfl (by rintro _ _ ⟨_, rfl⟩; rfl)) rfl ?_
    rintro _ _ ⟨_, ⟨rfl, rfl⟩, rfl⟩
    rw [hov2]
    refine RL.gq rfl rfl (Yld.eq (v' := .bool false) (by first | exact Yld.notD rfl | exact Yld.not rfl) (by rfl)) rfl ?_
    refine RL.q (by first | exact Yld.pickT rfl rfl | exact Yld.pickF rfl rfl) rfl ?_
    refine RL.q (Yld.move rfl) rfl ?_
    first | refine RL.as (t := 46) rfl (boolF (by first | assumption | omega | (simp; done))) ?_ | refine RL.as (t := 46) (v := .bool false) rfl rfl ?_
    refine RL.gq rfl rfl (Yld.loadW (c := 105) Tryd.underlying24 rfl sz24 rfl rfl (by first | exact single_self _ _ | exact pset_self _ _ _ | assumption) rfl) rfl ?_
    refine RL.gq rfl rfl (Yld.loadW (c := 105) Tryd.underlying24 rfl sz24 rfl rfl (by first | exact single_self _ _ | exact pset_self _ _ _ | assumption) rfl) rfl ?_
    refine RL.ge rfl rfl (Eff.call ent22 [160] [160] (.cons rfl (.cons rfl .nil)) (overlapS_ct s s Hf hs hs (by omega) (by omega) (by omega) (by omega) (by omega)) rfl rfl rfl rfl (by rintro _ _ ⟨_, rfl⟩; rfl)) rfl ?_
    rintro _ _ ⟨_, ⟨rfl, rfl⟩, rfl⟩
    rw [hov3]
    refine RL.gq rfl rfl (Yld.eq (v' := .bool false) (by first | exact Yld.notD rfl | exact Yld.not rfl) (by rfl)) rfl ?_
    refine RL.q (by first | exact Yld.pickT rfl rfl | exact Yld.pickF rfl rfl) rfl ?_
    refine RL.nil ?_
    refine N.next ?_
    refine W.keep (.cons (k := 1) rfl (.cons (k := 5) rfl (.cons (k := 51) rfl .nil))) (.cons (k := 0) rfl (.cons (k := 1) rfl (.cons (k := 102) rfl (.cons (k := 105) rfl (.cons (k := 160) rfl .nil))))) ?_
    first | (refine W.as (t := 51) rfl (boolF (by first | assumption | omega | (simp; done))) ?_; refine W.condF rfl ?_) | refine W.condF rfl ?_
    refine W.skip ?_
    refine N.next ?_
    refine W.seq ?_
    refine W.region ?_
    refine RL.q (Yld.loadW (c := 105) Tryd.underlying24 rfl sz24 rfl rfl (by first | exact single_self _ _ | exact pset_self _ _ _ | assumption) rfl) rfl ?_
    refine RL.q (Yld.move rfl) rfl ?_
    refine RL.e (Eff.call ent25 [160, 1] [160, 1, 161] (.cons rfl (.cons rfl .nil)) (cjoint_ct s Hf hs (by omega) (by omega) (by omega) l _ _ _ hl (by omega)) rfl rfl rfl rfl (by rintro _ _ ⟨_, _, _, _, _, _, _, rfl⟩; rfl)) rfl ?_
    rintro _ _ ⟨_, ⟨j, Hj, rfl, hj, j1, j2, j3, rfl⟩, rfl⟩
    have hjk := joint_ok hsok s2 j1 j2 j3
    have hjo5 : j.o.length ≤ 5 := by rw [j1]; exact hso5
    have hjn5 : j.n.length ≤ 5 := by rw [j2]; omega
    have hjl5 : j.l.length ≤ 5 := by rw [j3]; exact Nat.le_trans minus_len hsl5
    have hvj := setL_len (j.o ++ j.n)
    rw [List.length_append] at hvj
    
    refine RL.e (Eff.alloc 106 zc24) rfl ?_
    rintro _ _ ⟨b6, rfl, rfl⟩
    refine RL.e0 (Eff.storeS (c := 106) _ sz24 rfl rfl rfl rfl rfl rfl rfl (by (try simp only [putAt, List.take, List.drop, List.nil_append, List.cons_append, List.append_nil, List.length_cons, List.length_nil, Nat.add_zero, Nat.zero_add, Nat.reduceAdd]); rfl)) ?_
    rintro _ _ rfl
    refine RL.nil ?_
    refine N.next ?_
    refine W.keep (.cons (k := 1) rfl (.cons (k := 5) rfl (.cons (k := 6) rfl .nil))) (.cons (k := 0) rfl (.cons (k := 1) rfl (.cons (k := 102) rfl (.cons (k := 105) rfl (.cons (k := 106) rfl (.cons (k := 160) rfl (.cons (k := 161) rfl .nil))))))) ?_
    refine W.seq ?_
    refine W.seq ?_
    refine W.region ?_
    refine RL.q (Yld.loadW (c := 106) Tryd.underlying24 rfl sz24 rfl rfl (by first | exact single_self _ _ | exact pset_self _ _ _ | assumption) rfl) rfl ?_
    refine RL.e (Eff.call ent14 [161] [161] (.cons rfl .nil) (cvalid_ct j Hj hj (by omega) (by omega) (by omega)) rfl rfl rfl rfl (by rintro _ _ ⟨_, rfl⟩; rfl)) rfl ?_
    rintro _ _ ⟨_, ⟨rfl, rfl⟩, rfl⟩
    refine RL.q (by first | exact Yld.notD rfl | exact Yld.not rfl) rfl ?_
    refine RL.nil ?_
    refine N.next ?_
    refine W.condD rfl (fun hc57 => ?_) (fun hc57 => ?_)
    ·
      have hse : setL l = s.o := by
        apply Classical.byContradiction
        intro hne
        exact hc57 (hjk.2 (fun e => hne e.symm))
      refine W.seq ?_
      refine W.draw (.q 0 (.q 2 (.q 3 (.one 1 (.one 4 (.q 5 .done)))))) (.cons (k := 0) rfl (.cons (k := 102) rfl (.cons (k := 105) rfl (.cons (k := 106) rfl (.cons (k := 161) rfl .nil))))) mix (by kernel_rfl) (by kernel_rfl) ?_
      refine DL.q rfl (Yld.move rfl) rfl ?_
      refine DL.q rfl (Yld.fieldAddr fo24_0 rfl) rfl ?_
      refine DL.q rfl (Yld.load1 (c := 105) Tryd.underlying22 rfl rfl rfl (by first | exact single_self _ _ | exact pset_self _ _ _ | assumption) rfl) rfl ?_
      refine DL.one rfl (Eff.call ent21 [1] [1, 151] (.cons rfl .nil) (rset_ct l _ _ _ hl (by omega)) rfl rfl rfl rfl (by rintro _ _ ⟨_, _, _, _, _, rfl⟩; rfl)) rfl (by rintro _ _ ⟨_, ⟨Hr, pr, cr, rfl, hOr, rfl⟩, rfl⟩; repeat (first | exact .nil | refine .cons rfl ?_)) ?_
      rintro _ _ ⟨_, ⟨Hr, pr, cr, rfl, hOr, rfl⟩, rfl⟩
      refine DL.one rfl (Eff.call ent26 [151, 160] [151, 160] (.cons rfl (.cons rfl .nil)) (ints_ct (setL l) _ _ _ hOr.sl s.o _ _ _ hs.1) rfl rfl rfl rfl (by rintro _ _ ⟨_, rfl⟩; rfl)) rfl (by rintro _ _ ⟨_, ⟨rfl, rfl⟩, rfl⟩; repeat (first | exact .nil | refine .cons rfl ?_)) ?_
      rintro _ _ ⟨_, ⟨rfl, rfl⟩, rfl⟩
      refine DL.q rfl (Yld.assign rfl) rfl ?_
      refine DL.done ?_
      refine N.next ?_
      refine W.keep (.cons (k := 4) rfl .nil) (.cons (k := 0) rfl (.cons (k := 1) rfl (.cons (k := 102) rfl (.cons (k := 105) rfl (.cons (k := 106) rfl (.cons (k := 151) rfl (.cons (k := 160) rfl (.cons (k := 161) rfl .nil)))))))) ?_
      refine W.ret ?_
      refine N.then_ret ?_
      exact N.retBy [1] (.cons (.tmp rfl) .nil) rfl rfl rfl rfl ⟨by rw [decide_eq_true hse]; rfl, rfl⟩
    ·
      have hjok : j.Ok := Classical.not_not.1 hc57
      refine W.skip ?_
      refine N.next ?_
      refine W.seq ?_
      refine W.region ?_
      refine RL.q (Yld.loadW (c := 106) Tryd.underlying24 rfl sz24 rfl rfl (by first | exact single_self _ _ | exact pset_self _ _ _ | assumption) rfl) rfl ?_
      refine RL.e (Eff.call ent24 [161] [161, 162] (.cons rfl .nil) (cfinal_ct j Hj hj (by omega) (by omega) (by omega)) rfl rfl rfl rfl (by rintro _ _ ⟨_, _, _, _, _, _, _, rfl⟩; rfl)) rfl ?_
      rintro _ _ ⟨_, ⟨f, Hk, rfl, hf, f1, f2, f3, rfl⟩, rfl⟩
      have hfok := final_ok hjok f1 f2 f3
      have hjn0 : j.n.length ≠ 0 := by rw [j2]; omega
      have hfo : f.o = j.n := by rw [f1, if_neg hjn0]
      have hfo5 : f.o.length ≤ 5 := by rw [hfo]; exact hjn5
      have hfn0 : f.n.length = 0 := by rw [f2]; rfl
      have hfl5 : f.l.length ≤ 5 := by rw [f3]; exact hjl5
      have hvf := setL_len (f.o ++ f.n)
      rw [List.length_append] at hvf
      have hov4 := ovl_share hsok.1 hsok.2.1 hjok.1 hjok.2.1 s.o (fun r h => quor_old h) (fun r h => by rw [← j1]; exact quor_old h)
      have hov5 := ovl_share hjok.1 hjok.2.1 hfok.1 hfok.2.1 j.n (fun r h => quor_new h hjn0) (fun r h => by rw [← hfo]; exact quor_old h)
      have hov6 := ovl_share hjok.1 hjok.2.1 hjok.1 hjok.2.1 j.o (fun r h => quor_old h) (fun r h => quor_old h)
      refine RL.e (Eff.alloc 107 zc24) rfl ?_
      rintro _ _ ⟨b7, rfl, rfl⟩
      refine RL.e0 (Eff.storeS (c := 107) _ sz24 rfl rfl rfl rfl rfl rfl rfl (by (try simp only [putAt, List.take, List.drop, List.nil_append, List.cons_append, List.append_nil, List.length_cons, List.length_nil, Nat.add_zero, Nat.zero_add, Nat.reduceAdd]); rfl)) ?_
      rintro _ _ rfl
      refine RL.nil ?_
      refine N.next ?_
      refine W.keep (.cons (k := 1) rfl (.cons (k := 5) rfl (.cons (k := 6) rfl (.cons (k := 7) rfl .nil)))) (.cons (k := 0) rfl (.cons (k := 1) rfl (.cons (k := 102) rfl (.cons (k := 105) rfl (.cons (k := 106) rfl (.cons (k := 107) rfl (.cons (k := 160) rfl (.cons (k := 161) rfl (.cons (k := 162) rfl .nil))))))))) ?_
      refine W.seq ?_
      refine W.draw (.q 0 (.q 1 (.one 2 (.q 3 (.q 4 (.q 5 (.one 6 (.q 7 (.q 8 (.q 9 (.q 10 (.one 11 (.q 12 (.q 13 (.q 14 (.one 15 (.q 16 (.q 17 (.q 18 (.q 19 (.q 20 (.one 21 (.one 22 (.q 23 (.q 24 .done))))))))))))))))))))))))) (.cons (k := 0) rfl (.cons (k := 102) rfl (.cons (k := 105) rfl (.cons (k := 106) rfl (.cons (k := 107) rfl .nil))))) mix (by kernel_rfl) (by kernel_rfl) ?_
      refine DL.q rfl (Yld.loadW (c := 105) Tryd.underlying24 rfl sz24 rfl rfl (by first | exact single_self _ _ | exact pset_self _ _ _ | assumption) rfl) rfl ?_
      refine DL.q rfl (Yld.loadW (c := 106) Tryd.underlying24 rfl sz24 rfl rfl (by first | exact single_self _ _ | exact pset_self _ _ _ | assumption) rfl) rfl ?_
      refine DL.one rfl (Eff.call ent22 [160, 161] [160, 161] (.cons rfl (.cons rfl .nil)) (overlapD_ct s j Hf Hj hs hj (by omega) (by omega) (by omega) (by omega) (by omega)) rfl rfl rfl rfl (by rintro _ _ ⟨_, rfl⟩; rfl)) rfl (by rintro _ _ ⟨_, ⟨rfl, rfl⟩, rfl⟩; repeat (first | exact .nil | refine .cons rfl ?_)) ?_
      rintro _ _ ⟨_, ⟨rfl, rfl⟩, rfl⟩
      rw [hov4]
      refine DL.q rfl (Yld.move rfl) rfl ?_
      first | refine DL.as (t := 68) rfl (boolT (by first | assumption | omega | (simp; done))) ?_ | refine DL.as (t := 68) (v := .bool true) rfl rfl ?_
      refine DL.gq rfl rfl rfl (Yld.loadW (c := 106) Tryd.underlying24 rfl sz24 rfl rfl (by first | exact single_self _ _ | exact pset_self _ _ _ | assumption) rfl) rfl ?_
      refine DL.gq rfl rfl rfl (Yld.loadW (c := 107) Tryd.underlying24 rfl sz24 rfl rfl (by first | exact single_self _ _ | exact pset_self _ _ _ | assumption) rfl) rfl ?_
      refine DL.gone rfl rfl rfl (Eff.call ent22 [161, 162] [161, 162] (.cons rfl (.cons rfl .nil)) (overlapD_ct j f Hj Hk hj hf (by omega) (by omega) (by omega) (by omega) (by omega)) rfl rfl rfl rfl (by rintro _ _ ⟨_, rfl⟩; rfl)) rfl (by rintro _ _ ⟨_, ⟨rfl, rfl⟩, rfl⟩; repeat (first | exact .nil | refine .cons rfl ?_)) ?_
      rintro _ _ ⟨_, ⟨rfl, rfl⟩, rfl⟩
      rw [hov5]
      refine DL.q rfl (by first | exact Yld.pickT rfl rfl | exact Yld.pickF rfl rfl) rfl ?_
      refine DL.q rfl (Yld.move rfl) rfl ?_
      first | refine DL.as (t := 73) rfl (boolT (by first | assumption | omega | (simp; done))) ?_ | refine DL.as (t := 73) (v := .bool true) rfl rfl ?_
      refine DL.gq rfl rfl rfl (Yld.loadW (c := 106) Tryd.underlying24 rfl sz24 rfl rfl (by first | exact single_self _ _ | exact pset_self _ _ _ | assumption) rfl) rfl ?_
      refine DL.gq rfl rfl rfl (Yld.loadW (c := 106) Tryd.underlying24 rfl sz24 rfl rfl (by first | exact single_self _ _ | exact pset_self _ _ _ | assumption) rfl) rfl ?_
      refine DL.gone rfl rfl rfl (Eff.call ent22 [161] [161] (.cons rfl (.cons rfl .nil)) (overlapS_ct j j Hj hj hj (by omega) (by omega) (by omega) (by omega) (by omega)) rfl rfl rfl rfl (by rintro _ _ ⟨_, rfl⟩; rfl)) rfl (by rintro _ _ ⟨_, ⟨rfl, rfl⟩, rfl⟩; repeat (first | exact .nil | refine .cons rfl ?_)) ?_
      rintro _ _ ⟨_, ⟨rfl, rfl⟩, rfl⟩
      rw [hov6]
      refine DL.q rfl (by first | exact Yld.pickT rfl rfl | exact Yld.pickF rfl rfl) rfl ?_
      refine DL.q rfl (Yld.move rfl) rfl ?_
      first | refine DL.as (t := 78) rfl (boolT (by first | assumption | omega | (simp; done))) ?_ | refine DL.as (t := 78) (v := .bool true) rfl rfl ?_
      refine DL.gq rfl rfl rfl (Yld.loadW (c := 107) Tryd.underlying24 rfl sz24 rfl rfl (by first | exact single_self _ _ | exact pset_self _ _ _ | assumption) rfl) rfl ?_
      refine DL.gone rfl rfl rfl (Eff.call ent14 [162] [162] (.cons rfl .nil) (cvalid_ct f Hk hf (by omega) (by omega) (by omega)) rfl rfl rfl rfl (by rintro _ _ ⟨_, rfl⟩; rfl)) rfl (by rintro _ _ ⟨_, ⟨rfl, rfl⟩, rfl⟩; repeat (first | exact .nil | refine .cons rfl ?_)) ?_
      rintro _ _ ⟨_, ⟨rfl, rfl⟩, rfl⟩
      refine DL.q rfl (by first | exact Yld.pickT rfl rfl | exact Yld.pickF rfl rfl) rfl ?_
      refine DL.q rfl (Yld.move rfl) rfl ?_
      first | refine DL.as (t := 82) rfl (boolT (by first | assumption | omega | (simp; done))) ?_ | refine DL.as (t := 82) (v := .bool true) rfl rfl ?_
      refine DL.gq rfl rfl rfl (Yld.fieldAddr fo24_0 rfl) rfl ?_
      refine DL.gq rfl rfl rfl (Yld.load1 (c := 107) Tryd.underlying22 rfl rfl rfl (by first | exact single_self _ _ | exact pset_self _ _ _ | assumption) rfl) rfl ?_
      refine DL.gq rfl rfl rfl (Yld.move rfl) rfl ?_
      refine DL.gone rfl rfl rfl (Eff.call ent21 [1] [1, 152] (.cons rfl .nil) (rset_ct l _ _ _ hl (by omega)) rfl rfl rfl rfl (by rintro _ _ ⟨_, _, _, _, _, rfl⟩; rfl)) rfl (by rintro _ _ ⟨_, ⟨Hr, pr, cr, rfl, hOr, rfl⟩, rfl⟩; repeat (first | exact .nil | refine .cons rfl ?_)) ?_
      rintro _ _ ⟨_, ⟨Hr, pr, cr, rfl, hOr, rfl⟩, rfl⟩
      refine DL.gone rfl rfl rfl (Eff.call ent26 [162, 152] [162, 152] (.cons rfl (.cons rfl .nil)) (ints_ct f.o _ _ _ hf.1 (setL l) _ _ _ hOr.sl) rfl rfl rfl rfl (by rintro _ _ ⟨_, rfl⟩; rfl)) rfl (by rintro _ _ ⟨_, ⟨rfl, rfl⟩, rfl⟩; repeat (first | exact .nil | refine .cons rfl ?_)) ?_
      rintro _ _ ⟨_, ⟨rfl, rfl⟩, rfl⟩
      refine DL.q rfl (by first | exact Yld.pickT rfl rfl | exact Yld.pickF rfl rfl) rfl ?_
      refine DL.q rfl (Yld.assign rfl) rfl ?_
      refine DL.done ?_
      refine N.next ?_
      refine W.keep (.cons (k := 4) rfl .nil) (.cons (k := 0) rfl (.cons (k := 1) rfl (.cons (k := 102) rfl (.cons (k := 105) rfl (.cons (k := 106) rfl (.cons (k := 107) rfl (.cons (k := 152) rfl (.cons (k := 160) rfl (.cons (k := 161) rfl (.cons (k := 162) rfl .nil)))))))))) ?_
      refine W.ret ?_
      exact N.retBy [1] (.cons (.tmp rfl) .nil) rfl rfl rfl rfl ⟨by rw [decide_eq_true (hfo.trans j2)]; rfl, rfl⟩

end Go.Proofs.YtiedcjebkkdneaaDoor
