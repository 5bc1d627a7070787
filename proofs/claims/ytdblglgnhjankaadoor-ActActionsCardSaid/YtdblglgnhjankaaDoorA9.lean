/- Target, Reached. Written by program (walk2.py). -/
import Derived.Test.YtdblglgnhjankaaDoorA8
namespace Go.Proofs.YtdblglgnhjankaaDoor
open SL Cfg
set_option linter.unusedVariables false
set_option linter.unusedSimpArgs false
theorem ent45 : Ent Tryd.prog 45 := ⟨_, _, Tryd.func45, by kernel_rfl, rfl⟩
theorem ent44 : Ent Tryd.prog 44 := ⟨_, _, Tryd.func44, by kernel_rfl, rfl⟩
theorem ent43 : Ent Tryd.prog 43 := ⟨_, _, Tryd.func43, by kernel_rfl, rfl⟩
theorem ent46 : Ent Tryd.prog 46 := ⟨_, _, Tryd.func46, by kernel_rfl, rfl⟩
theorem ent47 : Ent Tryd.prog 47 := ⟨_, _, Tryd.func47, by kernel_rfl, rfl⟩
theorem ent52 : Ent Tryd.prog 52 := ⟨_, _, Tryd.func52, by kernel_rfl, rfl⟩
theorem ent53 : Ent Tryd.prog 53 := ⟨_, _, Tryd.func53, by kernel_rfl, rfl⟩
theorem ent50 : Ent Tryd.prog 50 := ⟨_, _, Tryd.func50, by kernel_rfl, rfl⟩
theorem ent51 : Ent Tryd.prog 51 := ⟨_, _, Tryd.func51, by kernel_rfl, rfl⟩
theorem sz61 : sz Tryd.prog 61 15 := (by kernel_rfl : (Tryd.prog.info? 61).map (·.size) = some 15)
theorem ent49 : Ent Tryd.prog 49 := ⟨_, _, Tryd.func49, by kernel_rfl, rfl⟩
theorem fo61_9 : fieldOff Tryd.prog 61 9 = some 11 := by kernel_rfl
theorem sz59 : sz Tryd.prog 59 3 := (by kernel_rfl : (Tryd.prog.info? 59).map (·.size) = some 3)
theorem zc59 : zc Tryd.prog 59 [.slice none 0 0, .slice none 0 0, .slice none 0 0] := (by kernel_rfl : ((Tryd.prog.info? 59).bind (·.zero)).map (fun v => v.cells.toList) = some [.slice none 0 0, .slice none 0 0, .slice none 0 0])
theorem fo61_10 : fieldOff Tryd.prog 61 10 = some 14 := by kernel_rfl
theorem zc54 : zc Tryd.prog 54 [.slice none 0 0] := (by kernel_rfl : ((Tryd.prog.info? 54).bind (·.zero)).map (fun v => v.cells.toList) = some [.slice none 0 0])
theorem fo59_2 : fieldOff Tryd.prog 59 2 = some 2 := by kernel_rfl
theorem fo59_0 : fieldOff Tryd.prog 59 0 = some 0 := by kernel_rfl
theorem fo59_1 : fieldOff Tryd.prog 59 1 = some 1 := by kernel_rfl
theorem ent54 : Ent Tryd.prog 54 := ⟨_, _, Tryd.func54, by kernel_rfl, rfl⟩
def Cfg.flL (l : List Int) (f : Int) : List Int := l.filter fun z => !decide (z.tmod 100 = f)
def Cfg.tgL (l : List Int) (f t : Int) : List Int := cpt (srt (flL l f ++ [t]))
theorem Cfg.flL_len (l : List Int) (f : Int) : (flL l f).length ≤ l.length := List.length_filter_le _ _
theorem Cfg.tgL_len (l : List Int) (f t : Int) : (tgL l f t).length ≤ l.length + 1 := by
  unfold tgL
  refine Nat.le_trans (cpt_len _) ?_
  rw [srt_len, List.length_append]
  have := flL_len l f
  simp; omega

set_option maxRecDepth 100000 in
set_option maxHeartbeats 1600000 in
theorem target_ct (l : List Int) (H1 : PH) (p : Option Addr) (c : Nat) (hl : Sl H1 p c 1 (iz l)) (hb : l.length ≤ 100000) (f t : Int) : Ct Tryd.prog 19 [.slice p l.length c, .int .i64 f, .int .i64 t] [H1] (fun v Hs => ∃ H' p' c', v = .slice p' (tgL l f t).length c' ∧ Own H' p' c' 3 1 (iz (tgL l f t)) ∧ Hs = [H1, H']) := by
  refine Ct.body Tryd.func19 rfl Tryd.ntmps19 rfl ?_
  intro E F
  have hmxl := hl.len_le
  simp only [iz_len, maxLen] at hmxl
  have hfl := flL_len l f
  refine W.seq ?_
  refine W.region ?_
  refine RL.e (Eff.box 104 _ rfl rfl) rfl ?_
  rintro _ _ ⟨b4, rfl, rfl⟩
  refine RL.q (Yld.assign rfl) rfl ?_
  refine RL.nil ?_
  refine N.next ?_
  refine W.seq ?_
  refine W.region ?_
  refine RL.q (Yld.move rfl) rfl ?_
  refine RL.e (Eff.call ent44 [1] [1, 130] (.cons rfl .nil) (cloneI_ct l _ _ _ hl (by omega)) rfl rfl rfl rfl (by rintro _ _ ⟨_, _, _, _, _, rfl⟩; rfl)) rfl ?_
  rintro _ _ ⟨_, ⟨Hc, pc, cc, rfl, hOc, rfl⟩, rfl⟩
  refine RL.q (Yld.makeFunc eval0 (eval1 rfl)) rfl ?_
  refine RL.e (Eff.call ent43 [130, 104] [130, 104] (.cons rfl (.cons rfl .nil)) (deleteFunc1_ct l _ _ _ hOc 45 [.pointer (some ⟨b4, 0, none⟩)] _ (fun z => decide (z.tmod 100 = f)) ent45 (fun z => tgC_ct b4 f z)) rfl rfl rfl rfl (by rintro _ _ ⟨_, _, _, rfl⟩; rfl)) rfl ?_
  rintro _ _ ⟨_, ⟨Hd, rfl, hOd, rfl⟩, rfl⟩
  have hOd : Own Hd pc cc 3 1 (iz (flL l f)) := hOd
  refine RL.q (Yld.assign rfl) rfl ?_
  refine RL.nil ?_
  refine N.next ?_
  refine W.keep (.cons (k := 2) rfl (.cons (k := 7) rfl .nil)) (.cons (k := 0) rfl (.cons (k := 1) rfl (.cons (k := 104) rfl (.cons (k := 130) rfl .nil)))) ?_
  refine W.seq ?_
  refine W.region ?_
  refine RL.q (Yld.move rfl) rfl ?_
  refine RL.q (Yld.move rfl) rfl ?_
  refine RL.e (Eff.buildSlice 114 Tryd.underlying54 sz3 zc3 rfl rfl (.cons rfl rfl .nil) rfl) rfl ?_
  rintro _ _ ⟨b14, rfl, rfl⟩
  refine RL.e (Eff.appendE (tc := 130) (sc := 114) (fun z : Int => [Value.int .i64 z]) Tryd.underlying54 el3 rfl rfl rfl rfl hOd rfl (iz_single rfl) rfl (iz_one1 _) (by decide) (by first | (simp; done) | (simp; omega)) (by first | (simp [maxLen]; done) | (simp [maxLen]; omega))) rfl ?_
  rintro _ _ ⟨Ha, pa, ca, rfl, hOa, rfl⟩
  refine RL.q (Yld.assign rfl) rfl ?_
  refine RL.nil ?_
  refine N.next ?_
  refine W.keep (.cons (k := 7) rfl .nil) (.cons (k := 0) rfl (.cons (k := 1) rfl (.cons (k := 104) rfl (.cons (k := 114) rfl (.cons (k := 130) rfl .nil))))) ?_
  refine W.seq ?_
  refine W.region ?_
  refine RL.q (Yld.move rfl) rfl ?_
  refine RL.e (Eff.call ent46 [130] [130] (.cons rfl .nil) (sort_ct (flL l f ++ [t]) _ _ _ (show Own Ha pa ca 3 1 (iz (flL l f ++ [t])) from hOa) (by simp; omega)) rfl rfl rfl rfl (by rintro _ _ ⟨_, _, _, rfl⟩; rfl)) rfl ?_
  rintro _ _ ⟨_, ⟨rfl, Hs, hOs, rfl⟩, rfl⟩
  refine RL.nil ?_
  refine N.next ?_
  refine W.seq ?_
  refine W.region ?_
  refine RL.q (Yld.move rfl) rfl ?_
  refine RL.e (Eff.call ent47 [130] [130] (.cons rfl .nil) (compact_ct (srt (flL l f ++ [t])) _ _ _ _ (by rw [srt_len]) hOs) rfl rfl rfl rfl (by rintro _ _ ⟨_, _, _, rfl⟩; rfl)) rfl ?_
  rintro _ _ ⟨_, ⟨Hk, rfl, hOk, rfl⟩, rfl⟩
  refine RL.q (Yld.assign rfl) rfl ?_
  refine RL.nil ?_
  refine N.next ?_
  refine W.keep (.cons (k := 6) rfl .nil) (.cons (k := 0) rfl (.cons (k := 1) rfl (.cons (k := 104) rfl (.cons (k := 114) rfl (.cons (k := 130) rfl .nil))))) ?_
  refine W.ret ?_
  exact N.retBy [1, 130] (.cons (.tmp rfl) .nil) rfl rfl rfl rfl ⟨_, _, _, rfl, hOk, rfl⟩

set_option maxRecDepth 100000 in
set_option maxHeartbeats 400000 in
theorem rcC_ct (b : Nat) (a : Ac) (l : List Int) (H1 : PH) (p : Option Addr) (c : Nat) (hl : Sl H1 p c 1 (iz l)) : Ct Tryd.prog 52 [.slice p l.length c, .pointer (some ⟨b, 0, none⟩)] [H1, single b (.cells [.int .i64 a.k, .int .i64 a.m, .int .i64 a.g, .int .i64 a.c, .int .i64 a.r, .int .i64 a.uk, .int .i64 a.ui, .int .i64 a.ur, .int .i64 a.uv].toArray 44 (0, 0))] (fun v Hs => v = .bool (decide (a.r ∈ l)) ∧ Hs = [H1, single b (.cells [.int .i64 a.k, .int .i64 a.m, .int .i64 a.g, .int .i64 a.c, .int .i64 a.r, .int .i64 a.uk, .int .i64 a.ui, .int .i64 a.ur, .int .i64 a.uv].toArray 44 (0, 0))]) := by
  refine Ct.body Tryd.func52 rfl Tryd.ntmps52 rfl ?_
  intro E F
  refine W.seq ?_
  refine W.region ?_
  refine RL.q (Yld.assign rfl) rfl ?_
  refine RL.nil ?_
  refine N.next ?_
  refine W.seq ?_
  refine W.region ?_
  refine RL.q (Yld.move rfl) rfl ?_
  refine RL.q (Yld.fieldAddr fo44_4 rfl) rfl ?_
  refine RL.q (Yld.load1 (c := 2) Tryd.underlying3 rfl rfl rfl (by first | exact single_self _ _ | exact pset_self _ _ _ | assumption) rfl) rfl ?_
  refine RL.e (Eff.call ent53 [1] [1] (.cons rfl (.cons rfl .nil)) (contains_ct l _ _ _ hl a.r) rfl rfl rfl rfl (by rintro _ _ ⟨_, rfl⟩; rfl)) rfl ?_
  rintro _ _ ⟨_, ⟨rfl, rfl⟩, rfl⟩
  refine RL.q (Yld.assign rfl) rfl ?_
  refine RL.nil ?_
  refine N.next ?_
  refine W.keep (.cons (k := 3) rfl .nil) (.cons (k := 0) rfl (.cons (k := 1) rfl (.cons (k := 2) rfl .nil))) ?_
  refine W.ret ?_
  exact N.retBy [1, 2] (.cons (.tmp rfl) .nil) rfl rfl rfl rfl ⟨rfl, rfl⟩

set_option maxRecDepth 100000 in
set_option maxHeartbeats 400000 in
theorem rc_ct (b : Nat) (a : Ac) (ss : List (Option Addr × Nat × List Int)) (G H1 : PH) (p : Option Addr) (d : Nat) (hG : Sl G p d 1 (ss.map SV)) (hH : ∀ s ∈ ss, Sl H1 s.1 s.2.1 1 (iz s.2.2)) : Ct Tryd.prog 50 [.slice p ss.length d, .pointer (some ⟨b, 0, none⟩)] [G, H1, single b (.cells [.int .i64 a.k, .int .i64 a.m, .int .i64 a.g, .int .i64 a.c, .int .i64 a.r, .int .i64 a.uk, .int .i64 a.ui, .int .i64 a.ur, .int .i64 a.uv].toArray 44 (0, 0))] (fun v Hs => v = .bool (ss.any fun s => decide (a.r ∈ s.2.2)) ∧ Hs = [G, H1, single b (.cells [.int .i64 a.k, .int .i64 a.m, .int .i64 a.g, .int .i64 a.c, .int .i64 a.r, .int .i64 a.uk, .int .i64 a.ui, .int .i64 a.ur, .int .i64 a.uv].toArray 44 (0, 0))]) := by
  refine Ct.body Tryd.func50 rfl Tryd.ntmps50 rfl ?_
  intro E F
  refine W.seq ?_
  refine W.region ?_
  refine RL.q (Yld.assign rfl) rfl ?_
  refine RL.nil ?_
  refine N.next ?_
  refine W.seq ?_
  refine W.region ?_
  refine RL.q (Yld.move rfl) rfl ?_
  refine RL.q (Yld.makeFunc eval0 (eval1 rfl)) rfl ?_
  refine RL.e (Eff.call ent51 [1, 2, 3] [1, 2, 3] (.cons rfl (.cons rfl .nil)) (containsFuncS_ct ss G H1 p d hG 52 [.pointer (some ⟨b, 0, none⟩)] _ (fun l => decide (a.r ∈ l)) ent52 (fun s hs => rcC_ct b a s.2.2 H1 _ _ (hH s hs))) rfl rfl rfl rfl (by rintro _ _ ⟨_, rfl⟩; rfl)) rfl ?_
  rintro _ _ ⟨_, ⟨rfl, rfl⟩, rfl⟩
  refine RL.q (Yld.assign rfl) rfl ?_
  refine RL.nil ?_
  refine N.next ?_
  refine W.keep (.cons (k := 3) rfl .nil) (.cons (k := 0) rfl (.cons (k := 1) rfl (.cons (k := 2) rfl (.cons (k := 3) rfl .nil)))) ?_
  refine W.ret ?_
  exact N.retBy [1, 2, 3] (.cons (.tmp rfl) .nil) rfl rfl rfl rfl ⟨rfl, rfl⟩

def Cfg.reachB (a : Ac) (z : Sta) : Bool :=
  if leadsB a z = false then false else if a.k = 2 then decide (a.r ∈ z.q) else if a.k = 1 ∧ a.c = 0 then (decide (a.r ∈ z.l) || decide (a.r ∈ z.o) || decide (a.r ∈ z.n))
  else if a.k = 1 ∧ a.c = 2 then (decide (z.n.length = 0) && decide (a.r ∈ z.o)) && !onB z.o a.m else false

set_option maxRecDepth 100000 in
set_option maxHeartbeats 3200000 in
theorem reached_ct (a : Ac) (z : Sta) (H1 : PH) (hz : z.In H1) : Ct Tryd.prog 23 [.agg [.int .i64 a.k, .int .i64 a.m, .int .i64 a.g, .int .i64 a.c, .int .i64 a.r, .int .i64 a.uk, .int .i64 a.ui, .int .i64 a.ur, .int .i64 a.uv].toArray, .agg [.int .i64 z.g, .int .i64 z.m, .int .i64 z.ro, .int .i64 z.te, .int .i64 z.le, .int .i64 z.ba, .int .i64 z.la, .int .i64 z.co, .slice z.p0 z.n0 z.c0, .slice z.p1 z.n1 z.c1, .slice z.p2 z.n2 z.c2, .slice z.po z.o.length z.cso, .slice z.pn z.n.length z.csn, .slice z.pl z.l.length z.csl, .slice z.pq z.q.length z.csq].toArray] [H1] (fun v Hs => v = .bool (reachB a z) ∧ Hs = [H1]) := by
  refine Ct.body Tryd.func23 rfl Tryd.ntmps23 rfl ?_
  intro E F
  obtain ⟨ho, hn, hll, hq⟩ := hz
  obtain ⟨zb, hzb⟩ : ∃ b, leadsB a z = b := ⟨_, rfl⟩
  refine W.seq ?_
  refine W.region ?_
  refine RL.e (Eff.box 102 _ rfl rfl) rfl ?_
  rintro _ _ ⟨b2, rfl, rfl⟩
  refine RL.e (Eff.box 103 _ rfl rfl) rfl ?_
  rintro _ _ ⟨b3, rfl, rfl⟩
  refine RL.q (Yld.assign rfl) rfl ?_
  refine RL.nil ?_
  refine N.next ?_
  refine W.seq ?_
  refine W.seq ?_
  refine W.region ?_
  refine RL.q (Yld.loadW (c := 102) Tryd.underlying44 rfl sz44 rfl rfl (by first | exact single_self _ _ | exact pset_self _ _ _ | assumption) rfl) rfl ?_
  refine RL.q (Yld.loadW (c := 103) Tryd.underlying61 rfl sz61 rfl rfl (by first | exact single_self _ _ | exact pset_self _ _ _ | assumption) rfl) rfl ?_
  refine RL.e (Eff.call ent49 [] [] (.cons rfl (.cons rfl .nil)) (leads_ct a z) rfl rfl rfl rfl (by rintro _ _ ⟨_, rfl⟩; rfl)) rfl ?_
  rintro _ _ ⟨_, ⟨rfl, rfl⟩, rfl⟩
  refine RL.q (by first | exact Yld.notD rfl | exact Yld.not rfl) rfl ?_
  refine RL.nil ?_
  refine N.next ?_
  refine W.keep (.cons (k := 2) rfl (.cons (k := 3) rfl (.cons (k := 10) rfl .nil))) (.cons (k := 0) rfl (.cons (k := 1) rfl (.cons (k := 102) rfl (.cons (k := 103) rfl .nil)))) ?_
  refine W.cond rfl (fun hc10 => ?_) (fun hc10 => ?_)
  ·
    have hl0 : leadsB a z = false := by simpa using hc10
    refine W.seq ?_
    refine W.region ?_
    refine RL.q (Yld.assign rfl) rfl ?_
    refine RL.nil ?_
    refine N.next ?_
    refine W.ret ?_
    refine N.then_ret ?_
    exact N.retBy [1] (.cons (.tmp rfl) .nil) rfl rfl rfl rfl ⟨by unfold reachB; rw [if_pos hl0]; rfl, rfl⟩
  ·
    have hl0 : ¬ leadsB a z = false := by simpa using hc10
    refine W.skip ?_
    refine N.next ?_
    refine W.seq ?_
    refine W.region ?_
    refine RL.q (Yld.makeFunc eval0 (eval1 rfl)) rfl ?_
    refine RL.q (Yld.assign rfl) rfl ?_
    refine RL.nil ?_
    refine N.next ?_
    refine W.seq ?_
    refine W.region ?_
    refine RL.q (Yld.fieldAddr fo61_9 rfl) rfl ?_
    refine RL.q (Yld.loadA (c := 103) Tryd.underlying59 rfl sz59 rfl rfl (by first | exact single_self _ _ | exact pset_self _ _ _ | assumption) rfl rfl) rfl ?_
    refine RL.e (Eff.alloc 106 zc59) rfl ?_
    rintro _ _ ⟨b6, rfl, rfl⟩
    refine RL.e0 (Eff.storeS (c := 106) _ sz59 rfl rfl rfl rfl rfl rfl rfl (by (try simp only [putAt, List.take, List.drop, List.nil_append, List.cons_append, List.append_nil, List.length_cons, List.length_nil, Nat.add_zero, Nat.zero_add, Nat.reduceAdd]); rfl)) ?_
    rintro _ _ rfl
    refine RL.nil ?_
    refine N.next ?_
    refine W.keep (.cons (k := 2) rfl (.cons (k := 3) rfl (.cons (k := 5) rfl (.cons (k := 6) rfl .nil)))) (.cons (k := 0) rfl (.cons (k := 1) rfl (.cons (k := 102) rfl (.cons (k := 103) rfl (.cons (k := 106) rfl .nil))))) ?_
    refine W.seq ?_
    refine W.block ?_
    refine W.seq ?_
    refine W.region ?_
    refine RL.q (Yld.fieldAddr fo44_0 rfl) rfl ?_
    refine RL.q (Yld.load1 (c := 102) Tryd.underlying3 rfl rfl rfl (by first | exact single_self _ _ | exact pset_self _ _ _ | assumption) rfl) rfl ?_
    refine RL.q (Yld.bin rfl rfl BinV.eql) rfl ?_
    refine RL.q (Yld.assign rfl) rfl ?_
    refine RL.nil ?_
    refine N.next ?_
    first | refine W.condD rfl (fun hc14 => ?_) (fun hc14 => ?_) | (refine W.cond rfl (fun hc14 => ?_) (fun hc14 => ?_) <;> try simp only [Bool.or_eq_true, Bool.and_eq_true, Bool.not_eq_true', Bool.not_eq_false', decide_eq_true_eq, Bool.or_eq_false_iff, Bool.and_eq_false_iff, decide_eq_false_iff_not, beq_iff_eq, beq_eq_false_iff_ne, ne_eq, Decidable.not_not] at hc14)
    ·
      refine W.seq ?_
      refine W.region ?_
      refine RL.q (Yld.move rfl) rfl ?_
      refine RL.q (Yld.fieldAddr fo61_10 rfl) rfl ?_
      refine RL.q (Yld.load1 (c := 103) Tryd.underlying54 rfl rfl rfl (by first | exact single_self _ _ | exact pset_self _ _ _ | assumption) rfl) rfl ?_
      refine RL.e (Eff.buildSlice 121 Tryd.underlying108 sz54 zc54 rfl rfl (.cons rfl rfl .nil) rfl) rfl ?_
      rintro _ _ ⟨b21, rfl, rfl⟩
      refine RL.e (Eff.callV ent50 [121, 1, 102] [121, 1, 102] rfl (.cons rfl .nil) (rc_ct b2 a [(z.pq, z.csq, z.q)] _ H1 _ _ (Own.mk (e := 54) (n := 1) (c := 1) [] (by intro r hr; simp only [List.map_cons, List.map_nil, List.mem_cons, List.not_mem_nil, or_false] at hr; rcases hr with rfl <;> exact ⟨rfl, by simp [SV, Value.oneCell']⟩) (by simp) (by simp [maxLen]) (by rfl) (by rfl)).sl (by intro s hs; simp only [List.mem_cons, List.not_mem_nil, or_false] at hs; rcases hs with rfl <;> assumption)) rfl rfl rfl rfl (by rintro _ _ ⟨_, rfl⟩; rfl)) rfl ?_
      rintro _ _ ⟨_, ⟨rfl, rfl⟩, rfl⟩
      refine RL.q (Yld.assign rfl) rfl ?_
      refine RL.nil ?_
      refine N.next ?_
      refine W.keep (.cons (k := 4) rfl .nil) (.cons (k := 0) rfl (.cons (k := 1) rfl (.cons (k := 102) rfl (.cons (k := 103) rfl (.cons (k := 106) rfl (.cons (k := 121) rfl .nil)))))) ?_
      refine W.ret ?_
      refine N.block_ret ?_
      refine N.then_ret ?_
      exact N.retBy [1] (.cons (.tmp rfl) .nil) rfl rfl rfl rfl ⟨by unfold reachB; rw [if_neg hl0, if_pos (by omega)]; simp; rfl, rfl⟩
    ·
      refine W.seq ?_
      refine W.region ?_
      refine RL.q (Yld.fieldAddr fo44_0 rfl) rfl ?_
      refine RL.q (Yld.load1 (c := 102) Tryd.underlying3 rfl rfl rfl (by first | exact single_self _ _ | exact pset_self _ _ _ | assumption) rfl) rfl ?_
      refine RL.q (Yld.bin rfl rfl BinV.eql) rfl ?_
      refine RL.q (Yld.move rfl) rfl ?_
      refine' RL.and (t := 27) (d := 31) 4 rfl (.cons (k := 2) rfl (.cons (k := 3) rfl (.cons (k := 5) rfl (.cons (k := 6) rfl (.cons (k := 14) rfl (.cons (k := 15) rfl (.cons (k := 16) rfl (.cons (k := 17) rfl (.cons (k := 24) rfl (.cons (k := 25) rfl (.cons (k := 26) rfl .nil))))))))))) (.cons (k := 0) rfl (.cons (k := 1) rfl (.cons (k := 102) rfl (.cons (k := 103) rfl (.cons (k := 106) rfl .nil))))) ?_ ?_ ?_
      rotate_left 1
      ·
        intro hg27
        refine RL.gq rfl rfl (Yld.fieldAddr fo44_3 rfl) rfl ?_
        refine RL.gq rfl rfl (Yld.load1 (c := 102) Tryd.underlying3 rfl rfl rfl (by first | exact single_self _ _ | exact pset_self _ _ _ | assumption) rfl) rfl ?_
        refine RL.gq rfl rfl (Yld.bin rfl rfl BinV.eql) rfl ?_
        refine RL.q (by first | exact Yld.pickT rfl rfl | exact Yld.pickF rfl rfl) rfl ?_
        exact RL.nil (N.meet (.cons rfl (.cons rfl (.cons rfl (.cons rfl (.cons rfl (.cons rfl (.cons rfl (.cons rfl (.cons rfl (.cons rfl (.cons rfl (.cons rfl .nil)))))))))))) (.cons rfl (.cons rfl (.cons rfl (.cons rfl (.cons rfl .nil))))))
      ·
        intro hg27
        refine RL.gskip rfl rfl rfl rfl ?_
        refine RL.gskip rfl rfl rfl rfl ?_
        refine RL.gskip rfl rfl rfl rfl ?_
        refine RL.q (by first | exact Yld.pickT rfl rfl | exact Yld.pickF rfl rfl) rfl ?_
        exact RL.nil (N.meet (.cons rfl (.cons rfl (.cons rfl (.cons rfl (.cons rfl (.cons rfl (.cons rfl (.cons rfl (.cons rfl (.cons rfl (.cons rfl (.cons rfl .nil)))))))))))) (.cons rfl (.cons rfl (.cons rfl (.cons rfl (.cons rfl .nil))))))
      refine RL.q (Yld.assign rfl) rfl ?_
      refine RL.nil ?_
      refine N.next ?_
      refine W.keep (.cons (k := 2) rfl (.cons (k := 5) rfl (.cons (k := 6) rfl (.cons (k := 23) rfl .nil)))) (.cons (k := 0) rfl (.cons (k := 1) rfl (.cons (k := 102) rfl (.cons (k := 103) rfl (.cons (k := 106) rfl .nil))))) ?_
      first | refine W.condD rfl (fun hc23 => ?_) (fun hc23 => ?_) | (refine W.cond rfl (fun hc23 => ?_) (fun hc23 => ?_) <;> try simp only [Bool.or_eq_true, Bool.and_eq_true, Bool.not_eq_true', Bool.not_eq_false', decide_eq_true_eq, Bool.or_eq_false_iff, Bool.and_eq_false_iff, decide_eq_false_iff_not, beq_iff_eq, beq_eq_false_iff_ne, ne_eq, Decidable.not_not] at hc23)
      ·
        refine W.seq ?_
        refine W.region ?_
        refine RL.q (Yld.move rfl) rfl ?_
        refine RL.q (Yld.fieldAddr fo59_2 rfl) rfl ?_
        refine RL.q (Yld.load1 (c := 106) Tryd.underlying54 rfl rfl rfl (by first | exact single_self _ _ | exact pset_self _ _ _ | assumption) rfl) rfl ?_
        refine RL.q (Yld.fieldAddr fo59_0 rfl) rfl ?_
        refine RL.q (Yld.load1 (c := 106) Tryd.underlying54 rfl rfl rfl (by first | exact single_self _ _ | exact pset_self _ _ _ | assumption) rfl) rfl ?_
        refine RL.q (Yld.fieldAddr fo59_1 rfl) rfl ?_
        refine RL.q (Yld.load1 (c := 106) Tryd.underlying54 rfl rfl rfl (by first | exact single_self _ _ | exact pset_self _ _ _ | assumption) rfl) rfl ?_
        refine RL.e (Eff.buildSlice 139 Tryd.underlying108 sz54 zc54 rfl rfl (.cons rfl rfl (.cons rfl rfl (.cons rfl rfl .nil))) rfl) rfl ?_
        rintro _ _ ⟨b39, rfl, rfl⟩
        refine RL.e (Eff.callV ent50 [139, 1, 102] [139, 1, 102] rfl (.cons rfl .nil) (rc_ct b2 a [(z.pl, z.csl, z.l), (z.po, z.cso, z.o), (z.pn, z.csn, z.n)] _ H1 _ _ (Own.mk (e := 54) (n := 1) (c := 3) [] (by intro r hr; simp only [List.map_cons, List.map_nil, List.mem_cons, List.not_mem_nil, or_false] at hr; rcases hr with rfl | rfl | rfl <;> exact ⟨rfl, by simp [SV, Value.oneCell']⟩) (by simp) (by simp [maxLen]) (by rfl) (by rfl)).sl (by intro s hs; simp only [List.mem_cons, List.not_mem_nil, or_false] at hs; rcases hs with rfl | rfl | rfl <;> assumption)) rfl rfl rfl rfl (by rintro _ _ ⟨_, rfl⟩; rfl)) rfl ?_
        rintro _ _ ⟨_, ⟨rfl, rfl⟩, rfl⟩
        refine RL.q (Yld.assign rfl) rfl ?_
        refine RL.nil ?_
        refine N.next ?_
        refine W.keep (.cons (k := 4) rfl .nil) (.cons (k := 0) rfl (.cons (k := 1) rfl (.cons (k := 102) rfl (.cons (k := 103) rfl (.cons (k := 106) rfl (.cons (k := 139) rfl .nil)))))) ?_
        refine W.ret ?_
        refine N.block_ret ?_
        refine N.then_ret ?_
        exact N.retBy [1] (.cons (.tmp rfl) .nil) rfl rfl rfl rfl ⟨by unfold reachB; rw [if_neg hl0, if_neg (by omega), if_pos (by omega)]; simp [Bool.or_assoc]; rfl, rfl⟩
      ·
        refine W.seq ?_
        refine W.region ?_
        refine RL.q (Yld.fieldAddr fo44_0 rfl) rfl ?_
        refine RL.q (Yld.load1 (c := 102) Tryd.underlying3 rfl rfl rfl (by first | exact single_self _ _ | exact pset_self _ _ _ | assumption) rfl) rfl ?_
        refine RL.q (Yld.bin rfl rfl BinV.eql) rfl ?_
        refine RL.q (Yld.move rfl) rfl ?_
        refine' RL.and (t := 45) (d := 49) 4 rfl (.cons (k := 2) rfl (.cons (k := 5) rfl (.cons (k := 6) rfl (.cons (k := 23) rfl (.cons (k := 42) rfl (.cons (k := 43) rfl (.cons (k := 44) rfl .nil))))))) (.cons (k := 0) rfl (.cons (k := 1) rfl (.cons (k := 102) rfl (.cons (k := 103) rfl (.cons (k := 106) rfl .nil))))) ?_ ?_ ?_
        rotate_left 1
        ·
          intro hg45
          refine RL.gq rfl rfl (Yld.fieldAddr fo44_3 rfl) rfl ?_
          refine RL.gq rfl rfl (Yld.load1 (c := 102) Tryd.underlying3 rfl rfl rfl (by first | exact single_self _ _ | exact pset_self _ _ _ | assumption) rfl) rfl ?_
          refine RL.gq rfl rfl (Yld.bin rfl rfl BinV.eql) rfl ?_
          refine RL.q (by first | exact Yld.pickT rfl rfl | exact Yld.pickF rfl rfl) rfl ?_
          exact RL.nil (N.meet (.cons rfl (.cons rfl (.cons rfl (.cons rfl (.cons rfl (.cons rfl (.cons rfl (.cons rfl .nil)))))))) (.cons rfl (.cons rfl (.cons rfl (.cons rfl (.cons rfl .nil))))))
        ·
          intro hg45
          refine RL.gskip rfl rfl rfl rfl ?_
          refine RL.gskip rfl rfl rfl rfl ?_
          refine RL.gskip rfl rfl rfl rfl ?_
          refine RL.q (by first | exact Yld.pickT rfl rfl | exact Yld.pickF rfl rfl) rfl ?_
          exact RL.nil (N.meet (.cons rfl (.cons rfl (.cons rfl (.cons rfl (.cons rfl (.cons rfl (.cons rfl (.cons rfl .nil)))))))) (.cons rfl (.cons rfl (.cons rfl (.cons rfl (.cons rfl .nil))))))
        refine RL.q (Yld.assign rfl) rfl ?_
        refine RL.nil ?_
        refine N.next ?_
        refine W.keep (.cons (k := 2) rfl (.cons (k := 5) rfl (.cons (k := 6) rfl (.cons (k := 41) rfl .nil)))) (.cons (k := 0) rfl (.cons (k := 1) rfl (.cons (k := 102) rfl (.cons (k := 103) rfl (.cons (k := 106) rfl .nil))))) ?_
        first | refine W.condD rfl (fun hc41 => ?_) (fun hc41 => ?_) | (refine W.cond rfl (fun hc41 => ?_) (fun hc41 => ?_) <;> try simp only [Bool.or_eq_true, Bool.and_eq_true, Bool.not_eq_true', Bool.not_eq_false', decide_eq_true_eq, Bool.or_eq_false_iff, Bool.and_eq_false_iff, decide_eq_false_iff_not, beq_iff_eq, beq_eq_false_iff_ne, ne_eq, Decidable.not_not] at hc41)
        ·
          refine W.seq ?_
          refine W.region ?_
          refine RL.q (Yld.fieldAddr fo59_1 rfl) rfl ?_
          refine RL.q (Yld.load1 (c := 106) Tryd.underlying54 rfl rfl rfl (by first | exact single_self _ _ | exact pset_self _ _ _ | assumption) rfl) rfl ?_
          refine RL.q (Yld.lenSl Tryd.underlying54 rfl) rfl ?_
          refine RL.q (Yld.bin rfl rfl BinV.eql) rfl ?_
          refine RL.q (Yld.move rfl) rfl ?_
          refine' RL.and (t := 54) (d := 60) 6 rfl (.cons (k := 2) rfl (.cons (k := 5) rfl (.cons (k := 6) rfl (.cons (k := 41) rfl (.cons (k := 50) rfl (.cons (k := 51) rfl (.cons (k := 52) rfl (.cons (k := 53) rfl .nil)))))))) (.cons (k := 0) rfl (.cons (k := 1) rfl (.cons (k := 102) rfl (.cons (k := 103) rfl (.cons (k := 106) rfl .nil))))) ?_ ?_ ?_
          rotate_left 1
          ·
            intro hg54
            refine RL.gq rfl rfl (Yld.move rfl) rfl ?_
            refine RL.gq rfl rfl (Yld.fieldAddr fo59_0 rfl) rfl ?_
            refine RL.gq rfl rfl (Yld.load1 (c := 106) Tryd.underlying54 rfl rfl rfl (by first | exact single_self _ _ | exact pset_self _ _ _ | assumption) rfl) rfl ?_
            refine RL.ge rfl rfl (Eff.buildSlice 158 Tryd.underlying108 sz54 zc54 rfl rfl (.cons rfl rfl .nil) rfl) rfl ?_
            rintro _ _ ⟨b58, rfl, rfl⟩
            refine RL.ge rfl rfl (Eff.callV ent50 [158, 1, 102] [158, 1, 102] rfl (.cons rfl .nil) (rc_ct b2 a [(z.po, z.cso, z.o)] _ H1 _ _ (Own.mk (e := 54) (n := 1) (c := 1) [] (by intro r hr; simp only [List.map_cons, List.map_nil, List.mem_cons, List.not_mem_nil, or_false] at hr; rcases hr with rfl <;> exact ⟨rfl, by simp [SV, Value.oneCell']⟩) (by simp) (by simp [maxLen]) (by rfl) (by rfl)).sl (by intro s hs; simp only [List.mem_cons, List.not_mem_nil, or_false] at hs; rcases hs with rfl <;> assumption)) rfl rfl rfl rfl (by rintro _ _ ⟨_, rfl⟩; rfl)) rfl ?_
            rintro _ _ ⟨_, ⟨rfl, rfl⟩, rfl⟩
            refine RL.q (by first | exact Yld.pickT rfl rfl | exact Yld.pickF rfl rfl) rfl ?_
            exact RL.nil (N.meet (.cons rfl (.cons rfl (.cons rfl (.cons rfl (.cons rfl (.cons rfl (.cons rfl (.cons rfl (.cons rfl .nil))))))))) (.cons rfl (.cons rfl (.cons rfl (.cons rfl (.cons rfl .nil))))))
          ·
            intro hg54
            refine RL.gskip rfl rfl rfl rfl ?_
            refine RL.gskip rfl rfl rfl rfl ?_
            refine RL.gskip rfl rfl rfl rfl ?_
            refine RL.gskip rfl rfl rfl rfl ?_
            refine RL.gskip rfl rfl rfl rfl ?_
            refine RL.q (by first | exact Yld.pickT rfl rfl | exact Yld.pickF rfl rfl) rfl ?_
            exact RL.nil (N.meet (.cons rfl (.cons rfl (.cons rfl (.cons rfl (.cons rfl (.cons rfl (.cons rfl (.cons rfl (.cons rfl .nil))))))))) (.cons rfl (.cons rfl (.cons rfl (.cons rfl (.cons rfl .nil))))))
          refine RL.q (Yld.move rfl) rfl ?_
          refine' RL.and (t := 61) (d := 68) 7 rfl (.cons (k := 2) rfl (.cons (k := 5) rfl (.cons (k := 6) rfl (.cons (k := 41) rfl (.cons (k := 50) rfl (.cons (k := 51) rfl (.cons (k := 52) rfl (.cons (k := 53) rfl (.cons (k := 60) rfl .nil))))))))) (.cons (k := 0) rfl (.cons (k := 1) rfl (.cons (k := 102) rfl (.cons (k := 103) rfl (.cons (k := 106) rfl .nil))))) ?_ ?_ ?_
          rotate_left 1
          ·
            intro hg61
            refine RL.gq rfl rfl (Yld.fieldAddr fo59_0 rfl) rfl ?_
            refine RL.gq rfl rfl (Yld.load1 (c := 106) Tryd.underlying54 rfl rfl rfl (by first | exact single_self _ _ | exact pset_self _ _ _ | assumption) rfl) rfl ?_
            refine RL.gq rfl rfl (Yld.fieldAddr fo44_1 rfl) rfl ?_
            refine RL.gq rfl rfl (Yld.load1 (c := 102) Tryd.underlying3 rfl rfl rfl (by first | exact single_self _ _ | exact pset_self _ _ _ | assumption) rfl) rfl ?_
            refine RL.ge rfl rfl (Eff.call ent54 [1] [1] (.cons rfl (.cons rfl .nil)) (on_ct z.o H1 _ _ ho a.m) rfl rfl rfl rfl (by rintro _ _ ⟨_, rfl⟩; rfl)) rfl ?_
            rintro _ _ ⟨_, ⟨rfl, rfl⟩, rfl⟩
            refine RL.gq rfl rfl (by first | exact Yld.notD rfl | exact Yld.not rfl) rfl ?_
            refine RL.q (by first | exact Yld.pickT rfl rfl | exact Yld.pickF rfl rfl) rfl ?_
            exact RL.nil (N.meet (.cons rfl (.cons rfl (.cons rfl (.cons rfl (.cons rfl (.cons rfl (.cons rfl (.cons rfl (.cons rfl (.cons rfl .nil)))))))))) (.cons rfl (.cons rfl (.cons rfl (.cons rfl (.cons rfl .nil))))))
          ·
            intro hg61
            refine RL.gskip rfl rfl rfl rfl ?_
            refine RL.gskip rfl rfl rfl rfl ?_
            refine RL.gskip rfl rfl rfl rfl ?_
            refine RL.gskip rfl rfl rfl rfl ?_
            refine RL.gskip rfl rfl rfl rfl ?_
            refine RL.gskip rfl rfl rfl rfl ?_
            refine RL.q (by first | exact Yld.pickT rfl rfl | exact Yld.pickF rfl rfl) rfl ?_
            exact RL.nil (N.meet (.cons rfl (.cons rfl (.cons rfl (.cons rfl (.cons rfl (.cons rfl (.cons rfl (.cons rfl (.cons rfl (.cons rfl .nil)))))))))) (.cons rfl (.cons rfl (.cons rfl (.cons rfl (.cons rfl .nil))))))
          refine RL.q (Yld.assign rfl) rfl ?_
          refine RL.nil ?_
          refine N.next ?_
          refine W.keep (.cons (k := 4) rfl .nil) (.cons (k := 0) rfl (.cons (k := 1) rfl (.cons (k := 102) rfl (.cons (k := 103) rfl (.cons (k := 106) rfl .nil))))) ?_
          refine W.ret ?_
          refine N.block_ret ?_
          refine N.then_ret ?_
          exact N.retBy [1] (.cons (.tmp rfl) .nil) rfl rfl rfl rfl ⟨by unfold reachB; rw [if_neg hl0, if_neg (by omega), if_neg (by omega), if_pos (by omega)]; simp; rfl, rfl⟩
        ·
          refine W.skip ?_
          refine N.block_normal ?_
          refine N.next ?_
          refine W.keep .nil (.cons (k := 0) rfl (.cons (k := 1) rfl (.cons (k := 102) rfl (.cons (k := 103) rfl (.cons (k := 106) rfl .nil))))) ?_
          refine W.seq ?_
          refine W.region ?_
          refine RL.q (Yld.assign rfl) rfl ?_
          refine RL.nil ?_
          refine N.next ?_
          refine W.ret ?_
          exact N.retBy [1] (.cons (.tmp rfl) .nil) rfl rfl rfl rfl ⟨by unfold reachB; rw [if_neg hl0, if_neg (by omega), if_neg (by omega), if_neg (by omega)]; rfl, rfl⟩

end Go.Proofs.YtdblglgnhjankaaDoor
