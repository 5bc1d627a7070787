/- Changes of goals. Written by program (walk2.py). -/
import Derived.Test.YtdjmdfnhnlijiaaGreatDoorM1
namespace Go.Proofs.YtdjmdfnhnlijiaaGreatDoor
open SL Cfg Memb
set_option linter.unusedVariables false
set_option linter.unusedSimpArgs false
theorem fo41_1 : fieldOff Tryz.prog 41 1 = some 1 := by kernel_rfl
theorem fo41_3 : fieldOff Tryz.prog 41 3 = some 3 := by kernel_rfl
theorem fo41_2 : fieldOff Tryz.prog 41 2 = some 2 := by kernel_rfl
theorem ent80 : Ent Tryz.prog 80 := ⟨_, _, Tryz.func80, by kernel_rfl, rfl⟩
theorem ent84 : Ent Tryz.prog 84 := ⟨_, _, Tryz.func84, by kernel_rfl, rfl⟩
theorem ent82 : Ent Tryz.prog 82 := ⟨_, _, Tryz.func82, by kernel_rfl, rfl⟩
theorem ent83 : Ent Tryz.prog 83 := ⟨_, _, Tryz.func83, by kernel_rfl, rfl⟩
theorem ent85 : Ent Tryz.prog 85 := ⟨_, _, Tryz.func85, by kernel_rfl, rfl⟩
theorem ent86 : Ent Tryz.prog 86 := ⟨_, _, Tryz.func86, by kernel_rfl, rfl⟩
theorem ent87 : Ent Tryz.prog 87 := ⟨_, _, Tryz.func87, by kernel_rfl, rfl⟩
theorem ent88 : Ent Tryz.prog 88 := ⟨_, _, Tryz.func88, by kernel_rfl, rfl⟩
theorem lay87 : layS Tryz.prog 87 = some ([.nilFunc, .nilFunc], [(0, 1), (1, 1)]) := by kernel_rfl
theorem fo41_0 : fieldOff Tryz.prog 41 0 = some 0 := by kernel_rfl
theorem ent54 : Ent Tryz.prog 54 := ⟨_, _, Tryz.func54, by kernel_rfl, rfl⟩
theorem zv87 : zv Tryz.prog 87 (.agg #[.nilFunc, .nilFunc]) := (by kernel_rfl : (Tryz.prog.info? 87).bind (·.zero) = some (.agg #[.nilFunc, .nilFunc]))
theorem zc87 : zc Tryz.prog 87 [.nilFunc, .nilFunc] := (by kernel_rfl : ((Tryz.prog.info? 87).bind (·.zero)).map (fun v => v.cells.toList) = some [.nilFunc, .nilFunc])
theorem sz87 : sz Tryz.prog 87 2 := (by kernel_rfl : (Tryz.prog.info? 87).map (·.size) = some 2)
theorem fo87_0 : fieldOff Tryz.prog 87 0 = some 0 := by kernel_rfl
theorem sz41 : sz Tryz.prog 41 4 := (by kernel_rfl : (Tryz.prog.info? 41).map (·.size) = some 4)
theorem fo87_1 : fieldOff Tryz.prog 87 1 = some 1 := by kernel_rfl
set_option maxRecDepth 100000 in
set_option maxHeartbeats 400000 in
theorem ck0_ct (b : Nat) (x : Cf) (G : PH) (hx : x.In G) (c : Ch) (H : PH) (hc : c.In H) (k : Nat) (hk : k ≤ 1000) (hg : GOK k (gl x)) (hs : c.Sm) (h0 : c.k = 0) : Ct Tryz.prog 82 [.pointer (some ⟨b, 0, none⟩), .agg [.int .i64 c.k, .int .i64 c.m, .slice c.pf c.f.length c.cf, .slice c.pt c.t.length c.ct].toArray] [single b (.cells [.slice x.po x.o.length x.co, .slice x.pn x.n.length x.cn, .slice x.pl x.l.length x.cl].toArray 60 (0, 0)), G, H] (fun v Hs => v = .int .i64 (err (gl x) c) ∧ Hs = [single b (.cells [.slice x.po x.o.length x.co, .slice x.pn x.n.length x.cn, .slice x.pl x.l.length x.cl].toArray 60 (0, 0)), G, H]) := by
  refine Ct.body Tryz.func82 rfl Tryz.ntmps82 rfl ?_
  intro E F
  have hbo := hg.bo
  have hbn := hg.bn
  have hbl := hg.bl
  replace hbo : x.o.length ≤ 8 := hbo
  replace hbn : x.n.length ≤ k := hbn
  replace hbl : x.l.length ≤ 8 + k := hbl
  obtain ⟨hxo, hxn, hxl⟩ := hx
  obtain ⟨hcf, hct⟩ := hc
  have hsf := hs.1
  have hst := hs.2.1
  refine W.seq ?_
  refine W.region ?_
  refine RL.e (Eff.box 103 _ rfl rfl) rfl ?_
  rintro _ _ ⟨b3, rfl, rfl⟩
  refine RL.q (Yld.assign rfl) rfl ?_
  refine RL.nil ?_
  refine N.next ?_
  refine W.seq ?_
  refine W.block ?_
  refine W.seq ?_
  refine W.region ?_
  refine RL.q (Yld.fieldAddr fo41_1 rfl) rfl ?_
  refine RL.q (Yld.load1 (c := 103) Tryz.underlying3 rfl rfl rfl (by first | exact single_self _ _ | exact pset_self _ _ _ | assumption) rfl) rfl ?_
  refine RL.q (Yld.bin rfl rfl BinV.lss) rfl ?_
  refine RL.q (Yld.assign rfl) rfl ?_
  refine RL.nil ?_
  refine N.next ?_
  refine W.keep (.cons (k := 0) rfl (.cons (k := 3) rfl (.cons (k := 5) rfl .nil))) (.cons (k := 0) rfl (.cons (k := 1) rfl (.cons (k := 2) rfl (.cons (k := 3) rfl (.cons (k := 103) rfl .nil))))) ?_
  first | refine W.condD rfl (fun hc5 => ?_) (fun hc5 => ?_) | (refine W.cond rfl (fun hc5 => ?_) (fun hc5 => ?_) <;> try simp only [Bool.or_eq_true, Bool.and_eq_true, Bool.not_eq_true', Bool.not_eq_false', decide_eq_true_eq, Bool.or_eq_false_iff, Bool.and_eq_false_iff, decide_eq_false_iff_not, beq_iff_eq, beq_eq_false_iff_ne, ne_eq, Decidable.not_not] at hc5)
  ·
    refine W.seq ?_
    refine W.region ?_
    refine RL.q (Yld.assign rfl) rfl ?_
    refine RL.nil ?_
    refine N.next ?_
    refine W.ret ?_
    refine N.block_ret ?_
    refine N.then_ret ?_
    exact N.retBy [1, 2, 3] (.cons (.tmp rfl) .nil) rfl rfl rfl rfl ⟨by rw [err0_eq h0, if_pos hc5]; rfl, rfl⟩
  ·
    refine W.seq ?_
    refine W.draw (.q 0 (.q 1 (.q 2 (.q 3 (.q 4 (.q 5 (.one 6 (.q 7 .done)))))))) (.cons (k := 0) rfl (.cons (k := 1) rfl (.cons (k := 2) rfl (.cons (k := 3) rfl (.cons (k := 103) rfl .nil))))) mix (by kernel_rfl) (by kernel_rfl) ?_
    refine DL.q rfl (Yld.move rfl) rfl ?_
    refine DL.q rfl (Yld.nilP rfl) rfl ?_
    refine DL.q rfl (Yld.fieldAddr fo60_2 rfl) rfl ?_
    refine DL.q rfl (Yld.load1 (c := 1) Tryz.underlying22 rfl rfl rfl (by first | exact single_self _ _ | exact pset_self _ _ _ | assumption) rfl) rfl ?_
    refine DL.q rfl (Yld.fieldAddr fo41_1 rfl) rfl ?_
    refine DL.q rfl (Yld.load1 (c := 103) Tryz.underlying3 rfl rfl rfl (by first | exact single_self _ _ | exact pset_self _ _ _ | assumption) rfl) rfl ?_
    refine DL.one rfl (Eff.call ent72 [2] [2] (.cons rfl (.cons rfl .nil)) (contains_ct x.l _ _ _ hxl c.m) rfl rfl rfl rfl (by rintro _ _ ⟨_, rfl⟩; rfl)) rfl (by rintro _ _ ⟨_, ⟨rfl, rfl⟩, rfl⟩; repeat (first | exact .nil | refine .cons rfl ?_)) ?_
    rintro _ _ ⟨_, ⟨rfl, rfl⟩, rfl⟩
    refine DL.q rfl (Yld.assign rfl) rfl ?_
    refine DL.done ?_
    refine N.next ?_
    refine W.keep (.cons (k := 9) rfl .nil) (.cons (k := 0) rfl (.cons (k := 1) rfl (.cons (k := 2) rfl (.cons (k := 3) rfl (.cons (k := 103) rfl .nil))))) ?_
    first | refine W.condD rfl (fun hc9 => ?_) (fun hc9 => ?_) | (refine W.cond rfl (fun hc9 => ?_) (fun hc9 => ?_) <;> try simp only [Bool.or_eq_true, Bool.and_eq_true, Bool.not_eq_true', Bool.not_eq_false', decide_eq_true_eq, Bool.or_eq_false_iff, Bool.and_eq_false_iff, decide_eq_false_iff_not, beq_iff_eq, beq_eq_false_iff_ne, ne_eq, Decidable.not_not] at hc9)
    ·
      refine W.seq ?_
      refine W.region ?_
      refine RL.q (Yld.assign rfl) rfl ?_
      refine RL.nil ?_
      refine N.next ?_
      refine W.ret ?_
      refine N.block_ret ?_
      refine N.then_ret ?_
      exact N.retBy [1, 2, 3] (.cons (.tmp rfl) .nil) rfl rfl rfl rfl ⟨by rw [err0_eq h0, if_neg hc5, if_pos (show c.m ∈ (gl x).l from hc9)]; rfl, rfl⟩
    ·
      refine W.skip ?_
      refine N.block_normal ?_
      refine N.next ?_
      refine W.seq ?_
      refine W.region ?_
      refine RL.q (Yld.assign rfl) rfl ?_
      refine RL.nil ?_
      refine N.next ?_
      refine W.ret ?_
      exact N.retBy [1, 2, 3] (.cons (.tmp rfl) .nil) rfl rfl rfl rfl ⟨by rw [err0_eq h0, if_neg hc5, if_neg (show ¬ c.m ∈ (gl x).l from hc9)]; rfl, rfl⟩

set_option maxRecDepth 100000 in
set_option maxHeartbeats 400000 in
theorem ck1_ct (b : Nat) (x : Cf) (G : PH) (hx : x.In G) (c : Ch) (H : PH) (hc : c.In H) (k : Nat) (hk : k ≤ 1000) (hg : GOK k (gl x)) (hs : c.Sm) (h0 : c.k = 1) : Ct Tryz.prog 85 [.pointer (some ⟨b, 0, none⟩), .agg [.int .i64 c.k, .int .i64 c.m, .slice c.pf c.f.length c.cf, .slice c.pt c.t.length c.ct].toArray] [single b (.cells [.slice x.po x.o.length x.co, .slice x.pn x.n.length x.cn, .slice x.pl x.l.length x.cl].toArray 60 (0, 0)), G, H] (fun v Hs => v = .int .i64 (err (gl x) c) ∧ Hs = [single b (.cells [.slice x.po x.o.length x.co, .slice x.pn x.n.length x.cn, .slice x.pl x.l.length x.cl].toArray 60 (0, 0)), G, H]) := by
  refine Ct.body Tryz.func85 rfl Tryz.ntmps85 rfl ?_
  intro E F
  have hbo := hg.bo
  have hbn := hg.bn
  have hbl := hg.bl
  replace hbo : x.o.length ≤ 8 := hbo
  replace hbn : x.n.length ≤ k := hbn
  replace hbl : x.l.length ≤ 8 + k := hbl
  obtain ⟨hxo, hxn, hxl⟩ := hx
  obtain ⟨hcf, hct⟩ := hc
  have hsf := hs.1
  have hst := hs.2.1
  refine W.seq ?_
  refine W.region ?_
  refine RL.e (Eff.box 103 _ rfl rfl) rfl ?_
  rintro _ _ ⟨b3, rfl, rfl⟩
  refine RL.q (Yld.assign rfl) rfl ?_
  refine RL.nil ?_
  refine N.next ?_
  refine W.seq ?_
  refine W.seq ?_
  refine W.draw (.q 0 (.q 1 (.q 2 (.q 3 (.q 4 (.q 5 (.one 6 (.q 7 .done)))))))) (.cons (k := 0) rfl (.cons (k := 1) rfl (.cons (k := 2) rfl (.cons (k := 3) rfl (.cons (k := 103) rfl .nil))))) mix (by kernel_rfl) (by kernel_rfl) ?_
  refine DL.q rfl (Yld.move rfl) rfl ?_
  refine DL.q rfl (Yld.nilP rfl) rfl ?_
  refine DL.q rfl (Yld.fieldAddr fo60_1 rfl) rfl ?_
  refine DL.q rfl (Yld.load1 (c := 1) Tryz.underlying22 rfl rfl rfl (by first | exact single_self _ _ | exact pset_self _ _ _ | assumption) rfl) rfl ?_
  refine DL.q rfl (Yld.fieldAddr fo41_1 rfl) rfl ?_
  refine DL.q rfl (Yld.load1 (c := 103) Tryz.underlying3 rfl rfl rfl (by first | exact single_self _ _ | exact pset_self _ _ _ | assumption) rfl) rfl ?_
  refine DL.one rfl (Eff.call ent72 [2] [2] (.cons rfl (.cons rfl .nil)) (contains_ct x.n _ _ _ hxn c.m) rfl rfl rfl rfl (by rintro _ _ ⟨_, rfl⟩; rfl)) rfl (by rintro _ _ ⟨_, ⟨rfl, rfl⟩, rfl⟩; repeat (first | exact .nil | refine .cons rfl ?_)) ?_
  rintro _ _ ⟨_, ⟨rfl, rfl⟩, rfl⟩
  refine DL.q rfl (by first | exact Yld.notD rfl | exact Yld.not rfl) rfl ?_
  refine DL.done ?_
  refine N.next ?_
  refine W.keep (.cons (k := 12) rfl .nil) (.cons (k := 0) rfl (.cons (k := 1) rfl (.cons (k := 2) rfl (.cons (k := 3) rfl (.cons (k := 103) rfl .nil))))) ?_
  first | refine W.condD rfl (fun hc12 => ?_) (fun hc12 => ?_) | (refine W.cond rfl (fun hc12 => ?_) (fun hc12 => ?_) <;> try simp only [Bool.or_eq_true, Bool.and_eq_true, Bool.not_eq_true', Bool.not_eq_false', decide_eq_true_eq, Bool.or_eq_false_iff, Bool.and_eq_false_iff, decide_eq_false_iff_not, beq_iff_eq, beq_eq_false_iff_ne, ne_eq, Decidable.not_not] at hc12)
  ·
    refine W.seq ?_
    refine W.region ?_
    refine RL.q (Yld.assign rfl) rfl ?_
    refine RL.nil ?_
    refine N.next ?_
    refine W.ret ?_
    refine N.then_ret ?_
    exact N.retBy [1, 2, 3] (.cons (.tmp rfl) .nil) rfl rfl rfl rfl ⟨by rw [err1_eq h0, if_neg (show ¬ c.m ∈ (gl x).n from hc12)]; rfl, rfl⟩
  ·
    refine W.skip ?_
    refine N.next ?_
    refine W.seq ?_
    refine W.region ?_
    refine RL.q (Yld.assign rfl) rfl ?_
    refine RL.nil ?_
    refine N.next ?_
    refine W.ret ?_
    exact N.retBy [1, 2, 3] (.cons (.tmp rfl) .nil) rfl rfl rfl rfl ⟨by rw [err1_eq h0, if_pos (show c.m ∈ (gl x).n from Decidable.not_not.1 hc12)]; rfl, rfl⟩

set_option maxRecDepth 100000 in
set_option maxHeartbeats 1600000 in
theorem ck2_ct (b : Nat) (x : Cf) (G : PH) (hx : x.In G) (c : Ch) (H : PH) (hc : c.In H) (k : Nat) (hk : k ≤ 1000) (hg : GOK k (gl x)) (hs : c.Sm) (h0 : c.k = 2) : Ct Tryz.prog 87 [.pointer (some ⟨b, 0, none⟩), .agg [.int .i64 c.k, .int .i64 c.m, .slice c.pf c.f.length c.cf, .slice c.pt c.t.length c.ct].toArray] [single b (.cells [.slice x.po x.o.length x.co, .slice x.pn x.n.length x.cn, .slice x.pl x.l.length x.cl].toArray 60 (0, 0)), G, H] (fun v Hs => v = .int .i64 (err (gl x) c) ∧ Hs = [single b (.cells [.slice x.po x.o.length x.co, .slice x.pn x.n.length x.cn, .slice x.pl x.l.length x.cl].toArray 60 (0, 0)), G, H]) := by
  refine Ct.body Tryz.func87 rfl Tryz.ntmps87 rfl ?_
  intro E F
  have hbo := hg.bo
  have hbn := hg.bn
  have hbl := hg.bl
  replace hbo : x.o.length ≤ 8 := hbo
  replace hbn : x.n.length ≤ k := hbn
  replace hbl : x.l.length ≤ 8 + k := hbl
  obtain ⟨hxo, hxn, hxl⟩ := hx
  obtain ⟨hcf, hct⟩ := hc
  have hsf := hs.1
  have hst := hs.2.1
  refine W.seq ?_
  refine W.region ?_
  refine RL.e (Eff.box 103 _ rfl rfl) rfl ?_
  rintro _ _ ⟨b3, rfl, rfl⟩
  refine RL.q (Yld.assign rfl) rfl ?_
  refine RL.nil ?_
  refine N.next ?_
  refine W.seq ?_
  refine W.region ?_
  refine RL.q (Yld.fieldAddr fo41_3 rfl) rfl ?_
  refine RL.q (Yld.load1 (c := 103) Tryz.underlying22 rfl rfl rfl (by first | exact single_self _ _ | exact pset_self _ _ _ | assumption) rfl) rfl ?_
  refine RL.e (Eff.call ent26 [3] [3, 150] (.cons rfl .nil) (simple_ct c.t _ _ _ hct (by omega)) rfl rfl rfl rfl (by rintro _ _ ⟨_, _, _, _, _, rfl⟩; rfl)) rfl ?_
  rintro _ _ ⟨_, ⟨Ha, pa, ca, rfl, hOa, rfl⟩, rfl⟩
  refine RL.q (Yld.field Tryz.underlying25 rfl rfl (PartV.one Tryz.underlying22 rfl rfl)) rfl ?_
  refine RL.q (Yld.assign rfl) rfl ?_
  refine RL.nil ?_
  refine N.next ?_
  refine W.keep (.cons (k := 0) rfl (.cons (k := 3) rfl (.cons (k := 5) rfl .nil))) (.cons (k := 0) rfl (.cons (k := 1) rfl (.cons (k := 2) rfl (.cons (k := 3) rfl (.cons (k := 103) rfl (.cons (k := 150) rfl .nil)))))) ?_
  refine W.seq ?_
  refine W.block ?_
  refine W.seq ?_
  refine W.draw (.q 0 (.q 1 (.q 4 (.q 5 (.q 6 (.q 7 (.one 2 (.q 3 (.one 8 (.q 9 (.q 10 .done))))))))))) (.cons (k := 0) rfl (.cons (k := 1) rfl (.cons (k := 2) rfl (.cons (k := 3) rfl (.cons (k := 103) rfl (.cons (k := 150) rfl .nil)))))) mix (by kernel_rfl) (by kernel_rfl) ?_
  refine DL.q rfl (Yld.fieldAddr fo41_2 rfl) rfl ?_
  refine DL.q rfl (Yld.load1 (c := 103) Tryz.underlying22 rfl rfl rfl (by first | exact single_self _ _ | exact pset_self _ _ _ | assumption) rfl) rfl ?_
  refine DL.q rfl (Yld.move rfl) rfl ?_
  refine DL.q rfl (Yld.nilP rfl) rfl ?_
  refine DL.q rfl (Yld.fieldAddr fo60_0 rfl) rfl ?_
  refine DL.q rfl (Yld.load1 (c := 1) Tryz.underlying22 rfl rfl rfl (by first | exact single_self _ _ | exact pset_self _ _ _ | assumption) rfl) rfl ?_
  refine DL.one rfl (Eff.call ent26 [3] [3, 151] (.cons rfl .nil) (simple_ct c.f _ _ _ hcf (by omega)) rfl rfl rfl rfl (by rintro _ _ ⟨_, _, _, _, _, rfl⟩; rfl)) rfl (by rintro _ _ ⟨_, ⟨Hb, pb, cb, rfl, hOb, rfl⟩, rfl⟩; repeat (first | exact .nil | refine .cons rfl ?_)) ?_
  rintro _ _ ⟨_, ⟨Hb, pb, cb, rfl, hOb, rfl⟩, rfl⟩
  refine DL.q rfl (Yld.field Tryz.underlying25 rfl rfl (PartV.one Tryz.underlying22 rfl rfl)) rfl ?_
  refine DL.one rfl (Eff.call ent31 [151, 2] [151, 2] (.cons rfl (.cons rfl .nil)) (equal_ct (setL c.f) _ _ _ hOb.sl x.o _ _ _ hxo) rfl rfl rfl rfl (by rintro _ _ ⟨_, rfl⟩; rfl)) rfl (by rintro _ _ ⟨_, ⟨rfl, rfl⟩, rfl⟩; repeat (first | exact .nil | refine .cons rfl ?_)) ?_
  rintro _ _ ⟨_, ⟨rfl, rfl⟩, rfl⟩
  refine DL.q rfl (by first | exact Yld.notD rfl | exact Yld.not rfl) rfl ?_
  refine DL.q rfl (Yld.assign rfl) rfl ?_
  refine DL.done ?_
  refine N.next ?_
  refine W.keep (.cons (k := 0) rfl (.cons (k := 3) rfl (.cons (k := 5) rfl (.cons (k := 10) rfl .nil)))) (.cons (k := 0) rfl (.cons (k := 1) rfl (.cons (k := 2) rfl (.cons (k := 3) rfl (.cons (k := 103) rfl (.cons (k := 150) rfl (.cons (k := 151) rfl .nil))))))) ?_
  first | refine W.condD rfl (fun hc10 => ?_) (fun hc10 => ?_) | (refine W.cond rfl (fun hc10 => ?_) (fun hc10 => ?_) <;> try simp only [Bool.or_eq_true, Bool.and_eq_true, Bool.not_eq_true', Bool.not_eq_false', decide_eq_true_eq, Bool.or_eq_false_iff, Bool.and_eq_false_iff, decide_eq_false_iff_not, beq_iff_eq, beq_eq_false_iff_ne, ne_eq, Decidable.not_not] at hc10)
  ·
    have hq : ¬ setL c.f = (gl x).o := hc10
    refine W.seq ?_
    refine W.region ?_
    refine RL.q (Yld.assign rfl) rfl ?_
    refine RL.nil ?_
    refine N.next ?_
    refine W.keep (.cons (k := 4) rfl .nil) (.cons (k := 0) rfl (.cons (k := 1) rfl (.cons (k := 2) rfl (.cons (k := 3) rfl (.cons (k := 103) rfl (.cons (k := 150) rfl (.cons (k := 151) rfl .nil))))))) ?_
    refine W.ret ?_
    refine N.block_ret ?_
    refine N.then_ret ?_
    exact N.retBy [1, 2, 3] (.cons (.tmp rfl) .nil) rfl rfl rfl rfl ⟨by rw [err2_eq h0, if_pos hq]; rfl, rfl⟩
  ·
    have hq : setL c.f = (gl x).o := Decidable.not_not.1 hc10
    have hsl := setL_len c.t
    have hml := minus_len (l := setL c.t) (m := x.o)
    have hml2 := minus_len (l := minusL (setL c.t) x.o) (m := x.n)
    refine W.seq ?_
    refine W.region ?_
    refine RL.q (Yld.fieldAddr fo41_3 rfl) rfl ?_
    refine RL.q (Yld.load1 (c := 103) Tryz.underlying22 rfl rfl rfl (by first | exact single_self _ _ | exact pset_self _ _ _ | assumption) rfl) rfl ?_
    refine RL.q (Yld.lenSl Tryz.underlying22 rfl) rfl ?_
    refine RL.q (Yld.bin rfl rfl BinV.lss) rfl ?_
    refine RL.q (Yld.move rfl) rfl ?_
    refine' RL.or (t := 26) (d := 31) 5 rfl (.cons (k := 0) rfl (.cons (k := 3) rfl (.cons (k := 5) rfl (.cons (k := 10) rfl (.cons (k := 22) rfl (.cons (k := 23) rfl (.cons (k := 24) rfl (.cons (k := 25) rfl .nil)))))))) (.cons (k := 0) rfl (.cons (k := 1) rfl (.cons (k := 2) rfl (.cons (k := 3) rfl (.cons (k := 103) rfl (.cons (k := 150) rfl (.cons (k := 151) rfl .nil))))))) ?_ ?_ ?_
    rotate_left 1
    ·
      intro hg26
      refine RL.gq rfl rfl (Yld.fieldAddr fo41_3 rfl) rfl ?_
      refine RL.gq rfl rfl (Yld.load1 (c := 103) Tryz.underlying22 rfl rfl rfl (by first | exact single_self _ _ | exact pset_self _ _ _ | assumption) rfl) rfl ?_
      refine RL.gq rfl rfl (Yld.lenSl Tryz.underlying22 rfl) rfl ?_
      refine RL.gq rfl rfl (Yld.bin rfl rfl BinV.gtr) rfl ?_
      refine RL.q (by first | exact Yld.pickT rfl rfl | exact Yld.pickF rfl rfl) rfl ?_
      exact RL.nil (N.meet (.cons rfl (.cons rfl (.cons rfl (.cons rfl (.cons rfl (.cons rfl (.cons rfl (.cons rfl (.cons rfl .nil))))))))) (.cons rfl (.cons rfl (.cons rfl (.cons rfl (.cons rfl (.cons rfl (.cons rfl .nil))))))))
    ·
      intro hg26
      refine RL.gskip rfl rfl rfl rfl ?_
      refine RL.gskip rfl rfl rfl rfl ?_
      refine RL.gskip rfl rfl rfl rfl ?_
      refine RL.gskip rfl rfl rfl rfl ?_
      refine RL.q (by first | exact Yld.pickT rfl rfl | exact Yld.pickF rfl rfl) rfl ?_
      exact RL.nil (N.meet (.cons rfl (.cons rfl (.cons rfl (.cons rfl (.cons rfl (.cons rfl (.cons rfl (.cons rfl (.cons rfl .nil))))))))) (.cons rfl (.cons rfl (.cons rfl (.cons rfl (.cons rfl (.cons rfl (.cons rfl .nil))))))))
    refine RL.q (Yld.move rfl) rfl ?_
    refine' RL.or (t := 32) (d := 38) 6 rfl (.cons (k := 0) rfl (.cons (k := 3) rfl (.cons (k := 5) rfl (.cons (k := 10) rfl (.cons (k := 22) rfl (.cons (k := 23) rfl (.cons (k := 24) rfl (.cons (k := 25) rfl (.cons (k := 31) rfl .nil))))))))) (.cons (k := 0) rfl (.cons (k := 1) rfl (.cons (k := 2) rfl (.cons (k := 3) rfl (.cons (k := 103) rfl (.cons (k := 150) rfl (.cons (k := 151) rfl .nil))))))) ?_ ?_ ?_
    rotate_left 1
    ·
      intro hg32
      refine RL.gq rfl rfl (Yld.move rfl) rfl ?_
      refine RL.gq rfl rfl (Yld.fieldAddr fo41_3 rfl) rfl ?_
      refine RL.gq rfl rfl (Yld.load1 (c := 103) Tryz.underlying22 rfl rfl rfl (by first | exact single_self _ _ | exact pset_self _ _ _ | assumption) rfl) rfl ?_
      refine RL.ge rfl rfl (Eff.call ent31 [150, 3] [150, 3] (.cons rfl (.cons rfl .nil)) (equal_ct (setL c.t) _ _ _ hOa.sl c.t _ _ _ hct) rfl rfl rfl rfl (by rintro _ _ ⟨_, rfl⟩; rfl)) rfl ?_
      rintro _ _ ⟨_, ⟨rfl, rfl⟩, rfl⟩
      refine RL.gq rfl rfl (by first | exact Yld.notD rfl | exact Yld.not rfl) rfl ?_
      refine RL.q (by first | exact Yld.pickT rfl rfl | exact Yld.pickF rfl rfl) rfl ?_
      exact RL.nil (N.meet (.cons rfl (.cons rfl (.cons rfl (.cons rfl (.cons rfl (.cons rfl (.cons rfl (.cons rfl (.cons rfl (.cons rfl .nil)))))))))) (.cons rfl (.cons rfl (.cons rfl (.cons rfl (.cons rfl (.cons rfl (.cons rfl .nil))))))))
    ·
      intro hg32
      refine RL.gskip rfl rfl rfl rfl ?_
      refine RL.gskip rfl rfl rfl rfl ?_
      refine RL.gskip rfl rfl rfl rfl ?_
      refine RL.gskip rfl rfl rfl rfl ?_
      refine RL.gskip rfl rfl rfl rfl ?_
      refine RL.q (by first | exact Yld.pickT rfl rfl | exact Yld.pickF rfl rfl) rfl ?_
      exact RL.nil (N.meet (.cons rfl (.cons rfl (.cons rfl (.cons rfl (.cons rfl (.cons rfl (.cons rfl (.cons rfl (.cons rfl (.cons rfl .nil)))))))))) (.cons rfl (.cons rfl (.cons rfl (.cons rfl (.cons rfl (.cons rfl (.cons rfl .nil))))))))
    refine RL.q (Yld.assign rfl) rfl ?_
    refine RL.nil ?_
    refine N.next ?_
    refine W.keep (.cons (k := 0) rfl (.cons (k := 5) rfl (.cons (k := 21) rfl .nil))) (.cons (k := 0) rfl (.cons (k := 1) rfl (.cons (k := 2) rfl (.cons (k := 3) rfl (.cons (k := 103) rfl (.cons (k := 150) rfl (.cons (k := 151) rfl .nil))))))) ?_
    first | refine W.condD rfl (fun hc21 => ?_) (fun hc21 => ?_) | (refine W.cond rfl (fun hc21 => ?_) (fun hc21 => ?_) <;> try simp only [Bool.or_eq_true, Bool.and_eq_true, Bool.not_eq_true', Bool.not_eq_false', decide_eq_true_eq, Bool.or_eq_false_iff, Bool.and_eq_false_iff, decide_eq_false_iff_not, beq_iff_eq, beq_eq_false_iff_ne, ne_eq, Decidable.not_not] at hc21)
    ·
      have hr : c.t.length < 1 ∨ 7 < c.t.length ∨ setL c.t ≠ c.t := by
        rcases hc21 with (h | h) | h
        · exact .inl (by omega)
        · exact .inr (.inl (by omega))
        · exact .inr (.inr h)
      refine W.seq ?_
      refine W.region ?_
      refine RL.q (Yld.assign rfl) rfl ?_
      refine RL.nil ?_
      refine N.next ?_
      refine W.ret ?_
      refine N.block_ret ?_
      refine N.then_ret ?_
      exact N.retBy [1, 2, 3] (.cons (.tmp rfl) .nil) rfl rfl rfl rfl ⟨by rw [err2_eq h0, if_neg (fun h => h hq), if_pos hr]; rfl, rfl⟩
    ·
      have hr : ¬ (c.t.length < 1 ∨ 7 < c.t.length ∨ setL c.t ≠ c.t) := by
        rintro (h | h | h)
        · omega
        · omega
        · exact h hc21.2
      have het : setL c.t = c.t := hc21.2
      refine W.seq ?_
      refine W.draw (.q 0 (.q 1 (.q 2 (.q 3 (.q 4 (.q 6 (.q 7 (.q 8 (.q 9 (.one 5 (.one 10 (.q 11 (.q 12 (.q 13 .done)))))))))))))) (.cons (k := 0) rfl (.cons (k := 1) rfl (.cons (k := 2) rfl (.cons (k := 3) rfl (.cons (k := 103) rfl (.cons (k := 150) rfl (.cons (k := 151) rfl .nil))))))) mix (by kernel_rfl) (by kernel_rfl) ?_
      refine DL.q rfl (Yld.move rfl) rfl ?_
      refine DL.q rfl (Yld.move rfl) rfl ?_
      refine DL.q rfl (Yld.nilP rfl) rfl ?_
      refine DL.q rfl (Yld.fieldAddr fo60_0 rfl) rfl ?_
      refine DL.q rfl (Yld.load1 (c := 1) Tryz.underlying22 rfl rfl rfl (by first | exact single_self _ _ | exact pset_self _ _ _ | assumption) rfl) rfl ?_
      refine DL.q rfl (Yld.move rfl) rfl ?_
      refine DL.q rfl (Yld.nilP rfl) rfl ?_
      refine DL.q rfl (Yld.fieldAddr fo60_1 rfl) rfl ?_
      refine DL.q rfl (Yld.load1 (c := 1) Tryz.underlying22 rfl rfl rfl (by first | exact single_self _ _ | exact pset_self _ _ _ | assumption) rfl) rfl ?_
      refine DL.one rfl (Eff.call ent80 [150, 2] [150, 2, 152] (.cons rfl (.cons rfl .nil)) (mwo_ct (setL c.t) _ _ _ hOa.sl x.o _ _ _ hxo (by omega)) rfl rfl rfl rfl (by rintro _ _ ⟨_, _, _, _, _, rfl⟩; rfl)) rfl (by rintro _ _ ⟨_, ⟨Hc, pc, cc, rfl, hOc, rfl⟩, rfl⟩; repeat (first | exact .nil | refine .cons rfl ?_)) ?_
      rintro _ _ ⟨_, ⟨Hc, pc, cc, rfl, hOc, rfl⟩, rfl⟩
      refine DL.one rfl (Eff.call ent80 [152, 2] [152, 2, 153] (.cons rfl (.cons rfl .nil)) (mwo_ct (minusL (setL c.t) x.o) _ _ _ hOc.sl x.n _ _ _ hxn (by omega)) rfl rfl rfl rfl (by rintro _ _ ⟨_, _, _, _, _, rfl⟩; rfl)) rfl (by rintro _ _ ⟨_, ⟨Hd, pd, cd, rfl, hOd, rfl⟩, rfl⟩; repeat (first | exact .nil | refine .cons rfl ?_)) ?_
      rintro _ _ ⟨_, ⟨Hd, pd, cd, rfl, hOd, rfl⟩, rfl⟩
      refine DL.q rfl (Yld.lenSl Tryz.underlying22 rfl) rfl ?_
      refine DL.q rfl (Yld.bin rfl rfl BinV.gtr) rfl ?_
      refine DL.q rfl (Yld.assign rfl) rfl ?_
      refine DL.done ?_
      refine N.next ?_
      refine W.keep (.cons (k := 39) rfl .nil) (.cons (k := 0) rfl (.cons (k := 1) rfl (.cons (k := 2) rfl (.cons (k := 3) rfl (.cons (k := 103) rfl (.cons (k := 150) rfl (.cons (k := 151) rfl (.cons (k := 152) rfl (.cons (k := 153) rfl .nil))))))))) ?_
      first | refine W.condD rfl (fun hc39 => ?_) (fun hc39 => ?_) | (refine W.cond rfl (fun hc39 => ?_) (fun hc39 => ?_) <;> try simp only [Bool.or_eq_true, Bool.and_eq_true, Bool.not_eq_true', Bool.not_eq_false', decide_eq_true_eq, Bool.or_eq_false_iff, Bool.and_eq_false_iff, decide_eq_false_iff_not, beq_iff_eq, beq_eq_false_iff_ne, ne_eq, Decidable.not_not] at hc39)
      ·
        have hm : 0 < (minusL (minusL c.t (gl x).o) (gl x).n).length := by
          show 0 < (minusL (minusL c.t x.o) x.n).length
          rw [← het]; omega
        refine W.seq ?_
        refine W.region ?_
        refine RL.q (Yld.assign rfl) rfl ?_
        refine RL.nil ?_
        refine N.next ?_
        refine W.ret ?_
        refine N.block_ret ?_
        refine N.then_ret ?_
        exact N.retBy [1, 2, 3] (.cons (.tmp rfl) .nil) rfl rfl rfl rfl ⟨by rw [err2_eq h0, if_neg (fun h => h hq), if_neg hr, if_pos hm]; rfl, rfl⟩
      ·
        have hm : ¬ 0 < (minusL (minusL c.t (gl x).o) (gl x).n).length := by
          show ¬ 0 < (minusL (minusL c.t x.o) x.n).length
          rw [← het]; omega
        refine W.skip ?_
        refine N.block_normal ?_
        refine N.next ?_
        refine W.seq ?_
        refine W.region ?_
        refine RL.q (Yld.assign rfl) rfl ?_
        refine RL.nil ?_
        refine N.next ?_
        refine W.ret ?_
        exact N.retBy [1, 2, 3] (.cons (.tmp rfl) .nil) rfl rfl rfl rfl ⟨by rw [err2_eq h0, if_neg (fun h => h hq), if_neg hr, if_neg hm]; rfl, rfl⟩

set_option maxRecDepth 100000 in
set_option maxHeartbeats 1600000 in
theorem mk0_ct (b : Nat) (x : Cf) (G : PH) (hx : x.In G) (c : Ch) (H : PH) (hc : c.In H) (k : Nat) (hk : k ≤ 1000) (hg : GOK k (gl x)) (hs : c.Sm) (h0 : c.k = 0) : Ct Tryz.prog 83 [.pointer (some ⟨b, 0, none⟩), .agg [.int .i64 c.k, .int .i64 c.m, .slice c.pf c.f.length c.cf, .slice c.pt c.t.length c.ct].toArray] [single b (.cells [.slice x.po x.o.length x.co, .slice x.pn x.n.length x.cn, .slice x.pl x.l.length x.cl].toArray 60 (0, 0)), G, H] (fun v Hs => ∃ (y : Cf) (G' : PH), v = .tuple #[] ∧ y.In G' ∧ gl y = mkG (gl x) c ∧ Hs = [single b (.cells [.slice y.po y.o.length y.co, .slice y.pn y.n.length y.cn, .slice y.pl y.l.length y.cl].toArray 60 (0, 0)), G', H]) := by
  refine Ct.body Tryz.func83 rfl Tryz.ntmps83 rfl ?_
  intro E F
  have hbo := hg.bo
  have hbn := hg.bn
  have hbl := hg.bl
  replace hbo : x.o.length ≤ 8 := hbo
  replace hbn : x.n.length ≤ k := hbn
  replace hbl : x.l.length ≤ 8 + k := hbl
  obtain ⟨hxo, hxn, hxl⟩ := hx
  obtain ⟨hcf, hct⟩ := hc
  have hsf := hs.1
  have hst := hs.2.1
  refine W.seq ?_
  refine W.region ?_
  refine RL.e (Eff.box 103 _ rfl rfl) rfl ?_
  rintro _ _ ⟨b3, rfl, rfl⟩
  refine RL.nil ?_
  refine N.next ?_
  refine W.draw (.q 0 (.q 1 (.q 2 (.q 3 (.q 4 (.q 6 (.q 7 (.q 9 (.q 10 (.q 11 (.q 13 (.q 14 (.two 5 (.two 8 (.one 12 (.one 15 (.q 16 (.q 17 (.one 18 (.q 19 (.q 20 (.one 21 .done)))))))) 12 (.one 8 (.one 15 (.q 16 (.q 17 (.one 18 (.q 19 (.q 20 (.one 21 .done))))))))) 12 (.one 5 (.one 8 (.one 15 (.q 16 (.q 17 (.one 18 (.q 19 (.q 20 (.one 21 .done)))))))))))))))))))))) (.cons (k := 0) rfl (.cons (k := 2) rfl (.cons (k := 3) rfl (.cons (k := 103) rfl .nil)))) mix (by kernel_rfl) (by kernel_rfl) ?_
  refine DL.q rfl (Yld.move rfl) rfl ?_
  refine DL.q rfl (Yld.move rfl) rfl ?_
  refine DL.q rfl (Yld.move rfl) rfl ?_
  refine DL.q rfl (Yld.nilP rfl) rfl ?_
  refine DL.q rfl (Yld.fieldAddr fo60_2 rfl) rfl ?_
  refine DL.q rfl (Yld.fieldAddr fo41_1 rfl) rfl ?_
  refine DL.q rfl (Yld.load1 (c := 103) Tryz.underlying3 rfl rfl rfl (by first | exact single_self _ _ | exact pset_self _ _ _ | assumption) rfl) rfl ?_
  refine DL.q rfl (Yld.move rfl) rfl ?_
  refine DL.q rfl (Yld.nilP rfl) rfl ?_
  refine DL.q rfl (Yld.fieldAddr fo60_1 rfl) rfl ?_
  refine DL.q rfl (Yld.fieldAddr fo41_1 rfl) rfl ?_
  refine DL.q rfl (Yld.load1 (c := 103) Tryz.underlying3 rfl rfl rfl (by first | exact single_self _ _ | exact pset_self _ _ _ | assumption) rfl) rfl ?_
  refine DL.two ?_ ?_
  ·
    refine DL.one rfl (Yld.eff (Yld.load1 (c := 1) Tryz.underlying22 rfl rfl rfl (by first | exact single_self _ _ | exact pset_self _ _ _ | assumption) rfl)) rfl (by rintro _ _ ⟨rfl, rfl⟩; repeat (first | exact .nil | refine .cons rfl ?_)) ?_
    rintro _ _ ⟨rfl, rfl⟩
    refine DL.two ?_ ?_
    ·
      refine DL.one rfl (Eff.call ent84 [2] [2, 150] (.cons rfl (.cons rfl .nil)) (mwith_ct x.l _ _ _ hxl c.m (by omega)) rfl rfl rfl rfl (by rintro _ _ ⟨_, _, _, _, _, rfl⟩; rfl)) rfl (by rintro _ _ ⟨_, ⟨Ha, pa, ca, rfl, hOa, rfl⟩, rfl⟩; repeat (first | exact .nil | refine .cons rfl ?_)) ?_
      rintro _ _ ⟨_, ⟨Ha, pa, ca, rfl, hOa, rfl⟩, rfl⟩
      refine DL.one rfl (Yld.eff (Yld.load1 (c := 1) Tryz.underlying22 rfl rfl rfl (by first | exact single_self _ _ | exact pset_self _ _ _ | assumption) rfl)) rfl (by rintro _ _ ⟨rfl, rfl⟩; repeat (first | exact .nil | refine .cons rfl ?_)) ?_
      rintro _ _ ⟨rfl, rfl⟩
      refine DL.one rfl (Eff.call ent84 [2] [2, 151] (.cons rfl (.cons rfl .nil)) (mwith_ct x.n _ _ _ hxn c.m (by omega)) rfl rfl rfl rfl (by rintro _ _ ⟨_, _, _, _, _, rfl⟩; rfl)) rfl (by rintro _ _ ⟨_, ⟨Hb, pb, cb, rfl, hOb, rfl⟩, rfl⟩; repeat (first | exact .nil | refine .cons rfl ?_)) ?_
      rintro _ _ ⟨_, ⟨Hb, pb, cb, rfl, hOb, rfl⟩, rfl⟩
      refine DL.q rfl (Yld.nilP rfl) rfl ?_
      refine DL.q rfl (Yld.fieldAddr fo60_2 rfl) rfl ?_
      refine DL.one0 rfl (Eff.storeS (c := 1) _ sz22 rfl rfl rfl rfl rfl rfl rfl (by (try simp only [putAt, List.take, List.drop, List.nil_append, List.cons_append, List.append_nil, List.length_cons, List.length_nil, Nat.add_zero, Nat.zero_add, Nat.reduceAdd]); rfl)) (by rintro _ _ rfl; repeat (first | exact .nil | refine .cons rfl ?_)) ?_
      rintro _ _ rfl
      refine DL.q rfl (Yld.nilP rfl) rfl ?_
      refine DL.q rfl (Yld.fieldAddr fo60_1 rfl) rfl ?_
      refine DL.one0 rfl (Eff.storeS (c := 1) _ sz22 rfl rfl rfl rfl rfl rfl rfl (by (try simp only [putAt, List.take, List.drop, List.nil_append, List.cons_append, List.append_nil, List.length_cons, List.length_nil, Nat.add_zero, Nat.zero_add, Nat.reduceAdd]); rfl)) (by rintro _ _ rfl; repeat (first | exact .nil | refine .cons rfl ?_)) ?_
      rintro _ _ rfl
      refine DL.done ?_
      refine N.merge 2 150 rfl rfl rfl fun ha1 => ?_
      refine N.merge 2 151 rfl rfl rfl fun ha2 => ?_
      exact N.endBy [1, 2, 3] .nil rfl rfl rfl rfl ⟨⟨x.o, setL (x.n ++ [c.m]), setL (x.l ++ [c.m]), x.po, x.co, pb, cb, pa, ca⟩, _, rfl, ⟨(hxo.mono hjoin_l).mono hjoin_l, hOb.sl.mono ha2, (hOa.sl.mono ha1).mono hjoin_l⟩, by unfold mkG; rw [if_pos h0]; rfl, rfl⟩
    ·
      refine DL.one rfl (Yld.eff (Yld.load1 (c := 1) Tryz.underlying22 rfl rfl rfl (by first | exact single_self _ _ | exact pset_self _ _ _ | assumption) rfl)) rfl (by rintro _ _ ⟨rfl, rfl⟩; repeat (first | exact .nil | refine .cons rfl ?_)) ?_
      rintro _ _ ⟨rfl, rfl⟩
      refine DL.one rfl (Eff.call ent84 [2] [2, 150] (.cons rfl (.cons rfl .nil)) (mwith_ct x.l _ _ _ hxl c.m (by omega)) rfl rfl rfl rfl (by rintro _ _ ⟨_, _, _, _, _, rfl⟩; rfl)) rfl (by rintro _ _ ⟨_, ⟨Ha, pa, ca, rfl, hOa, rfl⟩, rfl⟩; repeat (first | exact .nil | refine .cons rfl ?_)) ?_
      rintro _ _ ⟨_, ⟨Ha, pa, ca, rfl, hOa, rfl⟩, rfl⟩
      refine DL.one rfl (Eff.call ent84 [2] [2, 151] (.cons rfl (.cons rfl .nil)) (mwith_ct x.n _ _ _ hxn c.m (by omega)) rfl rfl rfl rfl (by rintro _ _ ⟨_, _, _, _, _, rfl⟩; rfl)) rfl (by rintro _ _ ⟨_, ⟨Hb, pb, cb, rfl, hOb, rfl⟩, rfl⟩; repeat (first | exact .nil | refine .cons rfl ?_)) ?_
      rintro _ _ ⟨_, ⟨Hb, pb, cb, rfl, hOb, rfl⟩, rfl⟩
      refine DL.q rfl (Yld.nilP rfl) rfl ?_
      refine DL.q rfl (Yld.fieldAddr fo60_2 rfl) rfl ?_
      refine DL.one0 rfl (Eff.storeS (c := 1) _ sz22 rfl rfl rfl rfl rfl rfl rfl (by (try simp only [putAt, List.take, List.drop, List.nil_append, List.cons_append, List.append_nil, List.length_cons, List.length_nil, Nat.add_zero, Nat.zero_add, Nat.reduceAdd]); rfl)) (by rintro _ _ rfl; repeat (first | exact .nil | refine .cons rfl ?_)) ?_
      rintro _ _ rfl
      refine DL.q rfl (Yld.nilP rfl) rfl ?_
      refine DL.q rfl (Yld.fieldAddr fo60_1 rfl) rfl ?_
      refine DL.one0 rfl (Eff.storeS (c := 1) _ sz22 rfl rfl rfl rfl rfl rfl rfl (by (try simp only [putAt, List.take, List.drop, List.nil_append, List.cons_append, List.append_nil, List.length_cons, List.length_nil, Nat.add_zero, Nat.zero_add, Nat.reduceAdd]); rfl)) (by rintro _ _ rfl; repeat (first | exact .nil | refine .cons rfl ?_)) ?_
      rintro _ _ rfl
      refine DL.done ?_
      refine N.merge 2 150 rfl rfl rfl fun ha1 => ?_
      refine N.merge 2 151 rfl rfl rfl fun ha2 => ?_
      exact N.endBy [1, 2, 3] .nil rfl rfl rfl rfl ⟨⟨x.o, setL (x.n ++ [c.m]), setL (x.l ++ [c.m]), x.po, x.co, pb, cb, pa, ca⟩, _, rfl, ⟨(hxo.mono hjoin_l).mono hjoin_l, hOb.sl.mono ha2, (hOa.sl.mono ha1).mono hjoin_l⟩, by unfold mkG; rw [if_pos h0]; rfl, rfl⟩
  ·
    refine DL.one rfl (Yld.eff (Yld.load1 (c := 1) Tryz.underlying22 rfl rfl rfl (by first | exact single_self _ _ | exact pset_self _ _ _ | assumption) rfl)) rfl (by rintro _ _ ⟨rfl, rfl⟩; repeat (first | exact .nil | refine .cons rfl ?_)) ?_
    rintro _ _ ⟨rfl, rfl⟩
    refine DL.one rfl (Yld.eff (Yld.load1 (c := 1) Tryz.underlying22 rfl rfl rfl (by first | exact single_self _ _ | exact pset_self _ _ _ | assumption) rfl)) rfl (by rintro _ _ ⟨rfl, rfl⟩; repeat (first | exact .nil | refine .cons rfl ?_)) ?_
    rintro _ _ ⟨rfl, rfl⟩
    refine DL.one rfl (Eff.call ent84 [2] [2, 150] (.cons rfl (.cons rfl .nil)) (mwith_ct x.l _ _ _ hxl c.m (by omega)) rfl rfl rfl rfl (by rintro _ _ ⟨_, _, _, _, _, rfl⟩; rfl)) rfl (by rintro _ _ ⟨_, ⟨Ha, pa, ca, rfl, hOa, rfl⟩, rfl⟩; repeat (first | exact .nil | refine .cons rfl ?_)) ?_
    rintro _ _ ⟨_, ⟨Ha, pa, ca, rfl, hOa, rfl⟩, rfl⟩
    refine DL.one rfl (Eff.call ent84 [2] [2, 151] (.cons rfl (.cons rfl .nil)) (mwith_ct x.n _ _ _ hxn c.m (by omega)) rfl rfl rfl rfl (by rintro _ _ ⟨_, _, _, _, _, rfl⟩; rfl)) rfl (by rintro _ _ ⟨_, ⟨Hb, pb, cb, rfl, hOb, rfl⟩, rfl⟩; repeat (first | exact .nil | refine .cons rfl ?_)) ?_
    rintro _ _ ⟨_, ⟨Hb, pb, cb, rfl, hOb, rfl⟩, rfl⟩
    refine DL.q rfl (Yld.nilP rfl) rfl ?_
    refine DL.q rfl (Yld.fieldAddr fo60_2 rfl) rfl ?_
    refine DL.one0 rfl (Eff.storeS (c := 1) _ sz22 rfl rfl rfl rfl rfl rfl rfl (by (try simp only [putAt, List.take, List.drop, List.nil_append, List.cons_append, List.append_nil, List.length_cons, List.length_nil, Nat.add_zero, Nat.zero_add, Nat.reduceAdd]); rfl)) (by rintro _ _ rfl; repeat (first | exact .nil | refine .cons rfl ?_)) ?_
    rintro _ _ rfl
    refine DL.q rfl (Yld.nilP rfl) rfl ?_
    refine DL.q rfl (Yld.fieldAddr fo60_1 rfl) rfl ?_
    refine DL.one0 rfl (Eff.storeS (c := 1) _ sz22 rfl rfl rfl rfl rfl rfl rfl (by (try simp only [putAt, List.take, List.drop, List.nil_append, List.cons_append, List.append_nil, List.length_cons, List.length_nil, Nat.add_zero, Nat.zero_add, Nat.reduceAdd]); rfl)) (by rintro _ _ rfl; repeat (first | exact .nil | refine .cons rfl ?_)) ?_
    rintro _ _ rfl
    refine DL.done ?_
    refine N.merge 2 150 rfl rfl rfl fun ha1 => ?_
    refine N.merge 2 151 rfl rfl rfl fun ha2 => ?_
    exact N.endBy [1, 2, 3] .nil rfl rfl rfl rfl ⟨⟨x.o, setL (x.n ++ [c.m]), setL (x.l ++ [c.m]), x.po, x.co, pb, cb, pa, ca⟩, _, rfl, ⟨(hxo.mono hjoin_l).mono hjoin_l, hOb.sl.mono ha2, (hOa.sl.mono ha1).mono hjoin_l⟩, by unfold mkG; rw [if_pos h0]; rfl, rfl⟩

set_option maxRecDepth 100000 in
set_option maxHeartbeats 1600000 in
theorem mk1_ct (b : Nat) (x : Cf) (G : PH) (hx : x.In G) (c : Ch) (H : PH) (hc : c.In H) (k : Nat) (hk : k ≤ 1000) (hg : GOK k (gl x)) (hs : c.Sm) (h0 : c.k = 1) : Ct Tryz.prog 86 [.pointer (some ⟨b, 0, none⟩), .agg [.int .i64 c.k, .int .i64 c.m, .slice c.pf c.f.length c.cf, .slice c.pt c.t.length c.ct].toArray] [single b (.cells [.slice x.po x.o.length x.co, .slice x.pn x.n.length x.cn, .slice x.pl x.l.length x.cl].toArray 60 (0, 0)), G, H] (fun v Hs => ∃ (y : Cf) (G' : PH), v = .tuple #[] ∧ y.In G' ∧ gl y = mkG (gl x) c ∧ Hs = [single b (.cells [.slice y.po y.o.length y.co, .slice y.pn y.n.length y.cn, .slice y.pl y.l.length y.cl].toArray 60 (0, 0)), G', H]) := by
  refine Ct.body Tryz.func86 rfl Tryz.ntmps86 rfl ?_
  intro E F
  have hbo := hg.bo
  have hbn := hg.bn
  have hbl := hg.bl
  replace hbo : x.o.length ≤ 8 := hbo
  replace hbn : x.n.length ≤ k := hbn
  replace hbl : x.l.length ≤ 8 + k := hbl
  obtain ⟨hxo, hxn, hxl⟩ := hx
  obtain ⟨hcf, hct⟩ := hc
  have hsf := hs.1
  have hst := hs.2.1
  refine W.seq ?_
  refine W.region ?_
  refine RL.e (Eff.box 103 _ rfl rfl) rfl ?_
  rintro _ _ ⟨b3, rfl, rfl⟩
  refine RL.nil ?_
  refine N.next ?_
  refine W.draw (.q 0 (.q 1 (.q 2 (.q 3 (.q 5 (.q 6 (.two 4 (.one 7 (.one 8 (.q 9 (.q 10 (.one 11 .done))))) 7 (.one 4 (.one 8 (.q 9 (.q 10 (.one 11 .done)))))))))))) (.cons (k := 0) rfl (.cons (k := 2) rfl (.cons (k := 3) rfl (.cons (k := 103) rfl .nil)))) mix (by kernel_rfl) (by kernel_rfl) ?_
  refine DL.q rfl (Yld.move rfl) rfl ?_
  refine DL.q rfl (Yld.move rfl) rfl ?_
  refine DL.q rfl (Yld.nilP rfl) rfl ?_
  refine DL.q rfl (Yld.fieldAddr fo60_1 rfl) rfl ?_
  refine DL.q rfl (Yld.fieldAddr fo41_1 rfl) rfl ?_
  refine DL.q rfl (Yld.load1 (c := 103) Tryz.underlying3 rfl rfl rfl (by first | exact single_self _ _ | exact pset_self _ _ _ | assumption) rfl) rfl ?_
  refine DL.two ?_ ?_
  ·
    refine DL.one rfl (Yld.eff (Yld.load1 (c := 1) Tryz.underlying22 rfl rfl rfl (by first | exact single_self _ _ | exact pset_self _ _ _ | assumption) rfl)) rfl (by rintro _ _ ⟨rfl, rfl⟩; repeat (first | exact .nil | refine .cons rfl ?_)) ?_
    rintro _ _ ⟨rfl, rfl⟩
    refine DL.one rfl (Eff.buildSlice 111 Tryz.underlying22 sz3 zc3 rfl rfl (.cons rfl rfl .nil) rfl) rfl (by rintro _ _ ⟨b11, rfl, rfl⟩; repeat (first | exact .nil | refine .cons rfl ?_)) ?_
    rintro _ _ ⟨b11, rfl, rfl⟩
    refine DL.one rfl (Eff.call ent80 [2, 111] [2, 111, 150] (.cons rfl (.cons rfl .nil)) (mwo_ct x.n _ _ _ hxn [c.m] _ _ _ (iz_single rfl) (by omega)) rfl rfl rfl rfl (by rintro _ _ ⟨_, _, _, _, _, rfl⟩; rfl)) rfl (by rintro _ _ ⟨_, ⟨Ha, pa, ca, rfl, hOa, rfl⟩, rfl⟩; repeat (first | exact .nil | refine .cons rfl ?_)) ?_
    rintro _ _ ⟨_, ⟨Ha, pa, ca, rfl, hOa, rfl⟩, rfl⟩
    refine DL.q rfl (Yld.nilP rfl) rfl ?_
    refine DL.q rfl (Yld.fieldAddr fo60_1 rfl) rfl ?_
    refine DL.one0 rfl (Eff.storeS (c := 1) _ sz22 rfl rfl rfl rfl rfl rfl rfl (by (try simp only [putAt, List.take, List.drop, List.nil_append, List.cons_append, List.append_nil, List.length_cons, List.length_nil, Nat.add_zero, Nat.zero_add, Nat.reduceAdd]); rfl)) (by rintro _ _ rfl; repeat (first | exact .nil | refine .cons rfl ?_)) ?_
    rintro _ _ rfl
    refine DL.done ?_
    refine N.merge 2 150 rfl rfl rfl fun ha1 => ?_
    exact N.endBy [1, 2, 3] .nil rfl rfl rfl rfl ⟨⟨x.o, minusL x.n [c.m], x.l, x.po, x.co, pa, ca, x.pl, x.cl⟩, _, rfl, ⟨hxo.mono hjoin_l, hOa.sl.mono ha1, hxl.mono hjoin_l⟩, by unfold mkG; rw [if_neg (by omega), if_pos h0]; rfl, rfl⟩
  ·
    refine DL.one rfl (Eff.buildSlice 111 Tryz.underlying22 sz3 zc3 rfl rfl (.cons rfl rfl .nil) rfl) rfl (by rintro _ _ ⟨b11, rfl, rfl⟩; repeat (first | exact .nil | refine .cons rfl ?_)) ?_
    rintro _ _ ⟨b11, rfl, rfl⟩
    refine DL.one rfl (Yld.eff (Yld.load1 (c := 1) Tryz.underlying22 rfl rfl rfl (by first | exact single_self _ _ | exact pset_self _ _ _ | assumption) rfl)) rfl (by rintro _ _ ⟨rfl, rfl⟩; repeat (first | exact .nil | refine .cons rfl ?_)) ?_
    rintro _ _ ⟨rfl, rfl⟩
    refine DL.one rfl (Eff.call ent80 [2, 111] [2, 111, 150] (.cons rfl (.cons rfl .nil)) (mwo_ct x.n _ _ _ hxn [c.m] _ _ _ (iz_single rfl) (by omega)) rfl rfl rfl rfl (by rintro _ _ ⟨_, _, _, _, _, rfl⟩; rfl)) rfl (by rintro _ _ ⟨_, ⟨Ha, pa, ca, rfl, hOa, rfl⟩, rfl⟩; repeat (first | exact .nil | refine .cons rfl ?_)) ?_
    rintro _ _ ⟨_, ⟨Ha, pa, ca, rfl, hOa, rfl⟩, rfl⟩
    refine DL.q rfl (Yld.nilP rfl) rfl ?_
    refine DL.q rfl (Yld.fieldAddr fo60_1 rfl) rfl ?_
    refine DL.one0 rfl (Eff.storeS (c := 1) _ sz22 rfl rfl rfl rfl rfl rfl rfl (by (try simp only [putAt, List.take, List.drop, List.nil_append, List.cons_append, List.append_nil, List.length_cons, List.length_nil, Nat.add_zero, Nat.zero_add, Nat.reduceAdd]); rfl)) (by rintro _ _ rfl; repeat (first | exact .nil | refine .cons rfl ?_)) ?_
    rintro _ _ rfl
    refine DL.done ?_
    refine N.merge 2 150 rfl rfl rfl fun ha1 => ?_
    exact N.endBy [1, 2, 3] .nil rfl rfl rfl rfl ⟨⟨x.o, minusL x.n [c.m], x.l, x.po, x.co, pa, ca, x.pl, x.cl⟩, _, rfl, ⟨hxo.mono hjoin_l, hOa.sl.mono ha1, hxl.mono hjoin_l⟩, by unfold mkG; rw [if_neg (by omega), if_pos h0]; rfl, rfl⟩

set_option maxRecDepth 100000 in
set_option maxHeartbeats 1600000 in
theorem mk2_ct (b : Nat) (x : Cf) (G : PH) (hx : x.In G) (c : Ch) (H : PH) (hc : c.In H) (k : Nat) (hk : k ≤ 1000) (hg : GOK k (gl x)) (hs : c.Sm) (h0 : c.k = 2) : Ct Tryz.prog 88 [.pointer (some ⟨b, 0, none⟩), .agg [.int .i64 c.k, .int .i64 c.m, .slice c.pf c.f.length c.cf, .slice c.pt c.t.length c.ct].toArray] [single b (.cells [.slice x.po x.o.length x.co, .slice x.pn x.n.length x.cn, .slice x.pl x.l.length x.cl].toArray 60 (0, 0)), G, H] (fun v Hs => ∃ (y : Cf) (G' : PH), v = .tuple #[] ∧ y.In G' ∧ gl y = mkG (gl x) c ∧ Hs = [single b (.cells [.slice y.po y.o.length y.co, .slice y.pn y.n.length y.cn, .slice y.pl y.l.length y.cl].toArray 60 (0, 0)), G', H]) := by
  refine Ct.body Tryz.func88 rfl Tryz.ntmps88 rfl ?_
  intro E F
  have hbo := hg.bo
  have hbn := hg.bn
  have hbl := hg.bl
  replace hbo : x.o.length ≤ 8 := hbo
  replace hbn : x.n.length ≤ k := hbn
  replace hbl : x.l.length ≤ 8 + k := hbl
  obtain ⟨hxo, hxn, hxl⟩ := hx
  obtain ⟨hcf, hct⟩ := hc
  have hsf := hs.1
  have hst := hs.2.1
  refine W.seq ?_
  refine W.region ?_
  refine RL.e (Eff.box 103 _ rfl rfl) rfl ?_
  rintro _ _ ⟨b3, rfl, rfl⟩
  refine RL.nil ?_
  refine N.next ?_
  refine W.draw (.q 0 (.q 1 (.q 2 (.q 3 (.q 5 (.q 6 (.q 7 (.q 9 (.q 10 (.two 4 (.one 8 (.one 11 (.q 12 (.q 13 (.one 14 (.q 15 (.q 16 (.one 17 .done)))))))) 8 (.one 4 (.one 11 (.q 12 (.q 13 (.one 14 (.q 15 (.q 16 (.one 17 .done)))))))))))))))))) (.cons (k := 0) rfl (.cons (k := 2) rfl (.cons (k := 3) rfl (.cons (k := 103) rfl .nil)))) mix (by kernel_rfl) (by kernel_rfl) ?_
  refine DL.q rfl (Yld.move rfl) rfl ?_
  refine DL.q rfl (Yld.move rfl) rfl ?_
  refine DL.q rfl (Yld.fieldAddr fo41_3 rfl) rfl ?_
  refine DL.q rfl (Yld.load1 (c := 103) Tryz.underlying22 rfl rfl rfl (by first | exact single_self _ _ | exact pset_self _ _ _ | assumption) rfl) rfl ?_
  refine DL.q rfl (Yld.move rfl) rfl ?_
  refine DL.q rfl (Yld.nilP rfl) rfl ?_
  refine DL.q rfl (Yld.fieldAddr fo60_1 rfl) rfl ?_
  refine DL.q rfl (Yld.fieldAddr fo41_3 rfl) rfl ?_
  refine DL.q rfl (Yld.load1 (c := 103) Tryz.underlying22 rfl rfl rfl (by first | exact single_self _ _ | exact pset_self _ _ _ | assumption) rfl) rfl ?_
  refine DL.two ?_ ?_
  ·
    refine DL.one rfl (Eff.call ent41 [3] [3, 150] (.cons rfl .nil) (cloneI_ct c.t _ _ _ hct (by omega)) rfl rfl rfl rfl (by rintro _ _ ⟨_, _, _, _, _, rfl⟩; rfl)) rfl (by rintro _ _ ⟨_, ⟨Ha, pa, ca, rfl, hOa, rfl⟩, rfl⟩; repeat (first | exact .nil | refine .cons rfl ?_)) ?_
    rintro _ _ ⟨_, ⟨Ha, pa, ca, rfl, hOa, rfl⟩, rfl⟩
    refine DL.one rfl (Yld.eff (Yld.load1 (c := 1) Tryz.underlying22 rfl rfl rfl (by first | exact single_self _ _ | exact pset_self _ _ _ | assumption) rfl)) rfl (by rintro _ _ ⟨rfl, rfl⟩; repeat (first | exact .nil | refine .cons rfl ?_)) ?_
    rintro _ _ ⟨rfl, rfl⟩
    refine DL.one rfl (Eff.call ent80 [2, 3] [2, 3, 151] (.cons rfl (.cons rfl .nil)) (mwo_ct x.n _ _ _ hxn c.t _ _ _ hct (by omega)) rfl rfl rfl rfl (by rintro _ _ ⟨_, _, _, _, _, rfl⟩; rfl)) rfl (by rintro _ _ ⟨_, ⟨Hb, pb, cb, rfl, hOb, rfl⟩, rfl⟩; repeat (first | exact .nil | refine .cons rfl ?_)) ?_
    rintro _ _ ⟨_, ⟨Hb, pb, cb, rfl, hOb, rfl⟩, rfl⟩
    refine DL.q rfl (Yld.nilP rfl) rfl ?_
    refine DL.q rfl (Yld.fieldAddr fo60_0 rfl) rfl ?_
    refine DL.one0 rfl (Eff.storeS (c := 1) _ sz22 rfl rfl rfl rfl rfl rfl rfl (by (try simp only [putAt, List.take, List.drop, List.nil_append, List.cons_append, List.append_nil, List.length_cons, List.length_nil, Nat.add_zero, Nat.zero_add, Nat.reduceAdd]); rfl)) (by rintro _ _ rfl; repeat (first | exact .nil | refine .cons rfl ?_)) ?_
    rintro _ _ rfl
    refine DL.q rfl (Yld.nilP rfl) rfl ?_
    refine DL.q rfl (Yld.fieldAddr fo60_1 rfl) rfl ?_
    refine DL.one0 rfl (Eff.storeS (c := 1) _ sz22 rfl rfl rfl rfl rfl rfl rfl (by (try simp only [putAt, List.take, List.drop, List.nil_append, List.cons_append, List.append_nil, List.length_cons, List.length_nil, Nat.add_zero, Nat.zero_add, Nat.reduceAdd]); rfl)) (by rintro _ _ rfl; repeat (first | exact .nil | refine .cons rfl ?_)) ?_
    rintro _ _ rfl
    refine DL.done ?_
    refine N.merge 2 150 rfl rfl rfl fun ha1 => ?_
    refine N.merge 2 151 rfl rfl rfl fun ha2 => ?_
    exact N.endBy [1, 2, 3] .nil rfl rfl rfl rfl ⟨⟨c.t, minusL x.n c.t, x.l, pa, ca, pb, cb, x.pl, x.cl⟩, _, rfl, ⟨(hOa.sl.mono ha1).mono hjoin_l, hOb.sl.mono ha2, (hxl.mono hjoin_l).mono hjoin_l⟩, by unfold mkG; rw [if_neg (by omega), if_neg (by omega)]; rfl, rfl⟩
  ·
    refine DL.one rfl (Yld.eff (Yld.load1 (c := 1) Tryz.underlying22 rfl rfl rfl (by first | exact single_self _ _ | exact pset_self _ _ _ | assumption) rfl)) rfl (by rintro _ _ ⟨rfl, rfl⟩; repeat (first | exact .nil | refine .cons rfl ?_)) ?_
    rintro _ _ ⟨rfl, rfl⟩
    refine DL.one rfl (Eff.call ent41 [3] [3, 150] (.cons rfl .nil) (cloneI_ct c.t _ _ _ hct (by omega)) rfl rfl rfl rfl (by rintro _ _ ⟨_, _, _, _, _, rfl⟩; rfl)) rfl (by rintro _ _ ⟨_, ⟨Ha, pa, ca, rfl, hOa, rfl⟩, rfl⟩; repeat (first | exact .nil | refine .cons rfl ?_)) ?_
    rintro _ _ ⟨_, ⟨Ha, pa, ca, rfl, hOa, rfl⟩, rfl⟩
    refine DL.one rfl (Eff.call ent80 [2, 3] [2, 3, 151] (.cons rfl (.cons rfl .nil)) (mwo_ct x.n _ _ _ hxn c.t _ _ _ hct (by omega)) rfl rfl rfl rfl (by rintro _ _ ⟨_, _, _, _, _, rfl⟩; rfl)) rfl (by rintro _ _ ⟨_, ⟨Hb, pb, cb, rfl, hOb, rfl⟩, rfl⟩; repeat (first | exact .nil | refine .cons rfl ?_)) ?_
    rintro _ _ ⟨_, ⟨Hb, pb, cb, rfl, hOb, rfl⟩, rfl⟩
    refine DL.q rfl (Yld.nilP rfl) rfl ?_
    refine DL.q rfl (Yld.fieldAddr fo60_0 rfl) rfl ?_
    refine DL.one0 rfl (Eff.storeS (c := 1) _ sz22 rfl rfl rfl rfl rfl rfl rfl (by (try simp only [putAt, List.take, List.drop, List.nil_append, List.cons_append, List.append_nil, List.length_cons, List.length_nil, Nat.add_zero, Nat.zero_add, Nat.reduceAdd]); rfl)) (by rintro _ _ rfl; repeat (first | exact .nil | refine .cons rfl ?_)) ?_
    rintro _ _ rfl
    refine DL.q rfl (Yld.nilP rfl) rfl ?_
    refine DL.q rfl (Yld.fieldAddr fo60_1 rfl) rfl ?_
    refine DL.one0 rfl (Eff.storeS (c := 1) _ sz22 rfl rfl rfl rfl rfl rfl rfl (by (try simp only [putAt, List.take, List.drop, List.nil_append, List.cons_append, List.append_nil, List.length_cons, List.length_nil, Nat.add_zero, Nat.zero_add, Nat.reduceAdd]); rfl)) (by rintro _ _ rfl; repeat (first | exact .nil | refine .cons rfl ?_)) ?_
    rintro _ _ rfl
    refine DL.done ?_
    refine N.merge 2 150 rfl rfl rfl fun ha1 => ?_
    refine N.merge 2 151 rfl rfl rfl fun ha2 => ?_
    exact N.endBy [1, 2, 3] .nil rfl rfl rfl rfl ⟨⟨c.t, minusL x.n c.t, x.l, pa, ca, pb, cb, x.pl, x.cl⟩, _, rfl, ⟨(hOa.sl.mono ha1).mono hjoin_l, hOb.sl.mono ha2, (hxl.mono hjoin_l).mono hjoin_l⟩, by unfold mkG; rw [if_neg (by omega), if_neg (by omega)]; rfl, rfl⟩

def Memb.KV (a b : Nat) : Value := .agg [.func (.func a) [].toArray [].toArray, .func (.func b) [].toArray [].toArray].toArray
def Memb.KM : List (Int × Value) := mset (mset (mset [] 0 (KV 82 83)) 1 (KV 85 86)) 2 (KV 87 88)

set_option maxRecDepth 100000 in
set_option maxHeartbeats 400000 in
theorem kinds_ct  : Ct Tryz.prog 54 [] [] (fun v Hs => ∃ (bm : Nat) (es : Array MapEntry) (ck : Nat), v = .map (some bm) ∧ MapP (fun a : Int => Value.int .i64 a) es ck KM ∧ Hs = [single bm (.map es ck)]) := by
  refine Ct.body Tryz.func54 rfl Tryz.ntmps54 rfl ?_
  intro E F
  have hE0 : MapP (fun a : Int => Value.int .i64 a) #[] 0 [] := MapP.empty _
  refine W.seq ?_
  refine W.region ?_
  refine RL.q (Yld.assign rfl) rfl ?_
  refine RL.nil ?_
  refine N.next ?_
  refine W.seq ?_
  refine W.region ?_
  refine RL.e (Eff.makeMap 101) rfl ?_
  rintro _ _ ⟨b1, rfl, rfl⟩
  refine RL.q (Yld.buildP lay87 (.cons rfl rfl (.cons rfl rfl .nil)) rfl) rfl ?_
  refine RL.e0 (Eff.insert (c := 101) Tryz.underlying89 (keyInt Tryz.underlying3) rfl rfl rfl rfl (by assumption)) ?_
  rintro _ _ ⟨es1, ck1, hM1, rfl⟩
  refine RL.q (Yld.buildP lay87 (.cons rfl rfl (.cons rfl rfl .nil)) rfl) rfl ?_
  refine RL.e0 (Eff.insert (c := 101) Tryz.underlying89 (keyInt Tryz.underlying3) rfl rfl rfl rfl (by assumption)) ?_
  rintro _ _ ⟨es2, ck2, hM2, rfl⟩
  refine RL.q (Yld.buildP lay87 (.cons rfl rfl (.cons rfl rfl .nil)) rfl) rfl ?_
  refine RL.e0 (Eff.insert (c := 101) Tryz.underlying89 (keyInt Tryz.underlying3) rfl rfl rfl rfl (by assumption)) ?_
  rintro _ _ ⟨es3, ck3, hM3, rfl⟩
  refine RL.q (Yld.move rfl) rfl ?_
  refine RL.q (Yld.assign rfl) rfl ?_
  refine RL.nil ?_
  refine N.next ?_
  refine W.keep (.cons (k := 0) rfl .nil) (.cons (k := 0) rfl (.cons (k := 101) rfl .nil)) ?_
  refine W.ret ?_
  exact N.retBy [101] (.cons (.tmp rfl) .nil) rfl rfl rfl rfl ⟨_, _, _, rfl, (by assumption), rfl⟩

set_option maxRecDepth 100000 in
set_option maxHeartbeats 1600000 in
theorem admitS_ct (b : Nat) (x : Cf) (G : PH) (hx : x.In G) (c : Ch) (H : PH) (hc : c.In H) (k : Nat) (hk : k ≤ 1000) (hg : GOK k (gl x)) (hs : c.Sm) (f1 f2 : Nat) (e1 : Ent Tryz.prog f1) (e2 : Ent Tryz.prog f2) (hf1 : Ct Tryz.prog f1 [.pointer (some ⟨b, 0, none⟩), .agg [.int .i64 c.k, .int .i64 c.m, .slice c.pf c.f.length c.cf, .slice c.pt c.t.length c.ct].toArray] [single b (.cells [.slice x.po x.o.length x.co, .slice x.pn x.n.length x.cn, .slice x.pl x.l.length x.cl].toArray 60 (0, 0)), G, H] (fun v Hs => v = .int .i64 (err (gl x) c) ∧ Hs = [single b (.cells [.slice x.po x.o.length x.co, .slice x.pn x.n.length x.cn, .slice x.pl x.l.length x.cl].toArray 60 (0, 0)), G, H])) (hf2 : err (gl x) c = 0 → Ct Tryz.prog f2 [.pointer (some ⟨b, 0, none⟩), .agg [.int .i64 c.k, .int .i64 c.m, .slice c.pf c.f.length c.cf, .slice c.pt c.t.length c.ct].toArray] [single b (.cells [.slice x.po x.o.length x.co, .slice x.pn x.n.length x.cn, .slice x.pl x.l.length x.cl].toArray 60 (0, 0)), G, H] (fun v Hs => ∃ (y : Cf) (G' : PH), v = .tuple #[] ∧ y.In G' ∧ gl y = mkG (gl x) c ∧ Hs = [single b (.cells [.slice y.po y.o.length y.co, .slice y.pn y.n.length y.cn, .slice y.pl y.l.length y.cl].toArray 60 (0, 0)), G', H])) (hmk : mget KM c.k = some (KV f1 f2)) : Ct Tryz.prog 23 [.pointer (some ⟨b, 0, none⟩), .agg [.int .i64 c.k, .int .i64 c.m, .slice c.pf c.f.length c.cf, .slice c.pt c.t.length c.ct].toArray] [single b (.cells [.slice x.po x.o.length x.co, .slice x.pn x.n.length x.cn, .slice x.pl x.l.length x.cl].toArray 60 (0, 0)), G, H] (fun v Hs => ∃ (y : Cf) (G' : PH), v = .int .i64 (err (gl x) c) ∧ y.In G' ∧ gl y = adm (gl x) c ∧ Hs = [single b (.cells [.slice y.po y.o.length y.co, .slice y.pn y.n.length y.cn, .slice y.pl y.l.length y.cl].toArray 60 (0, 0)), G', H]) := by
  refine Ct.body Tryz.func23 rfl Tryz.ntmps23 rfl ?_
  intro E F
  skip
  refine W.seq ?_
  refine W.region ?_
  refine RL.e (Eff.box 103 _ rfl rfl) rfl ?_
  rintro _ _ ⟨b3, rfl, rfl⟩
  refine RL.q (Yld.assign rfl) rfl ?_
  refine RL.nil ?_
  refine N.next ?_
  refine W.seq ?_
  refine W.draw (.q 1 (.q 2 (.two 0 (.two 3 (.q 4 (.q 5 (.q 6 (.one 7 (.one 8 (.q 9 .done)))))) 7 (.one 3 (.q 4 (.q 5 (.q 6 (.one 8 (.q 9 .done))))))) 7 (.one 0 (.one 3 (.q 4 (.q 5 (.q 6 (.one 8 (.q 9 .done)))))))))) (.cons (k := 0) rfl (.cons (k := 1) rfl (.cons (k := 2) rfl (.cons (k := 3) rfl (.cons (k := 103) rfl .nil))))) mix (by kernel_rfl) (by kernel_rfl) ?_
  refine DL.q rfl (Yld.fieldAddr fo41_0 rfl) rfl ?_
  refine DL.q rfl (Yld.load1 (c := 103) Tryz.underlying3 rfl rfl rfl (by first | exact single_self _ _ | exact pset_self _ _ _ | assumption) rfl) rfl ?_
  refine DL.two ?_ ?_
  ·
    refine DL.one rfl (Eff.call ent54 [] [150] .nil kinds_ct rfl rfl rfl rfl (by rintro _ _ ⟨_, _, _, _, _, rfl⟩; rfl)) rfl (by rintro _ _ ⟨_, ⟨bm, es, ck, rfl, hM, rfl⟩, rfl⟩; repeat (first | exact .nil | refine .cons rfl ?_)) ?_
    rintro _ _ ⟨_, ⟨bm, es, ck, rfl, hM, rfl⟩, rfl⟩
    refine DL.two ?_ ?_
    ·
      refine DL.one rfl (Yld.eff (Yld.eq (v' := .tuple [KV f1 f2, .bool true].toArray) (Yld.lookupOk (c := 150) Tryz.underlying89 (keyInt Tryz.underlying3) zv87 rfl rfl rfl (by assumption)) (by rw [hmk]; rfl))) rfl (by rintro _ _ ⟨rfl, rfl⟩; repeat (first | exact .nil | refine .cons rfl ?_)) ?_
      rintro _ _ ⟨rfl, rfl⟩
      refine DL.q rfl (Yld.move rfl) rfl ?_
      refine DL.q rfl (Yld.extract rfl rfl) rfl ?_
      refine DL.q rfl (Yld.extract rfl rfl) rfl ?_
      refine DL.one rfl (Eff.alloc 105 zc87) rfl (by rintro _ _ ⟨b5, rfl, rfl⟩; repeat (first | exact .nil | refine .cons rfl ?_)) ?_
      rintro _ _ ⟨b5, rfl, rfl⟩
      refine DL.one0 rfl (Eff.storeS (c := 105) _ sz87 rfl rfl rfl rfl rfl rfl rfl (by (try simp only [putAt, List.take, List.drop, List.nil_append, List.cons_append, List.append_nil, List.length_cons, List.length_nil, Nat.add_zero, Nat.zero_add, Nat.reduceAdd]); rfl)) (by rintro _ _ rfl; repeat (first | exact .nil | refine .cons rfl ?_)) ?_
      rintro _ _ rfl
      refine DL.q rfl (Yld.assign rfl) rfl ?_
      refine DL.done ?_
      refine N.next ?_
      refine W.keep (.cons (k := 0) rfl (.cons (k := 3) rfl (.cons (k := 5) rfl (.cons (k := 6) rfl .nil)))) (.cons (k := 0) rfl (.cons (k := 1) rfl (.cons (k := 2) rfl (.cons (k := 3) rfl (.cons (k := 103) rfl (.cons (k := 105) rfl (.cons (k := 150) rfl .nil))))))) ?_
      refine W.seq ?_
      refine W.seq ?_
      refine W.region ?_
      refine RL.q (Yld.move rfl) rfl ?_
      refine RL.q (by first | exact Yld.notD rfl | exact Yld.not rfl) rfl ?_
      refine RL.nil ?_
      refine N.next ?_
      first | (refine W.as (t := 16) rfl (boolF (by first | assumption | omega | (simp; done))) ?_; refine W.condF rfl ?_) | refine W.condF rfl ?_
      refine W.skip ?_
      refine N.next ?_
      refine W.seq ?_
      refine W.region ?_
      refine RL.q (Yld.fieldAddr fo87_0 rfl) rfl ?_
      refine RL.q (Yld.load1 (c := 105) Tryz.underlying84 rfl rfl rfl (by first | exact single_self _ _ | exact pset_self _ _ _ | assumption) rfl) rfl ?_
      refine RL.q (Yld.move rfl) rfl ?_
      refine RL.q (Yld.loadW (c := 103) Tryz.underlying41 rfl sz41 rfl rfl (by first | exact single_self _ _ | exact pset_self _ _ _ | assumption) rfl) rfl ?_
      refine RL.e (Eff.callV e1 [1, 2, 3] [1, 2, 3] rfl (.cons rfl (.cons rfl .nil)) hf1 rfl rfl rfl rfl (by rintro _ _ ⟨_, rfl⟩; rfl)) rfl ?_
      rintro _ _ ⟨_, ⟨rfl, rfl⟩, rfl⟩
      refine RL.q (Yld.assign rfl) rfl ?_
      refine RL.nil ?_
      refine N.next ?_
      refine W.keep (.cons (k := 0) rfl (.cons (k := 3) rfl (.cons (k := 5) rfl (.cons (k := 7) rfl .nil)))) (.cons (k := 0) rfl (.cons (k := 1) rfl (.cons (k := 2) rfl (.cons (k := 3) rfl (.cons (k := 103) rfl (.cons (k := 105) rfl (.cons (k := 150) rfl .nil))))))) ?_
      refine W.seq ?_
      refine W.seq ?_
      refine W.region ?_
      refine RL.q (Yld.move rfl) rfl ?_
      refine RL.q (Yld.bin rfl rfl BinV.eql) rfl ?_
      refine RL.nil ?_
      refine N.next ?_
      first | refine W.condD rfl (fun hc23 => ?_) (fun hc23 => ?_) | (refine W.cond rfl (fun hc23 => ?_) (fun hc23 => ?_) <;> try simp only [Bool.or_eq_true, Bool.and_eq_true, Bool.not_eq_true', Bool.not_eq_false', decide_eq_true_eq, Bool.or_eq_false_iff, Bool.and_eq_false_iff, decide_eq_false_iff_not, beq_iff_eq, beq_eq_false_iff_ne, ne_eq, Decidable.not_not] at hc23)
      ·
        refine W.region ?_
        refine RL.q (Yld.fieldAddr fo87_1 rfl) rfl ?_
        refine RL.q (Yld.load1 (c := 105) Tryz.underlying85 rfl rfl rfl (by first | exact single_self _ _ | exact pset_self _ _ _ | assumption) rfl) rfl ?_
        refine RL.q (Yld.move rfl) rfl ?_
        refine RL.q (Yld.loadW (c := 103) Tryz.underlying41 rfl sz41 rfl rfl (by first | exact single_self _ _ | exact pset_self _ _ _ | assumption) rfl) rfl ?_
        refine RL.e (Eff.callV e2 [1, 2, 3] [1, 2, 3] rfl (.cons rfl (.cons rfl .nil)) (hf2 hc23) rfl rfl rfl rfl (by rintro _ _ ⟨_, _, _, _, _, rfl⟩; rfl)) rfl ?_
        rintro _ _ ⟨_, ⟨y, G', rfl, hy, hgl, rfl⟩, rfl⟩
        refine RL.nil ?_
        refine N.next ?_
        refine W.keep (.cons (k := 7) rfl .nil) (.cons (k := 0) rfl (.cons (k := 1) rfl (.cons (k := 2) rfl (.cons (k := 3) rfl (.cons (k := 103) rfl (.cons (k := 105) rfl (.cons (k := 150) rfl .nil))))))) ?_
        refine W.seq ?_
        refine W.region ?_
        refine RL.q (Yld.move rfl) rfl ?_
        refine RL.q (Yld.assign rfl) rfl ?_
        refine RL.nil ?_
        refine N.next ?_
        refine W.ret ?_
        exact N.retBy [1, 2, 3] (.cons (.tmp rfl) .nil) rfl rfl rfl rfl (by first | exact ⟨y, G', rfl, hy, by rw [adm_ok hc23]; exact hgl, rfl⟩ | exact ⟨x, G, rfl, hx, (adm_ref hc23).symm, rfl⟩)
      ·
        refine W.skip ?_
        refine N.next ?_
        refine W.keep (.cons (k := 7) rfl .nil) (.cons (k := 0) rfl (.cons (k := 1) rfl (.cons (k := 2) rfl (.cons (k := 3) rfl (.cons (k := 103) rfl (.cons (k := 105) rfl (.cons (k := 150) rfl .nil))))))) ?_
        refine W.seq ?_
        refine W.region ?_
        refine RL.q (Yld.move rfl) rfl ?_
        refine RL.q (Yld.assign rfl) rfl ?_
        refine RL.nil ?_
        refine N.next ?_
        refine W.ret ?_
        exact N.retBy [1, 2, 3] (.cons (.tmp rfl) .nil) rfl rfl rfl rfl (by first | exact ⟨y, G', rfl, hy, by rw [adm_ok hc23]; exact hgl, rfl⟩ | exact ⟨x, G, rfl, hx, (adm_ref hc23).symm, rfl⟩)
    ·
      refine DL.one rfl (Eff.alloc 105 zc87) rfl (by rintro _ _ ⟨b5, rfl, rfl⟩; repeat (first | exact .nil | refine .cons rfl ?_)) ?_
      rintro _ _ ⟨b5, rfl, rfl⟩
      refine DL.one rfl (Yld.eff (Yld.eq (v' := .tuple [KV f1 f2, .bool true].toArray) (Yld.lookupOk (c := 150) Tryz.underlying89 (keyInt Tryz.underlying3) zv87 rfl rfl rfl (by assumption)) (by rw [hmk]; rfl))) rfl (by rintro _ _ ⟨rfl, rfl⟩; repeat (first | exact .nil | refine .cons rfl ?_)) ?_
      rintro _ _ ⟨rfl, rfl⟩
      refine DL.q rfl (Yld.move rfl) rfl ?_
      refine DL.q rfl (Yld.extract rfl rfl) rfl ?_
      refine DL.q rfl (Yld.extract rfl rfl) rfl ?_
      refine DL.one0 rfl (Eff.storeS (c := 105) _ sz87 rfl rfl rfl rfl rfl rfl rfl (by (try simp only [putAt, List.take, List.drop, List.nil_append, List.cons_append, List.append_nil, List.length_cons, List.length_nil, Nat.add_zero, Nat.zero_add, Nat.reduceAdd]); rfl)) (by rintro _ _ rfl; repeat (first | exact .nil | refine .cons rfl ?_)) ?_
      rintro _ _ rfl
      refine DL.q rfl (Yld.assign rfl) rfl ?_
      refine DL.done ?_
      refine N.next ?_
      refine W.keep (.cons (k := 0) rfl (.cons (k := 3) rfl (.cons (k := 5) rfl (.cons (k := 6) rfl .nil)))) (.cons (k := 0) rfl (.cons (k := 1) rfl (.cons (k := 2) rfl (.cons (k := 3) rfl (.cons (k := 103) rfl (.cons (k := 105) rfl (.cons (k := 150) rfl .nil))))))) ?_
      refine W.seq ?_
      refine W.seq ?_
      refine W.region ?_
      refine RL.q (Yld.move rfl) rfl ?_
      refine RL.q (by first | exact Yld.notD rfl | exact Yld.not rfl) rfl ?_
      refine RL.nil ?_
      refine N.next ?_
      first | (refine W.as (t := 16) rfl (boolF (by first | assumption | omega | (simp; done))) ?_; refine W.condF rfl ?_) | refine W.condF rfl ?_
      refine W.skip ?_
      refine N.next ?_
      refine W.seq ?_
      refine W.region ?_
      refine RL.q (Yld.fieldAddr fo87_0 rfl) rfl ?_
      refine RL.q (Yld.load1 (c := 105) Tryz.underlying84 rfl rfl rfl (by first | exact single_self _ _ | exact pset_self _ _ _ | assumption) rfl) rfl ?_
      refine RL.q (Yld.move rfl) rfl ?_
      refine RL.q (Yld.loadW (c := 103) Tryz.underlying41 rfl sz41 rfl rfl (by first | exact single_self _ _ | exact pset_self _ _ _ | assumption) rfl) rfl ?_
      refine RL.e (Eff.callV e1 [1, 2, 3] [1, 2, 3] rfl (.cons rfl (.cons rfl .nil)) hf1 rfl rfl rfl rfl (by rintro _ _ ⟨_, rfl⟩; rfl)) rfl ?_
      rintro _ _ ⟨_, ⟨rfl, rfl⟩, rfl⟩
      refine RL.q (Yld.assign rfl) rfl ?_
      refine RL.nil ?_
      refine N.next ?_
      refine W.keep (.cons (k := 0) rfl (.cons (k := 3) rfl (.cons (k := 5) rfl (.cons (k := 7) rfl .nil)))) (.cons (k := 0) rfl (.cons (k := 1) rfl (.cons (k := 2) rfl (.cons (k := 3) rfl (.cons (k := 103) rfl (.cons (k := 105) rfl (.cons (k := 150) rfl .nil))))))) ?_
      refine W.seq ?_
      refine W.seq ?_
      refine W.region ?_
      refine RL.q (Yld.move rfl) rfl ?_
      refine RL.q (Yld.bin rfl rfl BinV.eql) rfl ?_
      refine RL.nil ?_
      refine N.next ?_
      first | refine W.condD rfl (fun hc23 => ?_) (fun hc23 => ?_) | (refine W.cond rfl (fun hc23 => ?_) (fun hc23 => ?_) <;> try simp only [Bool.or_eq_true, Bool.and_eq_true, Bool.not_eq_true', Bool.not_eq_false', decide_eq_true_eq, Bool.or_eq_false_iff, Bool.and_eq_false_iff, decide_eq_false_iff_not, beq_iff_eq, beq_eq_false_iff_ne, ne_eq, Decidable.not_not] at hc23)
      ·
        refine W.region ?_
        refine RL.q (Yld.fieldAddr fo87_1 rfl) rfl ?_
        refine RL.q (Yld.load1 (c := 105) Tryz.underlying85 rfl rfl rfl (by first | exact single_self _ _ | exact pset_self _ _ _ | assumption) rfl) rfl ?_
        refine RL.q (Yld.move rfl) rfl ?_
        refine RL.q (Yld.loadW (c := 103) Tryz.underlying41 rfl sz41 rfl rfl (by first | exact single_self _ _ | exact pset_self _ _ _ | assumption) rfl) rfl ?_
        refine RL.e (Eff.callV e2 [1, 2, 3] [1, 2, 3] rfl (.cons rfl (.cons rfl .nil)) (hf2 hc23) rfl rfl rfl rfl (by rintro _ _ ⟨_, _, _, _, _, rfl⟩; rfl)) rfl ?_
        rintro _ _ ⟨_, ⟨y, G', rfl, hy, hgl, rfl⟩, rfl⟩
        refine RL.nil ?_
        refine N.next ?_
        refine W.keep (.cons (k := 7) rfl .nil) (.cons (k := 0) rfl (.cons (k := 1) rfl (.cons (k := 2) rfl (.cons (k := 3) rfl (.cons (k := 103) rfl (.cons (k := 105) rfl (.cons (k := 150) rfl .nil))))))) ?_
        refine W.seq ?_
        refine W.region ?_
        refine RL.q (Yld.move rfl) rfl ?_
        refine RL.q (Yld.assign rfl) rfl ?_
        refine RL.nil ?_
        refine N.next ?_
        refine W.ret ?_
        exact N.retBy [1, 2, 3] (.cons (.tmp rfl) .nil) rfl rfl rfl rfl (by first | exact ⟨y, G', rfl, hy, by rw [adm_ok hc23]; exact hgl, rfl⟩ | exact ⟨x, G, rfl, hx, (adm_ref hc23).symm, rfl⟩)
      ·
        refine W.skip ?_
        refine N.next ?_
        refine W.keep (.cons (k := 7) rfl .nil) (.cons (k := 0) rfl (.cons (k := 1) rfl (.cons (k := 2) rfl (.cons (k := 3) rfl (.cons (k := 103) rfl (.cons (k := 105) rfl (.cons (k := 150) rfl .nil))))))) ?_
        refine W.seq ?_
        refine W.region ?_
        refine RL.q (Yld.move rfl) rfl ?_
        refine RL.q (Yld.assign rfl) rfl ?_
        refine RL.nil ?_
        refine N.next ?_
        refine W.ret ?_
        exact N.retBy [1, 2, 3] (.cons (.tmp rfl) .nil) rfl rfl rfl rfl (by first | exact ⟨y, G', rfl, hy, by rw [adm_ok hc23]; exact hgl, rfl⟩ | exact ⟨x, G, rfl, hx, (adm_ref hc23).symm, rfl⟩)
  ·
    refine DL.one rfl (Eff.alloc 105 zc87) rfl (by rintro _ _ ⟨b5, rfl, rfl⟩; repeat (first | exact .nil | refine .cons rfl ?_)) ?_
    rintro _ _ ⟨b5, rfl, rfl⟩
    refine DL.one rfl (Eff.call ent54 [] [150] .nil kinds_ct rfl rfl rfl rfl (by rintro _ _ ⟨_, _, _, _, _, rfl⟩; rfl)) rfl (by rintro _ _ ⟨_, ⟨bm, es, ck, rfl, hM, rfl⟩, rfl⟩; repeat (first | exact .nil | refine .cons rfl ?_)) ?_
    rintro _ _ ⟨_, ⟨bm, es, ck, rfl, hM, rfl⟩, rfl⟩
    refine DL.one rfl (Yld.eff (Yld.eq (v' := .tuple [KV f1 f2, .bool true].toArray) (Yld.lookupOk (c := 150) Tryz.underlying89 (keyInt Tryz.underlying3) zv87 rfl rfl rfl (by assumption)) (by rw [hmk]; rfl))) rfl (by rintro _ _ ⟨rfl, rfl⟩; repeat (first | exact .nil | refine .cons rfl ?_)) ?_
    rintro _ _ ⟨rfl, rfl⟩
    refine DL.q rfl (Yld.move rfl) rfl ?_
    refine DL.q rfl (Yld.extract rfl rfl) rfl ?_
    refine DL.q rfl (Yld.extract rfl rfl) rfl ?_
    refine DL.one0 rfl (Eff.storeS (c := 105) _ sz87 rfl rfl rfl rfl rfl rfl rfl (by (try simp only [putAt, List.take, List.drop, List.nil_append, List.cons_append, List.append_nil, List.length_cons, List.length_nil, Nat.add_zero, Nat.zero_add, Nat.reduceAdd]); rfl)) (by rintro _ _ rfl; repeat (first | exact .nil | refine .cons rfl ?_)) ?_
    rintro _ _ rfl
    refine DL.q rfl (Yld.assign rfl) rfl ?_
    refine DL.done ?_
    refine N.next ?_
    refine W.keep (.cons (k := 0) rfl (.cons (k := 3) rfl (.cons (k := 5) rfl (.cons (k := 6) rfl .nil)))) (.cons (k := 0) rfl (.cons (k := 1) rfl (.cons (k := 2) rfl (.cons (k := 3) rfl (.cons (k := 103) rfl (.cons (k := 105) rfl (.cons (k := 150) rfl .nil))))))) ?_
    refine W.seq ?_
    refine W.seq ?_
    refine W.region ?_
    refine RL.q (Yld.move rfl) rfl ?_
    refine RL.q (by first | exact Yld.notD rfl | exact Yld.not rfl) rfl ?_
    refine RL.nil ?_
    refine N.next ?_
    first | (refine W.as (t := 16) rfl (boolF (by first | assumption | omega | (simp; done))) ?_; refine W.condF rfl ?_) | refine W.condF rfl ?_
    refine W.skip ?_
    refine N.next ?_
    refine W.seq ?_
    refine W.region ?_
    refine RL.q (Yld.fieldAddr fo87_0 rfl) rfl ?_
    refine RL.q (Yld.load1 (c := 105) Tryz.underlying84 rfl rfl rfl (by first | exact single_self _ _ | exact pset_self _ _ _ | assumption) rfl) rfl ?_
    refine RL.q (Yld.move rfl) rfl ?_
    refine RL.q (Yld.loadW (c := 103) Tryz.underlying41 rfl sz41 rfl rfl (by first | exact single_self _ _ | exact pset_self _ _ _ | assumption) rfl) rfl ?_
    refine RL.e (Eff.callV e1 [1, 2, 3] [1, 2, 3] rfl (.cons rfl (.cons rfl .nil)) hf1 rfl rfl rfl rfl (by rintro _ _ ⟨_, rfl⟩; rfl)) rfl ?_
    rintro _ _ ⟨_, ⟨rfl, rfl⟩, rfl⟩
    refine RL.q (Yld.assign rfl) rfl ?_
    refine RL.nil ?_
    refine N.next ?_
    refine W.keep (.cons (k := 0) rfl (.cons (k := 3) rfl (.cons (k := 5) rfl (.cons (k := 7) rfl .nil)))) (.cons (k := 0) rfl (.cons (k := 1) rfl (.cons (k := 2) rfl (.cons (k := 3) rfl (.cons (k := 103) rfl (.cons (k := 105) rfl (.cons (k := 150) rfl .nil))))))) ?_
    refine W.seq ?_
    refine W.seq ?_
    refine W.region ?_
    refine RL.q (Yld.move rfl) rfl ?_
    refine RL.q (Yld.bin rfl rfl BinV.eql) rfl ?_
    refine RL.nil ?_
    refine N.next ?_
    first | refine W.condD rfl (fun hc23 => ?_) (fun hc23 => ?_) | (refine W.cond rfl (fun hc23 => ?_) (fun hc23 => ?_) <;> try simp only [Bool.or_eq_true, Bool.and_eq_true, Bool.not_eq_true', Bool.not_eq_false', decide_eq_true_eq, Bool.or_eq_false_iff, Bool.and_eq_false_iff, decide_eq_false_iff_not, beq_iff_eq, beq_eq_false_iff_ne, ne_eq, Decidable.not_not] at hc23)
    ·
      refine W.region ?_
      refine RL.q (Yld.fieldAddr fo87_1 rfl) rfl ?_
      refine RL.q (Yld.load1 (c := 105) Tryz.underlying85 rfl rfl rfl (by first | exact single_self _ _ | exact pset_self _ _ _ | assumption) rfl) rfl ?_
      refine RL.q (Yld.move rfl) rfl ?_
      refine RL.q (Yld.loadW (c := 103) Tryz.underlying41 rfl sz41 rfl rfl (by first | exact single_self _ _ | exact pset_self _ _ _ | assumption) rfl) rfl ?_
      refine RL.e (Eff.callV e2 [1, 2, 3] [1, 2, 3] rfl (.cons rfl (.cons rfl .nil)) (hf2 hc23) rfl rfl rfl rfl (by rintro _ _ ⟨_, _, _, _, _, rfl⟩; rfl)) rfl ?_
      rintro _ _ ⟨_, ⟨y, G', rfl, hy, hgl, rfl⟩, rfl⟩
      refine RL.nil ?_
      refine N.next ?_
      refine W.keep (.cons (k := 7) rfl .nil) (.cons (k := 0) rfl (.cons (k := 1) rfl (.cons (k := 2) rfl (.cons (k := 3) rfl (.cons (k := 103) rfl (.cons (k := 105) rfl (.cons (k := 150) rfl .nil))))))) ?_
      refine W.seq ?_
      refine W.region ?_
      refine RL.q (Yld.move rfl) rfl ?_
      refine RL.q (Yld.assign rfl) rfl ?_
      refine RL.nil ?_
      refine N.next ?_
      refine W.ret ?_
      exact N.retBy [1, 2, 3] (.cons (.tmp rfl) .nil) rfl rfl rfl rfl (by first | exact ⟨y, G', rfl, hy, by rw [adm_ok hc23]; exact hgl, rfl⟩ | exact ⟨x, G, rfl, hx, (adm_ref hc23).symm, rfl⟩)
    ·
      refine W.skip ?_
      refine N.next ?_
      refine W.keep (.cons (k := 7) rfl .nil) (.cons (k := 0) rfl (.cons (k := 1) rfl (.cons (k := 2) rfl (.cons (k := 3) rfl (.cons (k := 103) rfl (.cons (k := 105) rfl (.cons (k := 150) rfl .nil))))))) ?_
      refine W.seq ?_
      refine W.region ?_
      refine RL.q (Yld.move rfl) rfl ?_
      refine RL.q (Yld.assign rfl) rfl ?_
      refine RL.nil ?_
      refine N.next ?_
      refine W.ret ?_
      exact N.retBy [1, 2, 3] (.cons (.tmp rfl) .nil) rfl rfl rfl rfl (by first | exact ⟨y, G', rfl, hy, by rw [adm_ok hc23]; exact hgl, rfl⟩ | exact ⟨x, G, rfl, hx, (adm_ref hc23).symm, rfl⟩)

set_option maxRecDepth 100000 in
set_option maxHeartbeats 1600000 in
theorem admitN_ct (b : Nat) (x : Cf) (G : PH) (hx : x.In G) (c : Ch) (H : PH) (hc : c.In H) (k : Nat) (hk : k ≤ 1000) (hg : GOK k (gl x)) (hs : c.Sm) (h0 : c.k ≠ 0) (h1 : c.k ≠ 1) (h2 : c.k ≠ 2) : Ct Tryz.prog 23 [.pointer (some ⟨b, 0, none⟩), .agg [.int .i64 c.k, .int .i64 c.m, .slice c.pf c.f.length c.cf, .slice c.pt c.t.length c.ct].toArray] [single b (.cells [.slice x.po x.o.length x.co, .slice x.pn x.n.length x.cn, .slice x.pl x.l.length x.cl].toArray 60 (0, 0)), G, H] (fun v Hs => ∃ (y : Cf) (G' : PH), v = .int .i64 (err (gl x) c) ∧ y.In G' ∧ gl y = adm (gl x) c ∧ Hs = [single b (.cells [.slice y.po y.o.length y.co, .slice y.pn y.n.length y.cn, .slice y.pl y.l.length y.cl].toArray 60 (0, 0)), G', H]) := by
  refine Ct.body Tryz.func23 rfl Tryz.ntmps23 rfl ?_
  intro E F
  skip
  refine W.seq ?_
  refine W.region ?_
  refine RL.e (Eff.box 103 _ rfl rfl) rfl ?_
  rintro _ _ ⟨b3, rfl, rfl⟩
  refine RL.q (Yld.assign rfl) rfl ?_
  refine RL.nil ?_
  refine N.next ?_
  refine W.seq ?_
  refine W.draw (.q 1 (.q 2 (.two 0 (.two 3 (.q 4 (.q 5 (.q 6 (.one 7 (.one 8 (.q 9 .done)))))) 7 (.one 3 (.q 4 (.q 5 (.q 6 (.one 8 (.q 9 .done))))))) 7 (.one 0 (.one 3 (.q 4 (.q 5 (.q 6 (.one 8 (.q 9 .done)))))))))) (.cons (k := 0) rfl (.cons (k := 1) rfl (.cons (k := 2) rfl (.cons (k := 3) rfl (.cons (k := 103) rfl .nil))))) mix (by kernel_rfl) (by kernel_rfl) ?_
  refine DL.q rfl (Yld.fieldAddr fo41_0 rfl) rfl ?_
  refine DL.q rfl (Yld.load1 (c := 103) Tryz.underlying3 rfl rfl rfl (by first | exact single_self _ _ | exact pset_self _ _ _ | assumption) rfl) rfl ?_
  refine DL.two ?_ ?_
  ·
    refine DL.one rfl (Eff.call ent54 [] [150] .nil kinds_ct rfl rfl rfl rfl (by rintro _ _ ⟨_, _, _, _, _, rfl⟩; rfl)) rfl (by rintro _ _ ⟨_, ⟨bm, es, ck, rfl, hM, rfl⟩, rfl⟩; repeat (first | exact .nil | refine .cons rfl ?_)) ?_
    rintro _ _ ⟨_, ⟨bm, es, ck, rfl, hM, rfl⟩, rfl⟩
    refine DL.two ?_ ?_
    ·
      refine DL.one rfl (Yld.eff (Yld.eq (v' := .tuple [.agg [.nilFunc, .nilFunc].toArray, .bool false].toArray) (Yld.lookupOk (c := 150) Tryz.underlying89 (keyInt Tryz.underlying3) zv87 rfl rfl rfl (by assumption)) (by rw [show mget KM c.k = none by simp only [KM, mget_mset]; rw [if_neg (by omega), if_neg (by omega), if_neg (by omega)]; rfl]; rfl))) rfl (by rintro _ _ ⟨rfl, rfl⟩; repeat (first | exact .nil | refine .cons rfl ?_)) ?_
      rintro _ _ ⟨rfl, rfl⟩
      refine DL.q rfl (Yld.move rfl) rfl ?_
      refine DL.q rfl (Yld.extract rfl rfl) rfl ?_
      refine DL.q rfl (Yld.extract rfl rfl) rfl ?_
      refine DL.one rfl (Eff.alloc 105 zc87) rfl (by rintro _ _ ⟨b5, rfl, rfl⟩; repeat (first | exact .nil | refine .cons rfl ?_)) ?_
      rintro _ _ ⟨b5, rfl, rfl⟩
      refine DL.one0 rfl (Eff.storeS (c := 105) _ sz87 rfl rfl rfl rfl rfl rfl rfl (by (try simp only [putAt, List.take, List.drop, List.nil_append, List.cons_append, List.append_nil, List.length_cons, List.length_nil, Nat.add_zero, Nat.zero_add, Nat.reduceAdd]); rfl)) (by rintro _ _ rfl; repeat (first | exact .nil | refine .cons rfl ?_)) ?_
      rintro _ _ rfl
      refine DL.q rfl (Yld.assign rfl) rfl ?_
      refine DL.done ?_
      refine N.next ?_
      refine W.keep (.cons (k := 0) rfl (.cons (k := 3) rfl (.cons (k := 5) rfl (.cons (k := 6) rfl .nil)))) (.cons (k := 0) rfl (.cons (k := 1) rfl (.cons (k := 2) rfl (.cons (k := 3) rfl (.cons (k := 103) rfl (.cons (k := 105) rfl (.cons (k := 150) rfl .nil))))))) ?_
      refine W.seq ?_
      refine W.seq ?_
      refine W.region ?_
      refine RL.q (Yld.move rfl) rfl ?_
      refine RL.q (by first | exact Yld.notD rfl | exact Yld.not rfl) rfl ?_
      refine RL.nil ?_
      refine N.next ?_
      first | (refine W.as (t := 16) rfl (boolT (by first | assumption | omega | (simp; done))) ?_; refine W.condT rfl ?_) | refine W.condT rfl ?_
      refine W.seq ?_
      refine W.region ?_
      refine RL.q (Yld.assign rfl) rfl ?_
      refine RL.nil ?_
      refine N.next ?_
      refine W.keep (.cons (k := 4) rfl .nil) (.cons (k := 0) rfl (.cons (k := 1) rfl (.cons (k := 2) rfl (.cons (k := 3) rfl (.cons (k := 103) rfl (.cons (k := 105) rfl (.cons (k := 150) rfl .nil))))))) ?_
      refine W.ret ?_
      refine N.then_ret ?_
      exact N.retBy [1, 2, 3] (.cons (.tmp rfl) .nil) rfl rfl rfl rfl ⟨x, G, by rw [errN_eq h0 h1 h2]; rfl, hx, (adm_ref (by rw [errN_eq h0 h1 h2]; decide)).symm, rfl⟩
    ·
      refine DL.one rfl (Eff.alloc 105 zc87) rfl (by rintro _ _ ⟨b5, rfl, rfl⟩; repeat (first | exact .nil | refine .cons rfl ?_)) ?_
      rintro _ _ ⟨b5, rfl, rfl⟩
      refine DL.one rfl (Yld.eff (Yld.eq (v' := .tuple [.agg [.nilFunc, .nilFunc].toArray, .bool false].toArray) (Yld.lookupOk (c := 150) Tryz.underlying89 (keyInt Tryz.underlying3) zv87 rfl rfl rfl (by assumption)) (by rw [show mget KM c.k = none by simp only [KM, mget_mset]; rw [if_neg (by omega), if_neg (by omega), if_neg (by omega)]; rfl]; rfl))) rfl (by rintro _ _ ⟨rfl, rfl⟩; repeat (first | exact .nil | refine .cons rfl ?_)) ?_
      rintro _ _ ⟨rfl, rfl⟩
      refine DL.q rfl (Yld.move rfl) rfl ?_
      refine DL.q rfl (Yld.extract rfl rfl) rfl ?_
      refine DL.q rfl (Yld.extract rfl rfl) rfl ?_
      refine DL.one0 rfl (Eff.storeS (c := 105) _ sz87 rfl rfl rfl rfl rfl rfl rfl (by (try simp only [putAt, List.take, List.drop, List.nil_append, List.cons_append, List.append_nil, List.length_cons, List.length_nil, Nat.add_zero, Nat.zero_add, Nat.reduceAdd]); rfl)) (by rintro _ _ rfl; repeat (first | exact .nil | refine .cons rfl ?_)) ?_
      rintro _ _ rfl
      refine DL.q rfl (Yld.assign rfl) rfl ?_
      refine DL.done ?_
      refine N.next ?_
      refine W.keep (.cons (k := 0) rfl (.cons (k := 3) rfl (.cons (k := 5) rfl (.cons (k := 6) rfl .nil)))) (.cons (k := 0) rfl (.cons (k := 1) rfl (.cons (k := 2) rfl (.cons (k := 3) rfl (.cons (k := 103) rfl (.cons (k := 105) rfl (.cons (k := 150) rfl .nil))))))) ?_
      refine W.seq ?_
      refine W.seq ?_
      refine W.region ?_
      refine RL.q (Yld.move rfl) rfl ?_
      refine RL.q (by first | exact Yld.notD rfl | exact Yld.not rfl) rfl ?_
      refine RL.nil ?_
      refine N.next ?_
      first | (refine W.as (t := 16) rfl (boolT (by first | assumption | omega | (simp; done))) ?_; refine W.condT rfl ?_) | refine W.condT rfl ?_
      refine W.seq ?_
      refine W.region ?_
      refine RL.q (Yld.assign rfl) rfl ?_
      refine RL.nil ?_
      refine N.next ?_
      refine W.keep (.cons (k := 4) rfl .nil) (.cons (k := 0) rfl (.cons (k := 1) rfl (.cons (k := 2) rfl (.cons (k := 3) rfl (.cons (k := 103) rfl (.cons (k := 105) rfl (.cons (k := 150) rfl .nil))))))) ?_
      refine W.ret ?_
      refine N.then_ret ?_
      exact N.retBy [1, 2, 3] (.cons (.tmp rfl) .nil) rfl rfl rfl rfl ⟨x, G, by rw [errN_eq h0 h1 h2]; rfl, hx, (adm_ref (by rw [errN_eq h0 h1 h2]; decide)).symm, rfl⟩
  ·
    refine DL.one rfl (Eff.alloc 105 zc87) rfl (by rintro _ _ ⟨b5, rfl, rfl⟩; repeat (first | exact .nil | refine .cons rfl ?_)) ?_
    rintro _ _ ⟨b5, rfl, rfl⟩
    refine DL.one rfl (Eff.call ent54 [] [150] .nil kinds_ct rfl rfl rfl rfl (by rintro _ _ ⟨_, _, _, _, _, rfl⟩; rfl)) rfl (by rintro _ _ ⟨_, ⟨bm, es, ck, rfl, hM, rfl⟩, rfl⟩; repeat (first | exact .nil | refine .cons rfl ?_)) ?_
    rintro _ _ ⟨_, ⟨bm, es, ck, rfl, hM, rfl⟩, rfl⟩
    refine DL.one rfl (Yld.eff (Yld.eq (v' := .tuple [.agg [.nilFunc, .nilFunc].toArray, .bool false].toArray) (Yld.lookupOk (c := 150) Tryz.underlying89 (keyInt Tryz.underlying3) zv87 rfl rfl rfl (by assumption)) (by rw [show mget KM c.k = none by simp only [KM, mget_mset]; rw [if_neg (by omega), if_neg (by omega), if_neg (by omega)]; rfl]; rfl))) rfl (by rintro _ _ ⟨rfl, rfl⟩; repeat (first | exact .nil | refine .cons rfl ?_)) ?_
    rintro _ _ ⟨rfl, rfl⟩
    refine DL.q rfl (Yld.move rfl) rfl ?_
    refine DL.q rfl (Yld.extract rfl rfl) rfl ?_
    refine DL.q rfl (Yld.extract rfl rfl) rfl ?_
    refine DL.one0 rfl (Eff.storeS (c := 105) _ sz87 rfl rfl rfl rfl rfl rfl rfl (by (try simp only [putAt, List.take, List.drop, List.nil_append, List.cons_append, List.append_nil, List.length_cons, List.length_nil, Nat.add_zero, Nat.zero_add, Nat.reduceAdd]); rfl)) (by rintro _ _ rfl; repeat (first | exact .nil | refine .cons rfl ?_)) ?_
    rintro _ _ rfl
    refine DL.q rfl (Yld.assign rfl) rfl ?_
    refine DL.done ?_
    refine N.next ?_
    refine W.keep (.cons (k := 0) rfl (.cons (k := 3) rfl (.cons (k := 5) rfl (.cons (k := 6) rfl .nil)))) (.cons (k := 0) rfl (.cons (k := 1) rfl (.cons (k := 2) rfl (.cons (k := 3) rfl (.cons (k := 103) rfl (.cons (k := 105) rfl (.cons (k := 150) rfl .nil))))))) ?_
    refine W.seq ?_
    refine W.seq ?_
    refine W.region ?_
    refine RL.q (Yld.move rfl) rfl ?_
    refine RL.q (by first | exact Yld.notD rfl | exact Yld.not rfl) rfl ?_
    refine RL.nil ?_
    refine N.next ?_
    first | (refine W.as (t := 16) rfl (boolT (by first | assumption | omega | (simp; done))) ?_; refine W.condT rfl ?_) | refine W.condT rfl ?_
    refine W.seq ?_
    refine W.region ?_
    refine RL.q (Yld.assign rfl) rfl ?_
    refine RL.nil ?_
    refine N.next ?_
    refine W.keep (.cons (k := 4) rfl .nil) (.cons (k := 0) rfl (.cons (k := 1) rfl (.cons (k := 2) rfl (.cons (k := 3) rfl (.cons (k := 103) rfl (.cons (k := 105) rfl (.cons (k := 150) rfl .nil))))))) ?_
    refine W.ret ?_
    refine N.then_ret ?_
    exact N.retBy [1, 2, 3] (.cons (.tmp rfl) .nil) rfl rfl rfl rfl ⟨x, G, by rw [errN_eq h0 h1 h2]; rfl, hx, (adm_ref (by rw [errN_eq h0 h1 h2]; decide)).symm, rfl⟩

theorem admit_ct (b : Nat) (x : Cf) (G : PH) (hx : x.In G) (c : Ch) (H : PH) (hc : c.In H) (k : Nat) (hk : k ≤ 1000) (hg : GOK k (gl x)) (hs : c.Sm) : Ct Tryz.prog 23 [.pointer (some ⟨b, 0, none⟩), .agg [.int .i64 c.k, .int .i64 c.m, .slice c.pf c.f.length c.cf, .slice c.pt c.t.length c.ct].toArray] [single b (.cells [.slice x.po x.o.length x.co, .slice x.pn x.n.length x.cn, .slice x.pl x.l.length x.cl].toArray 60 (0, 0)), G, H] (fun v Hs => ∃ (y : Cf) (G' : PH), v = .int .i64 (err (gl x) c) ∧ y.In G' ∧ gl y = adm (gl x) c ∧ Hs = [single b (.cells [.slice y.po y.o.length y.co, .slice y.pn y.n.length y.cn, .slice y.pl y.l.length y.cl].toArray 60 (0, 0)), G', H]) := by
  by_cases h0 : c.k = 0
  · exact admitS_ct b x G hx c H hc k hk hg hs _ _ ent82 ent83 (ck0_ct b x G hx c H hc k hk hg hs h0) (fun _ => mk0_ct b x G hx c H hc k hk hg hs h0) (by rw [h0]; rfl)
  by_cases h1 : c.k = 1
  · exact admitS_ct b x G hx c H hc k hk hg hs _ _ ent85 ent86 (ck1_ct b x G hx c H hc k hk hg hs h1) (fun _ => mk1_ct b x G hx c H hc k hk hg hs h1) (by rw [h1]; rfl)
  by_cases h2 : c.k = 2
  · exact admitS_ct b x G hx c H hc k hk hg hs _ _ ent87 ent88 (ck2_ct b x G hx c H hc k hk hg hs h2) (fun _ => mk2_ct b x G hx c H hc k hk hg hs h2) (by rw [h2]; rfl)
  exact admitN_ct b x G hx c H hc k hk hg hs h0 h1 h2

end Go.Proofs.YtdjmdfnhnlijiaaGreatDoor
