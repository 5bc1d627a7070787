/- The reference. Written by program (walk2.py). -/
import Derived.Test.YtdjmdfnhnlijiaaGreatDoorM4
namespace Go.Proofs.YtdjmdfnhnlijiaaGreatDoor
open SL Cfg Memb
set_option linter.unusedVariables false
set_option linter.unusedSimpArgs false
theorem zc31 : zc Tryz.prog 31 [.slice none 0 0, .slice none 0 0, .slice none 0 0] := (by kernel_rfl : ((Tryz.prog.info? 31).bind (·.zero)).map (fun v => v.cells.toList) = some [.slice none 0 0, .slice none 0 0, .slice none 0 0])
theorem lay31 : layS Tryz.prog 31 = some ([.slice none 0 0, .slice none 0 0, .slice none 0 0], [(0, 1), (1, 1), (2, 1)]) := by kernel_rfl
theorem sz31 : sz Tryz.prog 31 3 := (by kernel_rfl : (Tryz.prog.info? 31).map (·.size) = some 3)
theorem fo31_2 : fieldOff Tryz.prog 31 2 = some 2 := by kernel_rfl
theorem fo31_1 : fieldOff Tryz.prog 31 1 = some 1 := by kernel_rfl
theorem ent63 : Ent Tryz.prog 63 := ⟨_, _, Tryz.func63, by kernel_rfl, rfl⟩
theorem fo31_0 : fieldOff Tryz.prog 31 0 = some 0 := by kernel_rfl
theorem ent91 : Ent Tryz.prog 91 := ⟨_, _, Tryz.func91, by kernel_rfl, rfl⟩
set_option maxRecDepth 100000 in
set_option maxHeartbeats 400000 in
theorem rmnew_ct (l : List Int) (H1 : PH) (p : Option Addr) (c : Nat) (hl : Sl H1 p c 1 (iz l)) (hb : l.length ≤ 1000000) : Ct Tryz.prog 28 [.slice p l.length c] [H1] (fun v Hs => ∃ (y : Cf) (H' : PH), v = .agg [.slice y.po y.o.length y.co, .slice y.pn y.n.length y.cn, .slice y.pl y.l.length y.cl].toArray ∧ y.In H' ∧ y.o = setL l ∧ y.n = [] ∧ y.l = setL l ∧ Hs = [H1, H']) := by
  refine Ct.body Tryz.func28 rfl Tryz.ntmps28 rfl ?_
  intro E F
  refine W.seq ?_
  refine W.region ?_
  refine RL.e (Eff.alloc 102 zc31) rfl ?_
  rintro _ _ ⟨b2, rfl, rfl⟩
  refine RL.nil ?_
  refine N.next ?_
  refine W.seq ?_
  refine W.region ?_
  refine RL.q (Yld.move rfl) rfl ?_
  refine RL.e (Eff.call ent61 [1] [1, 130] (.cons rfl .nil) (rset_ct l _ _ _ hl hb) rfl rfl rfl rfl (by rintro _ _ ⟨_, _, _, _, _, rfl⟩; rfl)) rfl ?_
  rintro _ _ ⟨_, ⟨Ha, pa, ca, rfl, hOa, rfl⟩, rfl⟩
  refine RL.q (Yld.assign rfl) rfl ?_
  refine RL.nil ?_
  refine N.next ?_
  refine W.seq ?_
  refine W.region ?_
  refine RL.q (Yld.move rfl) rfl ?_
  refine RL.q (Yld.move rfl) rfl ?_
  refine RL.q (Yld.buildP lay31 (.cons rfl rfl (.cons rfl rfl .nil)) rfl) rfl ?_
  refine RL.e0 (Eff.storeS (c := 102) _ sz31 rfl rfl rfl rfl rfl rfl rfl (by (try simp only [putAt, List.take, List.drop, List.nil_append, List.cons_append, List.append_nil, List.length_cons, List.length_nil, Nat.add_zero, Nat.zero_add, Nat.reduceAdd]); rfl)) ?_
  rintro _ _ rfl
  refine RL.nil ?_
  refine N.next ?_
  refine W.keep (.cons (k := 2) rfl .nil) (.cons (k := 0) rfl (.cons (k := 1) rfl (.cons (k := 102) rfl (.cons (k := 130) rfl .nil)))) ?_
  refine W.ret ?_
  exact N.retBy [1, 130] (.cons (by first | exact .cell (c := 102) rfl rfl (fun w hs => run_loadVarA Tryz.underlying31 rfl sz31 rfl (fun j u hj => by rw [Nat.zero_add, PH.sub.cell hs (by first | exact single_self _ _ | exact pset_self _ _ _ | assumption)]; exact hj))) .nil) rfl rfl rfl rfl ⟨⟨setL l, [], setL l, pa, ca, none, 0, pa, ca⟩, Ha, rfl, ⟨hOa.sl, ⟨rfl, rfl⟩, hOa.sl⟩, rfl, rfl, rfl, rfl⟩

set_option maxRecDepth 100000 in
set_option maxHeartbeats 400000 in
theorem rput_ct (l : List Int) (H1 : PH) (p : Option Addr) (c : Nat) (hl : Sl H1 p c 1 (iz l)) (z : Int) (hb : l.length ≤ 100000) : Ct Tryz.prog 63 [.slice p l.length c, .int .i64 z] [H1] (fun v Hs => ∃ H' p' c', v = .slice p' (setL (l ++ [z])).length c' ∧ Own H' p' c' 3 1 (iz (setL (l ++ [z]))) ∧ Hs = [H1, H']) := by
  refine Ct.body Tryz.func63 rfl Tryz.ntmps63 rfl ?_
  intro E F
  refine W.seq ?_
  refine W.region ?_
  refine RL.q (Yld.assign rfl) rfl ?_
  refine RL.nil ?_
  refine N.next ?_
  refine W.seq ?_
  refine W.region ?_
  refine RL.e (Eff.buildSlice 105 Tryz.underlying22 sz3 zc3 rfl rfl .nil rfl) rfl ?_
  rintro _ _ ⟨b5, rfl, rfl⟩
  refine RL.q (Yld.move rfl) rfl ?_
  refine RL.e (Eff.appendE (tc := 105) (sc := 1) (fun z : Int => [Value.int .i64 z]) Tryz.underlying22 el3 rfl rfl rfl rfl (iz_none rfl) rfl hl rfl (iz_one1 _) (by decide) (by first | (simp; done) | (simp; omega)) (by first | (simp [maxLen]; done) | (simp [maxLen]; omega))) rfl ?_
  rintro _ _ ⟨Ha, pa, ca, rfl, hOa, rfl⟩
  refine RL.q (Yld.move rfl) rfl ?_
  refine RL.e (Eff.buildSlice 109 Tryz.underlying22 sz3 zc3 rfl rfl (.cons rfl rfl .nil) rfl) rfl ?_
  rintro _ _ ⟨b9, rfl, rfl⟩
  refine RL.e (Eff.appendE (tc := 105) (sc := 109) (fun z : Int => [Value.int .i64 z]) Tryz.underlying22 el3 rfl rfl rfl rfl hOa rfl (iz_single rfl) rfl (iz_one1 _) (by decide) (by first | (simp; done) | (simp; omega)) (by first | (simp [maxLen]; done) | (simp [maxLen]; omega))) rfl ?_
  rintro _ _ ⟨Hb, pb, cb, rfl, hOb, rfl⟩
  refine RL.e (Eff.call ent61 [105] [105, 130] (.cons rfl .nil) (rset_ct (l ++ [z]) _ _ _ hOb.sl (by simp; omega)) rfl rfl rfl rfl (by rintro _ _ ⟨_, _, _, _, _, rfl⟩; rfl)) rfl ?_
  rintro _ _ ⟨_, ⟨Hc, pc, cc, rfl, hOc, rfl⟩, rfl⟩
  refine RL.q (Yld.assign rfl) rfl ?_
  refine RL.nil ?_
  refine N.next ?_
  refine W.keep (.cons (k := 4) rfl .nil) (.cons (k := 0) rfl (.cons (k := 1) rfl (.cons (k := 105) rfl (.cons (k := 109) rfl (.cons (k := 130) rfl .nil))))) ?_
  refine W.ret ?_
  exact N.retBy [1, 130] (.cons (.tmp rfl) .nil) rfl rfl rfl rfl ⟨_, _, _, rfl, hOc, rfl⟩

set_option maxRecDepth 100000 in
set_option maxHeartbeats 6400000 in
theorem radmit_ct (x : Cf) (H1 : PH) (hx : x.In H1) (c : Ch) (H : PH) (hc : c.In H) (k : Nat) (hk : k ≤ 1000) (hg : GOK k (gl x)) (hs : c.Sm) : Ct Tryz.prog 29 [.agg [.slice x.po x.o.length x.co, .slice x.pn x.n.length x.cn, .slice x.pl x.l.length x.cl].toArray, .agg [.int .i64 c.k, .int .i64 c.m, .slice c.pf c.f.length c.cf, .slice c.pt c.t.length c.ct].toArray] [H1, H] (fun v Hs => ∃ (y : Cf) (G' : PH), v = .tuple [.agg [.slice y.po y.o.length y.co, .slice y.pn y.n.length y.cn, .slice y.pl y.l.length y.cl].toArray, .int .i64 (err (gl x) c)].toArray ∧ y.In G' ∧ gl y = adm (gl x) c ∧ Hs = [G', H]) := by
  refine Ct.body Tryz.func29 rfl Tryz.ntmps29 rfl ?_
  intro E F
  have hbo := hg.bo
  have hbn := hg.bn
  have hbl := hg.bl
  replace hbo : x.o.length ≤ 8 := hbo
  replace hbn : x.n.length ≤ k := hbn
  replace hbl : x.l.length ≤ 8 + k := hbl
  have hxx := hx
  obtain ⟨hxo, hxn, hxl⟩ := hxx
  obtain ⟨hcf, hct⟩ := hc
  have hsf := hs.1
  have hst := hs.2.1
  have hsl := setL_len c.t
  have hml := minus_len (l := c.t) (m := x.o)
  have hml2 := minus_len (l := minusL c.t x.o) (m := x.n)
  refine W.seq ?_
  refine W.region ?_
  refine RL.e (Eff.box 102 _ rfl rfl) rfl ?_
  rintro _ _ ⟨b2, rfl, rfl⟩
  refine RL.e (Eff.box 103 _ rfl rfl) rfl ?_
  rintro _ _ ⟨b3, rfl, rfl⟩
  refine RL.e (Eff.alloc 104 zc31) rfl ?_
  rintro _ _ ⟨b4, rfl, rfl⟩
  refine RL.q (Yld.assign rfl) rfl ?_
  refine RL.nil ?_
  refine N.next ?_
  refine W.seq ?_
  refine W.seq ?_
  refine W.region ?_
  refine RL.q (Yld.fieldAddr fo41_0 rfl) rfl ?_
  refine RL.q (Yld.load1 (c := 103) Tryz.underlying3 rfl rfl rfl (by first | exact single_self _ _ | exact pset_self _ _ _ | assumption) rfl) rfl ?_
  refine RL.nil ?_
  refine N.next ?_
  refine W.keep (.cons (k := 2) rfl (.cons (k := 3) rfl (.cons (k := 4) rfl (.cons (k := 7) rfl .nil)))) (.cons (k := 0) rfl (.cons (k := 1) rfl (.cons (k := 2) rfl (.cons (k := 102) rfl (.cons (k := 103) rfl (.cons (k := 104) rfl .nil)))))) ?_
  refine W.block ?_
  refine W.seq ?_
  refine W.region ?_
  refine RL.q (Yld.bin rfl rfl BinV.eql) rfl ?_
  refine RL.q (Yld.assign rfl) rfl ?_
  refine RL.nil ?_
  refine N.next ?_
  first | refine W.condD rfl (fun hc8 => ?_) (fun hc8 => ?_) | (refine W.cond rfl (fun hc8 => ?_) (fun hc8 => ?_) <;> try simp only [Bool.or_eq_true, Bool.and_eq_true, Bool.not_eq_true', Bool.not_eq_false', decide_eq_true_eq, Bool.or_eq_false_iff, Bool.and_eq_false_iff, decide_eq_false_iff_not, beq_iff_eq, beq_eq_false_iff_ne, ne_eq, Decidable.not_not] at hc8)
  ·
    have h0 : c.k = 0 := hc8
    refine W.seq ?_
    refine W.seq ?_
    refine W.region ?_
    refine RL.q (Yld.fieldAddr fo41_1 rfl) rfl ?_
    refine RL.q (Yld.load1 (c := 103) Tryz.underlying3 rfl rfl rfl (by first | exact single_self _ _ | exact pset_self _ _ _ | assumption) rfl) rfl ?_
    refine RL.q (Yld.bin rfl rfl BinV.lss) rfl ?_
    refine RL.nil ?_
    refine N.next ?_
    refine W.keep (.cons (k := 2) rfl (.cons (k := 3) rfl (.cons (k := 4) rfl (.cons (k := 12) rfl .nil)))) (.cons (k := 0) rfl (.cons (k := 1) rfl (.cons (k := 2) rfl (.cons (k := 102) rfl (.cons (k := 103) rfl (.cons (k := 104) rfl .nil)))))) ?_
    first | refine W.condD rfl (fun hc12 => ?_) (fun hc12 => ?_) | (refine W.cond rfl (fun hc12 => ?_) (fun hc12 => ?_) <;> try simp only [Bool.or_eq_true, Bool.and_eq_true, Bool.not_eq_true', Bool.not_eq_false', decide_eq_true_eq, Bool.or_eq_false_iff, Bool.and_eq_false_iff, decide_eq_false_iff_not, beq_iff_eq, beq_eq_false_iff_ne, ne_eq, Decidable.not_not] at hc12)
    ·
      refine W.seq ?_
      refine W.region ?_
      refine RL.q (Yld.loadW (c := 102) Tryz.underlying31 rfl sz31 rfl rfl (by first | exact single_self _ _ | exact pset_self _ _ _ | assumption) rfl) rfl ?_
      refine RL.e0 (Eff.storeS (c := 104) _ sz31 rfl rfl rfl rfl rfl rfl rfl (by (try simp only [putAt, List.take, List.drop, List.nil_append, List.cons_append, List.append_nil, List.length_cons, List.length_nil, Nat.add_zero, Nat.zero_add, Nat.reduceAdd]); rfl)) ?_
      rintro _ _ rfl
      refine RL.q (Yld.assign rfl) rfl ?_
      refine RL.nil ?_
      refine N.next ?_
      refine W.keep (.cons (k := 4) rfl (.cons (k := 5) rfl .nil)) (.cons (k := 0) rfl (.cons (k := 1) rfl (.cons (k := 2) rfl (.cons (k := 102) rfl (.cons (k := 103) rfl (.cons (k := 104) rfl .nil)))))) ?_
      refine W.ret ?_
      refine N.then_ret ?_
      refine N.block_ret ?_
      refine N.then_ret ?_
      exact N.retBy [1, 2] (.cons (by first | exact .cell (c := 104) rfl rfl (fun w hs => run_loadVarA Tryz.underlying31 rfl sz31 rfl (fun j u hj => by rw [Nat.zero_add, PH.sub.cell hs (by first | exact single_self _ _ | exact pset_self _ _ _ | assumption)]; exact hj))) (.cons (.tmp rfl) .nil)) rfl rfl rfl rfl ⟨x, H1, by rw [err0_eq h0, if_pos hc12]; rfl, hx, (adm_ref (by rw [err0_eq h0, if_pos hc12]; decide)).symm, rfl⟩
    ·
      refine W.skip ?_
      refine N.next ?_
      refine W.seq ?_
      refine W.seq ?_
      refine W.region ?_
      refine RL.q (Yld.fieldAddr fo31_2 rfl) rfl ?_
      refine RL.q (Yld.load1 (c := 102) Tryz.underlying22 rfl rfl rfl (by first | exact single_self _ _ | exact pset_self _ _ _ | assumption) rfl) rfl ?_
      refine RL.q (Yld.fieldAddr fo41_1 rfl) rfl ?_
      refine RL.q (Yld.load1 (c := 103) Tryz.underlying3 rfl rfl rfl (by first | exact single_self _ _ | exact pset_self _ _ _ | assumption) rfl) rfl ?_
      refine RL.e (Eff.call ent62 [1] [1] (.cons rfl (.cons rfl .nil)) (has_ct x.l _ _ _ hxl c.m) rfl rfl rfl rfl (by rintro _ _ ⟨_, rfl⟩; rfl)) rfl ?_
      rintro _ _ ⟨_, ⟨rfl, rfl⟩, rfl⟩
      refine RL.nil ?_
      refine N.next ?_
      refine W.keep (.cons (k := 2) rfl (.cons (k := 3) rfl (.cons (k := 4) rfl (.cons (k := 18) rfl .nil)))) (.cons (k := 0) rfl (.cons (k := 1) rfl (.cons (k := 2) rfl (.cons (k := 102) rfl (.cons (k := 103) rfl (.cons (k := 104) rfl .nil)))))) ?_
      first | refine W.condD rfl (fun hc18 => ?_) (fun hc18 => ?_) | (refine W.cond rfl (fun hc18 => ?_) (fun hc18 => ?_) <;> try simp only [Bool.or_eq_true, Bool.and_eq_true, Bool.not_eq_true', Bool.not_eq_false', decide_eq_true_eq, Bool.or_eq_false_iff, Bool.and_eq_false_iff, decide_eq_false_iff_not, beq_iff_eq, beq_eq_false_iff_ne, ne_eq, Decidable.not_not] at hc18)
      ·
        refine W.seq ?_
        refine W.region ?_
        refine RL.q (Yld.loadW (c := 102) Tryz.underlying31 rfl sz31 rfl rfl (by first | exact single_self _ _ | exact pset_self _ _ _ | assumption) rfl) rfl ?_
        refine RL.e0 (Eff.storeS (c := 104) _ sz31 rfl rfl rfl rfl rfl rfl rfl (by (try simp only [putAt, List.take, List.drop, List.nil_append, List.cons_append, List.append_nil, List.length_cons, List.length_nil, Nat.add_zero, Nat.zero_add, Nat.reduceAdd]); rfl)) ?_
        rintro _ _ rfl
        refine RL.q (Yld.assign rfl) rfl ?_
        refine RL.nil ?_
        refine N.next ?_
        refine W.keep (.cons (k := 4) rfl (.cons (k := 5) rfl .nil)) (.cons (k := 0) rfl (.cons (k := 1) rfl (.cons (k := 2) rfl (.cons (k := 102) rfl (.cons (k := 103) rfl (.cons (k := 104) rfl .nil)))))) ?_
        refine W.ret ?_
        refine N.then_ret ?_
        refine N.block_ret ?_
        refine N.then_ret ?_
        exact N.retBy [1, 2] (.cons (by first | exact .cell (c := 104) rfl rfl (fun w hs => run_loadVarA Tryz.underlying31 rfl sz31 rfl (fun j u hj => by rw [Nat.zero_add, PH.sub.cell hs (by first | exact single_self _ _ | exact pset_self _ _ _ | assumption)]; exact hj))) (.cons (.tmp rfl) .nil)) rfl rfl rfl rfl ⟨x, H1, by rw [err0_eq h0, if_neg hc12, if_pos (show c.m ∈ (gl x).l from hc18)]; rfl, hx, (adm_ref (by rw [err0_eq h0, if_neg hc12, if_pos (show c.m ∈ (gl x).l from hc18)]; decide)).symm, rfl⟩
      ·
        refine W.skip ?_
        refine N.next ?_
        refine W.seq ?_
        refine W.draw (.q 0 (.q 2 (.q 3 (.q 5 (.q 7 (.q 8 (.two 1 (.two 4 (.one 6 (.q 10 (.one 9 (.one 11 (.q 12 (.one 13 .done)))))) 6 (.one 4 (.q 10 (.one 9 (.one 11 (.q 12 (.one 13 .done))))))) 6 (.one 1 (.one 4 (.q 10 (.one 9 (.one 11 (.q 12 (.one 13 .done)))))))))))))) (.cons (k := 0) rfl (.cons (k := 1) rfl (.cons (k := 2) rfl (.cons (k := 103) rfl (.cons (k := 104) rfl .nil))))) mix (by kernel_rfl) (by kernel_rfl) ?_
        refine DL.q rfl (Yld.fieldAddr fo31_1 rfl) rfl ?_
        refine DL.q rfl (Yld.fieldAddr fo41_1 rfl) rfl ?_
        refine DL.q rfl (Yld.load1 (c := 103) Tryz.underlying3 rfl rfl rfl (by first | exact single_self _ _ | exact pset_self _ _ _ | assumption) rfl) rfl ?_
        refine DL.q rfl (Yld.fieldAddr fo31_2 rfl) rfl ?_
        refine DL.q rfl (Yld.fieldAddr fo41_1 rfl) rfl ?_
        refine DL.q rfl (Yld.load1 (c := 103) Tryz.underlying3 rfl rfl rfl (by first | exact single_self _ _ | exact pset_self _ _ _ | assumption) rfl) rfl ?_
        refine DL.two ?_ ?_
        ·
          refine DL.one rfl (Yld.eff (Yld.load1 (c := 102) Tryz.underlying22 rfl rfl rfl (by first | exact single_self _ _ | exact pset_self _ _ _ | assumption) rfl)) rfl (by rintro _ _ ⟨rfl, rfl⟩; repeat (first | exact .nil | refine .cons rfl ?_)) ?_
          rintro _ _ ⟨rfl, rfl⟩
          refine DL.two ?_ ?_
          ·
            refine DL.one rfl (Eff.call ent63 [1] [1, 150] (.cons rfl (.cons rfl .nil)) (rput_ct x.n _ _ _ hxn c.m (by omega)) rfl rfl rfl rfl (by rintro _ _ ⟨_, _, _, _, _, rfl⟩; rfl)) rfl (by rintro _ _ ⟨_, ⟨Ha, pa, ca, rfl, hOa, rfl⟩, rfl⟩; repeat (first | exact .nil | refine .cons rfl ?_)) ?_
            rintro _ _ ⟨_, ⟨Ha, pa, ca, rfl, hOa, rfl⟩, rfl⟩
            refine DL.one rfl (Yld.eff (Yld.load1 (c := 102) Tryz.underlying22 rfl rfl rfl (by first | exact single_self _ _ | exact pset_self _ _ _ | assumption) rfl)) rfl (by rintro _ _ ⟨rfl, rfl⟩; repeat (first | exact .nil | refine .cons rfl ?_)) ?_
            rintro _ _ ⟨rfl, rfl⟩
            refine DL.q rfl (Yld.fieldAddr fo31_1 rfl) rfl ?_
            refine DL.one rfl (Eff.call ent63 [1] [1, 151] (.cons rfl (.cons rfl .nil)) (rput_ct x.l _ _ _ hxl c.m (by omega)) rfl rfl rfl rfl (by rintro _ _ ⟨_, _, _, _, _, rfl⟩; rfl)) rfl (by rintro _ _ ⟨_, ⟨Hb, pb, cb, rfl, hOb, rfl⟩, rfl⟩; repeat (first | exact .nil | refine .cons rfl ?_)) ?_
            rintro _ _ ⟨_, ⟨Hb, pb, cb, rfl, hOb, rfl⟩, rfl⟩
            refine DL.one0 rfl (Eff.storeS (c := 102) _ sz22 rfl rfl rfl rfl rfl rfl rfl (by (try simp only [putAt, List.take, List.drop, List.nil_append, List.cons_append, List.append_nil, List.length_cons, List.length_nil, Nat.add_zero, Nat.zero_add, Nat.reduceAdd]); rfl)) (by rintro _ _ rfl; repeat (first | exact .nil | refine .cons rfl ?_)) ?_
            rintro _ _ rfl
            refine DL.q rfl (Yld.fieldAddr fo31_2 rfl) rfl ?_
            refine DL.one0 rfl (Eff.storeS (c := 102) _ sz22 rfl rfl rfl rfl rfl rfl rfl (by (try simp only [putAt, List.take, List.drop, List.nil_append, List.cons_append, List.append_nil, List.length_cons, List.length_nil, Nat.add_zero, Nat.zero_add, Nat.reduceAdd]); rfl)) (by rintro _ _ rfl; repeat (first | exact .nil | refine .cons rfl ?_)) ?_
            rintro _ _ rfl
            refine DL.done ?_
            refine N.next ?_
            refine W.keep (.cons (k := 2) rfl (.cons (k := 4) rfl .nil)) (.cons (k := 0) rfl (.cons (k := 1) rfl (.cons (k := 2) rfl (.cons (k := 102) rfl (.cons (k := 103) rfl (.cons (k := 104) rfl (.cons (k := 150) rfl (.cons (k := 151) rfl .nil)))))))) ?_
            refine W.seq ?_
            refine W.region ?_
            refine RL.q (Yld.loadW (c := 102) Tryz.underlying31 rfl sz31 rfl rfl (by first | exact single_self _ _ | exact pset_self _ _ _ | assumption) rfl) rfl ?_
            refine RL.e0 (Eff.storeS (c := 104) _ sz31 rfl rfl rfl rfl rfl rfl rfl (by (try simp only [putAt, List.take, List.drop, List.nil_append, List.cons_append, List.append_nil, List.length_cons, List.length_nil, Nat.add_zero, Nat.zero_add, Nat.reduceAdd]); rfl)) ?_
            rintro _ _ rfl
            refine RL.q (Yld.assign rfl) rfl ?_
            refine RL.nil ?_
            refine N.next ?_
            refine W.ret ?_
            refine N.block_ret ?_
            refine N.then_ret ?_
            have he : err (gl x) c = 0 := by rw [err0_eq h0, if_neg hc12, if_neg (show ¬ c.m ∈ (gl x).l from hc18)]
            refine N.merge 1 150 rfl rfl rfl fun ha1 => ?_
            refine N.merge 1 151 rfl rfl rfl fun ha2 => ?_
            exact N.retBy [1, 2] (.cons (by first | exact .cell (c := 104) rfl rfl (fun w hs => run_loadVarA Tryz.underlying31 rfl sz31 rfl (fun j u hj => by rw [Nat.zero_add, PH.sub.cell hs (by first | exact single_self _ _ | exact pset_self _ _ _ | assumption)]; exact hj))) (.cons (.tmp rfl) .nil)) rfl rfl rfl rfl ⟨⟨x.o, setL (x.n ++ [c.m]), setL (x.l ++ [c.m]), x.po, x.co, pa, ca, pb, cb⟩, _, by rw [he]; rfl, ⟨(hxo.mono hjoin_l).mono hjoin_l, (hOa.sl.mono ha1).mono hjoin_l, hOb.sl.mono ha2⟩, by rw [adm_ok he]; unfold mkG; rw [if_pos h0]; rfl, rfl⟩
          ·
            refine DL.one rfl (Yld.eff (Yld.load1 (c := 102) Tryz.underlying22 rfl rfl rfl (by first | exact single_self _ _ | exact pset_self _ _ _ | assumption) rfl)) rfl (by rintro _ _ ⟨rfl, rfl⟩; repeat (first | exact .nil | refine .cons rfl ?_)) ?_
            rintro _ _ ⟨rfl, rfl⟩
            refine DL.one rfl (Eff.call ent63 [1] [1, 150] (.cons rfl (.cons rfl .nil)) (rput_ct x.n _ _ _ hxn c.m (by omega)) rfl rfl rfl rfl (by rintro _ _ ⟨_, _, _, _, _, rfl⟩; rfl)) rfl (by rintro _ _ ⟨_, ⟨Ha, pa, ca, rfl, hOa, rfl⟩, rfl⟩; repeat (first | exact .nil | refine .cons rfl ?_)) ?_
            rintro _ _ ⟨_, ⟨Ha, pa, ca, rfl, hOa, rfl⟩, rfl⟩
            refine DL.q rfl (Yld.fieldAddr fo31_1 rfl) rfl ?_
            refine DL.one rfl (Eff.call ent63 [1] [1, 151] (.cons rfl (.cons rfl .nil)) (rput_ct x.l _ _ _ hxl c.m (by omega)) rfl rfl rfl rfl (by rintro _ _ ⟨_, _, _, _, _, rfl⟩; rfl)) rfl (by rintro _ _ ⟨_, ⟨Hb, pb, cb, rfl, hOb, rfl⟩, rfl⟩; repeat (first | exact .nil | refine .cons rfl ?_)) ?_
            rintro _ _ ⟨_, ⟨Hb, pb, cb, rfl, hOb, rfl⟩, rfl⟩
            refine DL.one0 rfl (Eff.storeS (c := 102) _ sz22 rfl rfl rfl rfl rfl rfl rfl (by (try simp only [putAt, List.take, List.drop, List.nil_append, List.cons_append, List.append_nil, List.length_cons, List.length_nil, Nat.add_zero, Nat.zero_add, Nat.reduceAdd]); rfl)) (by rintro _ _ rfl; repeat (first | exact .nil | refine .cons rfl ?_)) ?_
            rintro _ _ rfl
            refine DL.q rfl (Yld.fieldAddr fo31_2 rfl) rfl ?_
            refine DL.one0 rfl (Eff.storeS (c := 102) _ sz22 rfl rfl rfl rfl rfl rfl rfl (by (try simp only [putAt, List.take, List.drop, List.nil_append, List.cons_append, List.append_nil, List.length_cons, List.length_nil, Nat.add_zero, Nat.zero_add, Nat.reduceAdd]); rfl)) (by rintro _ _ rfl; repeat (first | exact .nil | refine .cons rfl ?_)) ?_
            rintro _ _ rfl
            refine DL.done ?_
            refine N.next ?_
            refine W.keep (.cons (k := 2) rfl (.cons (k := 4) rfl .nil)) (.cons (k := 0) rfl (.cons (k := 1) rfl (.cons (k := 2) rfl (.cons (k := 102) rfl (.cons (k := 103) rfl (.cons (k := 104) rfl (.cons (k := 150) rfl (.cons (k := 151) rfl .nil)))))))) ?_
            refine W.seq ?_
            refine W.region ?_
            refine RL.q (Yld.loadW (c := 102) Tryz.underlying31 rfl sz31 rfl rfl (by first | exact single_self _ _ | exact pset_self _ _ _ | assumption) rfl) rfl ?_
            refine RL.e0 (Eff.storeS (c := 104) _ sz31 rfl rfl rfl rfl rfl rfl rfl (by (try simp only [putAt, List.take, List.drop, List.nil_append, List.cons_append, List.append_nil, List.length_cons, List.length_nil, Nat.add_zero, Nat.zero_add, Nat.reduceAdd]); rfl)) ?_
            rintro _ _ rfl
            refine RL.q (Yld.assign rfl) rfl ?_
            refine RL.nil ?_
            refine N.next ?_
            refine W.ret ?_
            refine N.block_ret ?_
            refine N.then_ret ?_
            have he : err (gl x) c = 0 := by rw [err0_eq h0, if_neg hc12, if_neg (show ¬ c.m ∈ (gl x).l from hc18)]
            refine N.merge 1 150 rfl rfl rfl fun ha1 => ?_
            refine N.merge 1 151 rfl rfl rfl fun ha2 => ?_
            exact N.retBy [1, 2] (.cons (by first | exact .cell (c := 104) rfl rfl (fun w hs => run_loadVarA Tryz.underlying31 rfl sz31 rfl (fun j u hj => by rw [Nat.zero_add, PH.sub.cell hs (by first | exact single_self _ _ | exact pset_self _ _ _ | assumption)]; exact hj))) (.cons (.tmp rfl) .nil)) rfl rfl rfl rfl ⟨⟨x.o, setL (x.n ++ [c.m]), setL (x.l ++ [c.m]), x.po, x.co, pa, ca, pb, cb⟩, _, by rw [he]; rfl, ⟨(hxo.mono hjoin_l).mono hjoin_l, (hOa.sl.mono ha1).mono hjoin_l, hOb.sl.mono ha2⟩, by rw [adm_ok he]; unfold mkG; rw [if_pos h0]; rfl, rfl⟩
        ·
          refine DL.one rfl (Yld.eff (Yld.load1 (c := 102) Tryz.underlying22 rfl rfl rfl (by first | exact single_self _ _ | exact pset_self _ _ _ | assumption) rfl)) rfl (by rintro _ _ ⟨rfl, rfl⟩; repeat (first | exact .nil | refine .cons rfl ?_)) ?_
          rintro _ _ ⟨rfl, rfl⟩
          refine DL.one rfl (Yld.eff (Yld.load1 (c := 102) Tryz.underlying22 rfl rfl rfl (by first | exact single_self _ _ | exact pset_self _ _ _ | assumption) rfl)) rfl (by rintro _ _ ⟨rfl, rfl⟩; repeat (first | exact .nil | refine .cons rfl ?_)) ?_
          rintro _ _ ⟨rfl, rfl⟩
          refine DL.one rfl (Eff.call ent63 [1] [1, 150] (.cons rfl (.cons rfl .nil)) (rput_ct x.n _ _ _ hxn c.m (by omega)) rfl rfl rfl rfl (by rintro _ _ ⟨_, _, _, _, _, rfl⟩; rfl)) rfl (by rintro _ _ ⟨_, ⟨Ha, pa, ca, rfl, hOa, rfl⟩, rfl⟩; repeat (first | exact .nil | refine .cons rfl ?_)) ?_
          rintro _ _ ⟨_, ⟨Ha, pa, ca, rfl, hOa, rfl⟩, rfl⟩
          refine DL.q rfl (Yld.fieldAddr fo31_1 rfl) rfl ?_
          refine DL.one rfl (Eff.call ent63 [1] [1, 151] (.cons rfl (.cons rfl .nil)) (rput_ct x.l _ _ _ hxl c.m (by omega)) rfl rfl rfl rfl (by rintro _ _ ⟨_, _, _, _, _, rfl⟩; rfl)) rfl (by rintro _ _ ⟨_, ⟨Hb, pb, cb, rfl, hOb, rfl⟩, rfl⟩; repeat (first | exact .nil | refine .cons rfl ?_)) ?_
          rintro _ _ ⟨_, ⟨Hb, pb, cb, rfl, hOb, rfl⟩, rfl⟩
          refine DL.one0 rfl (Eff.storeS (c := 102) _ sz22 rfl rfl rfl rfl rfl rfl rfl (by (try simp only [putAt, List.take, List.drop, List.nil_append, List.cons_append, List.append_nil, List.length_cons, List.length_nil, Nat.add_zero, Nat.zero_add, Nat.reduceAdd]); rfl)) (by rintro _ _ rfl; repeat (first | exact .nil | refine .cons rfl ?_)) ?_
          rintro _ _ rfl
          refine DL.q rfl (Yld.fieldAddr fo31_2 rfl) rfl ?_
          refine DL.one0 rfl (Eff.storeS (c := 102) _ sz22 rfl rfl rfl rfl rfl rfl rfl (by (try simp only [putAt, List.take, List.drop, List.nil_append, List.cons_append, List.append_nil, List.length_cons, List.length_nil, Nat.add_zero, Nat.zero_add, Nat.reduceAdd]); rfl)) (by rintro _ _ rfl; repeat (first | exact .nil | refine .cons rfl ?_)) ?_
          rintro _ _ rfl
          refine DL.done ?_
          refine N.next ?_
          refine W.keep (.cons (k := 2) rfl (.cons (k := 4) rfl .nil)) (.cons (k := 0) rfl (.cons (k := 1) rfl (.cons (k := 2) rfl (.cons (k := 102) rfl (.cons (k := 103) rfl (.cons (k := 104) rfl (.cons (k := 150) rfl (.cons (k := 151) rfl .nil)))))))) ?_
          refine W.seq ?_
          refine W.region ?_
          refine RL.q (Yld.loadW (c := 102) Tryz.underlying31 rfl sz31 rfl rfl (by first | exact single_self _ _ | exact pset_self _ _ _ | assumption) rfl) rfl ?_
          refine RL.e0 (Eff.storeS (c := 104) _ sz31 rfl rfl rfl rfl rfl rfl rfl (by (try simp only [putAt, List.take, List.drop, List.nil_append, List.cons_append, List.append_nil, List.length_cons, List.length_nil, Nat.add_zero, Nat.zero_add, Nat.reduceAdd]); rfl)) ?_
          rintro _ _ rfl
          refine RL.q (Yld.assign rfl) rfl ?_
          refine RL.nil ?_
          refine N.next ?_
          refine W.ret ?_
          refine N.block_ret ?_
          refine N.then_ret ?_
          have he : err (gl x) c = 0 := by rw [err0_eq h0, if_neg hc12, if_neg (show ¬ c.m ∈ (gl x).l from hc18)]
          refine N.merge 1 150 rfl rfl rfl fun ha1 => ?_
          refine N.merge 1 151 rfl rfl rfl fun ha2 => ?_
          exact N.retBy [1, 2] (.cons (by first | exact .cell (c := 104) rfl rfl (fun w hs => run_loadVarA Tryz.underlying31 rfl sz31 rfl (fun j u hj => by rw [Nat.zero_add, PH.sub.cell hs (by first | exact single_self _ _ | exact pset_self _ _ _ | assumption)]; exact hj))) (.cons (.tmp rfl) .nil)) rfl rfl rfl rfl ⟨⟨x.o, setL (x.n ++ [c.m]), setL (x.l ++ [c.m]), x.po, x.co, pa, ca, pb, cb⟩, _, by rw [he]; rfl, ⟨(hxo.mono hjoin_l).mono hjoin_l, (hOa.sl.mono ha1).mono hjoin_l, hOb.sl.mono ha2⟩, by rw [adm_ok he]; unfold mkG; rw [if_pos h0]; rfl, rfl⟩
  ·
    have h0 : ¬ c.k = 0 := hc8
    refine W.seq ?_
    refine W.region ?_
    refine RL.q (Yld.bin rfl rfl BinV.eql) rfl ?_
    refine RL.q (Yld.assign rfl) rfl ?_
    refine RL.nil ?_
    refine N.next ?_
    first | refine W.condD rfl (fun hc33 => ?_) (fun hc33 => ?_) | (refine W.cond rfl (fun hc33 => ?_) (fun hc33 => ?_) <;> try simp only [Bool.or_eq_true, Bool.and_eq_true, Bool.not_eq_true', Bool.not_eq_false', decide_eq_true_eq, Bool.or_eq_false_iff, Bool.and_eq_false_iff, decide_eq_false_iff_not, beq_iff_eq, beq_eq_false_iff_ne, ne_eq, Decidable.not_not] at hc33)
    ·
      have h1 : c.k = 1 := hc33
      refine W.seq ?_
      refine W.seq ?_
      refine W.region ?_
      refine RL.q (Yld.fieldAddr fo31_1 rfl) rfl ?_
      refine RL.q (Yld.load1 (c := 102) Tryz.underlying22 rfl rfl rfl (by first | exact single_self _ _ | exact pset_self _ _ _ | assumption) rfl) rfl ?_
      refine RL.q (Yld.fieldAddr fo41_1 rfl) rfl ?_
      refine RL.q (Yld.load1 (c := 103) Tryz.underlying3 rfl rfl rfl (by first | exact single_self _ _ | exact pset_self _ _ _ | assumption) rfl) rfl ?_
      refine RL.e (Eff.call ent62 [1] [1] (.cons rfl (.cons rfl .nil)) (has_ct x.n _ _ _ hxn c.m) rfl rfl rfl rfl (by rintro _ _ ⟨_, rfl⟩; rfl)) rfl ?_
      rintro _ _ ⟨_, ⟨rfl, rfl⟩, rfl⟩
      refine RL.q (by first | exact Yld.notD rfl | exact Yld.not rfl) rfl ?_
      refine RL.nil ?_
      refine N.next ?_
      refine W.keep (.cons (k := 2) rfl (.cons (k := 3) rfl (.cons (k := 4) rfl (.cons (k := 40) rfl .nil)))) (.cons (k := 0) rfl (.cons (k := 1) rfl (.cons (k := 2) rfl (.cons (k := 102) rfl (.cons (k := 103) rfl (.cons (k := 104) rfl .nil)))))) ?_
      first | refine W.condD rfl (fun hc40 => ?_) (fun hc40 => ?_) | (refine W.cond rfl (fun hc40 => ?_) (fun hc40 => ?_) <;> try simp only [Bool.or_eq_true, Bool.and_eq_true, Bool.not_eq_true', Bool.not_eq_false', decide_eq_true_eq, Bool.or_eq_false_iff, Bool.and_eq_false_iff, decide_eq_false_iff_not, beq_iff_eq, beq_eq_false_iff_ne, ne_eq, Decidable.not_not] at hc40)
      ·
        refine W.seq ?_
        refine W.region ?_
        refine RL.q (Yld.loadW (c := 102) Tryz.underlying31 rfl sz31 rfl rfl (by first | exact single_self _ _ | exact pset_self _ _ _ | assumption) rfl) rfl ?_
        refine RL.e0 (Eff.storeS (c := 104) _ sz31 rfl rfl rfl rfl rfl rfl rfl (by (try simp only [putAt, List.take, List.drop, List.nil_append, List.cons_append, List.append_nil, List.length_cons, List.length_nil, Nat.add_zero, Nat.zero_add, Nat.reduceAdd]); rfl)) ?_
        rintro _ _ rfl
        refine RL.q (Yld.assign rfl) rfl ?_
        refine RL.nil ?_
        refine N.next ?_
        refine W.keep (.cons (k := 4) rfl (.cons (k := 5) rfl .nil)) (.cons (k := 0) rfl (.cons (k := 1) rfl (.cons (k := 2) rfl (.cons (k := 102) rfl (.cons (k := 103) rfl (.cons (k := 104) rfl .nil)))))) ?_
        refine W.ret ?_
        refine N.then_ret ?_
        refine N.block_ret ?_
        refine N.then_ret ?_
        exact N.retBy [1, 2] (.cons (by first | exact .cell (c := 104) rfl rfl (fun w hs => run_loadVarA Tryz.underlying31 rfl sz31 rfl (fun j u hj => by rw [Nat.zero_add, PH.sub.cell hs (by first | exact single_self _ _ | exact pset_self _ _ _ | assumption)]; exact hj))) (.cons (.tmp rfl) .nil)) rfl rfl rfl rfl ⟨x, H1, by rw [err1_eq h1, if_neg (show ¬ c.m ∈ (gl x).n from hc40)]; rfl, hx, (adm_ref (by rw [err1_eq h1, if_neg (show ¬ c.m ∈ (gl x).n from hc40)]; decide)).symm, rfl⟩
      ·
        refine W.skip ?_
        refine N.next ?_
        refine W.seq ?_
        refine W.region ?_
        refine RL.q (Yld.fieldAddr fo31_1 rfl) rfl ?_
        refine RL.q (Yld.load1 (c := 102) Tryz.underlying22 rfl rfl rfl (by first | exact single_self _ _ | exact pset_self _ _ _ | assumption) rfl) rfl ?_
        refine RL.q (Yld.fieldAddr fo41_1 rfl) rfl ?_
        refine RL.q (Yld.load1 (c := 103) Tryz.underlying3 rfl rfl rfl (by first | exact single_self _ _ | exact pset_self _ _ _ | assumption) rfl) rfl ?_
        refine RL.e (Eff.buildSlice 146 Tryz.underlying22 sz3 zc3 rfl rfl (.cons rfl rfl .nil) rfl) rfl ?_
        rintro _ _ ⟨b46, rfl, rfl⟩
        refine RL.e (Eff.call ent64 [1, 146] [1, 146, 150] (.cons rfl (.cons rfl .nil)) (rminus_ct x.n _ _ _ hxn [c.m] _ _ _ (iz_single rfl) (by omega)) rfl rfl rfl rfl (by rintro _ _ ⟨_, _, _, _, _, rfl⟩; rfl)) rfl ?_
        rintro _ _ ⟨_, ⟨Ha, pa, ca, rfl, hOa, rfl⟩, rfl⟩
        refine RL.q (Yld.fieldAddr fo31_1 rfl) rfl ?_
        refine RL.e0 (Eff.storeS (c := 102) _ sz22 rfl rfl rfl rfl rfl rfl rfl (by (try simp only [putAt, List.take, List.drop, List.nil_append, List.cons_append, List.append_nil, List.length_cons, List.length_nil, Nat.add_zero, Nat.zero_add, Nat.reduceAdd]); rfl)) ?_
        rintro _ _ rfl
        refine RL.nil ?_
        refine N.next ?_
        refine W.keep (.cons (k := 2) rfl (.cons (k := 4) rfl .nil)) (.cons (k := 0) rfl (.cons (k := 1) rfl (.cons (k := 2) rfl (.cons (k := 102) rfl (.cons (k := 103) rfl (.cons (k := 104) rfl (.cons (k := 146) rfl (.cons (k := 150) rfl .nil)))))))) ?_
        refine W.seq ?_
        refine W.region ?_
        refine RL.q (Yld.loadW (c := 102) Tryz.underlying31 rfl sz31 rfl rfl (by first | exact single_self _ _ | exact pset_self _ _ _ | assumption) rfl) rfl ?_
        refine RL.e0 (Eff.storeS (c := 104) _ sz31 rfl rfl rfl rfl rfl rfl rfl (by (try simp only [putAt, List.take, List.drop, List.nil_append, List.cons_append, List.append_nil, List.length_cons, List.length_nil, Nat.add_zero, Nat.zero_add, Nat.reduceAdd]); rfl)) ?_
        rintro _ _ rfl
        refine RL.q (Yld.assign rfl) rfl ?_
        refine RL.nil ?_
        refine N.next ?_
        refine W.ret ?_
        refine N.block_ret ?_
        refine N.then_ret ?_
        have he : err (gl x) c = 0 := by rw [err1_eq h1, if_pos (show c.m ∈ (gl x).n from Decidable.not_not.1 hc40)]
        refine N.merge 1 150 rfl rfl rfl fun ha1 => ?_
        exact N.retBy [1, 2] (.cons (by first | exact .cell (c := 104) rfl rfl (fun w hs => run_loadVarA Tryz.underlying31 rfl sz31 rfl (fun j u hj => by rw [Nat.zero_add, PH.sub.cell hs (by first | exact single_self _ _ | exact pset_self _ _ _ | assumption)]; exact hj))) (.cons (.tmp rfl) .nil)) rfl rfl rfl rfl ⟨⟨x.o, minusL x.n [c.m], x.l, x.po, x.co, pa, ca, x.pl, x.cl⟩, _, by rw [he]; rfl, ⟨hxo.mono hjoin_l, hOa.sl.mono ha1, hxl.mono hjoin_l⟩, by rw [adm_ok he]; unfold mkG; rw [if_neg h0, if_pos h1]; rfl, rfl⟩
    ·
      have h1 : ¬ c.k = 1 := hc33
      refine W.seq ?_
      refine W.region ?_
      refine RL.q (Yld.bin rfl rfl BinV.eql) rfl ?_
      refine RL.q (Yld.assign rfl) rfl ?_
      refine RL.nil ?_
      refine N.next ?_
      refine W.keep (.cons (k := 2) rfl (.cons (k := 3) rfl (.cons (k := 4) rfl (.cons (k := 50) rfl .nil)))) (.cons (k := 0) rfl (.cons (k := 1) rfl (.cons (k := 2) rfl (.cons (k := 102) rfl (.cons (k := 103) rfl (.cons (k := 104) rfl .nil)))))) ?_
      first | refine W.condD rfl (fun hc50 => ?_) (fun hc50 => ?_) | (refine W.cond rfl (fun hc50 => ?_) (fun hc50 => ?_) <;> try simp only [Bool.or_eq_true, Bool.and_eq_true, Bool.not_eq_true', Bool.not_eq_false', decide_eq_true_eq, Bool.or_eq_false_iff, Bool.and_eq_false_iff, decide_eq_false_iff_not, beq_iff_eq, beq_eq_false_iff_ne, ne_eq, Decidable.not_not] at hc50)
      ·
        have h2 : c.k = 2 := hc50
        refine W.seq ?_
        refine W.seq ?_
        refine W.draw (.q 0 (.q 1 (.q 3 (.q 4 (.one 2 (.one 5 (.q 6 .done))))))) (.cons (k := 0) rfl (.cons (k := 1) rfl (.cons (k := 2) rfl (.cons (k := 102) rfl (.cons (k := 103) rfl (.cons (k := 104) rfl .nil)))))) mix (by kernel_rfl) (by kernel_rfl) ?_
        refine DL.q rfl (Yld.fieldAddr fo41_2 rfl) rfl ?_
        refine DL.q rfl (Yld.load1 (c := 103) Tryz.underlying22 rfl rfl rfl (by first | exact single_self _ _ | exact pset_self _ _ _ | assumption) rfl) rfl ?_
        refine DL.q rfl (Yld.fieldAddr fo31_0 rfl) rfl ?_
        refine DL.q rfl (Yld.load1 (c := 102) Tryz.underlying22 rfl rfl rfl (by first | exact single_self _ _ | exact pset_self _ _ _ | assumption) rfl) rfl ?_
        refine DL.one rfl (Eff.call ent61 [2] [2, 150] (.cons rfl .nil) (rset_ct c.f _ _ _ hcf (by omega)) rfl rfl rfl rfl (by rintro _ _ ⟨_, _, _, _, _, rfl⟩; rfl)) rfl (by rintro _ _ ⟨_, ⟨Ha, pa, ca, rfl, hOa, rfl⟩, rfl⟩; repeat (first | exact .nil | refine .cons rfl ?_)) ?_
        rintro _ _ ⟨_, ⟨Ha, pa, ca, rfl, hOa, rfl⟩, rfl⟩
        refine DL.one rfl (Eff.call ent16 [150, 1] [150, 1] (.cons rfl (.cons rfl .nil)) (ints_ct (setL c.f) _ _ _ hOa.sl x.o _ _ _ hxo) rfl rfl rfl rfl (by rintro _ _ ⟨_, rfl⟩; rfl)) rfl (by rintro _ _ ⟨_, ⟨rfl, rfl⟩, rfl⟩; repeat (first | exact .nil | refine .cons rfl ?_)) ?_
        rintro _ _ ⟨_, ⟨rfl, rfl⟩, rfl⟩
        refine DL.q rfl (by first | exact Yld.notD rfl | exact Yld.not rfl) rfl ?_
        refine DL.done ?_
        refine N.next ?_
        refine W.keep (.cons (k := 2) rfl (.cons (k := 3) rfl (.cons (k := 4) rfl (.cons (k := 58) rfl .nil)))) (.cons (k := 0) rfl (.cons (k := 1) rfl (.cons (k := 2) rfl (.cons (k := 102) rfl (.cons (k := 103) rfl (.cons (k := 104) rfl (.cons (k := 150) rfl .nil))))))) ?_
        first | refine W.condD rfl (fun hc58 => ?_) (fun hc58 => ?_) | (refine W.cond rfl (fun hc58 => ?_) (fun hc58 => ?_) <;> try simp only [Bool.or_eq_true, Bool.and_eq_true, Bool.not_eq_true', Bool.not_eq_false', decide_eq_true_eq, Bool.or_eq_false_iff, Bool.and_eq_false_iff, decide_eq_false_iff_not, beq_iff_eq, beq_eq_false_iff_ne, ne_eq, Decidable.not_not] at hc58)
        ·
          have hq : ¬ setL c.f = (gl x).o := hc58
          refine W.seq ?_
          refine W.region ?_
          refine RL.q (Yld.loadW (c := 102) Tryz.underlying31 rfl sz31 rfl rfl (by first | exact single_self _ _ | exact pset_self _ _ _ | assumption) rfl) rfl ?_
          refine RL.e0 (Eff.storeS (c := 104) _ sz31 rfl rfl rfl rfl rfl rfl rfl (by (try simp only [putAt, List.take, List.drop, List.nil_append, List.cons_append, List.append_nil, List.length_cons, List.length_nil, Nat.add_zero, Nat.zero_add, Nat.reduceAdd]); rfl)) ?_
          rintro _ _ rfl
          refine RL.q (Yld.assign rfl) rfl ?_
          refine RL.nil ?_
          refine N.next ?_
          refine W.keep (.cons (k := 4) rfl (.cons (k := 5) rfl .nil)) (.cons (k := 0) rfl (.cons (k := 1) rfl (.cons (k := 2) rfl (.cons (k := 102) rfl (.cons (k := 103) rfl (.cons (k := 104) rfl (.cons (k := 150) rfl .nil))))))) ?_
          refine W.ret ?_
          refine N.then_ret ?_
          refine N.block_ret ?_
          refine N.then_ret ?_
          exact N.retBy [1, 2] (.cons (by first | exact .cell (c := 104) rfl rfl (fun w hs => run_loadVarA Tryz.underlying31 rfl sz31 rfl (fun j u hj => by rw [Nat.zero_add, PH.sub.cell hs (by first | exact single_self _ _ | exact pset_self _ _ _ | assumption)]; exact hj))) (.cons (.tmp rfl) .nil)) rfl rfl rfl rfl ⟨x, H1, by rw [err2_eq h2, if_pos hq]; rfl, hx, (adm_ref (by rw [err2_eq h2, if_pos hq]; decide)).symm, rfl⟩
        ·
          have hq : setL c.f = (gl x).o := Decidable.not_not.1 hc58
          refine W.skip ?_
          refine N.next ?_
          refine W.seq ?_
          refine W.seq ?_
          refine W.draw (.q 0 (.q 1 (.q 2 (.q 3 (.q 4 (.q 5 (.q 6 (.q 7 (.q 8 (.q 9 (.q 10 (.q 11 (.q 12 (.q 14 (.q 15 (.one 13 (.one 16 (.q 17 (.q 18 .done))))))))))))))))))) (.cons (k := 0) rfl (.cons (k := 1) rfl (.cons (k := 2) rfl (.cons (k := 102) rfl (.cons (k := 103) rfl (.cons (k := 104) rfl (.cons (k := 150) rfl .nil))))))) mix (by kernel_rfl) (by kernel_rfl) ?_
          refine DL.q rfl (Yld.fieldAddr fo41_3 rfl) rfl ?_
          refine DL.q rfl (Yld.load1 (c := 103) Tryz.underlying22 rfl rfl rfl (by first | exact single_self _ _ | exact pset_self _ _ _ | assumption) rfl) rfl ?_
          refine DL.q rfl (Yld.lenSl Tryz.underlying22 rfl) rfl ?_
          refine DL.q rfl (Yld.bin rfl rfl BinV.eql) rfl ?_
          refine DL.q rfl (Yld.move rfl) rfl ?_
          refine' DL.or (t := 64) (d := 69) 5 rfl (.cons (k := 2) rfl (.cons (k := 3) rfl (.cons (k := 4) rfl (.cons (k := 58) rfl (.cons (k := 60) rfl (.cons (k := 61) rfl (.cons (k := 62) rfl (.cons (k := 63) rfl .nil)))))))) (.cons (k := 0) rfl (.cons (k := 1) rfl (.cons (k := 2) rfl (.cons (k := 102) rfl (.cons (k := 103) rfl (.cons (k := 104) rfl (.cons (k := 150) rfl .nil))))))) ?_ ?_ ?_
          rotate_left 1
          ·
            intro hg64
            refine DL.gq rfl rfl rfl (Yld.fieldAddr fo41_3 rfl) rfl ?_
            refine DL.gq rfl rfl rfl (Yld.load1 (c := 103) Tryz.underlying22 rfl rfl rfl (by first | exact single_self _ _ | exact pset_self _ _ _ | assumption) rfl) rfl ?_
            refine DL.gq rfl rfl rfl (Yld.lenSl Tryz.underlying22 rfl) rfl ?_
            refine DL.gq rfl rfl rfl (Yld.bin rfl rfl BinV.gtr) rfl ?_
            refine DL.q rfl (by first | exact Yld.pickT rfl rfl | exact Yld.pickF rfl rfl) rfl ?_
            exact DL.meet (.cons rfl (.cons rfl (.cons rfl (.cons rfl (.cons rfl (.cons rfl (.cons rfl (.cons rfl (.cons rfl .nil))))))))) (.cons rfl (.cons rfl (.cons rfl (.cons rfl (.cons rfl (.cons rfl (.cons rfl .nil)))))))
          ·
            intro hg64
            refine DL.gskip rfl rfl rfl rfl rfl ?_
            refine DL.gskip rfl rfl rfl rfl rfl ?_
            refine DL.gskip rfl rfl rfl rfl rfl ?_
            refine DL.gskip rfl rfl rfl rfl rfl ?_
            refine DL.q rfl (by first | exact Yld.pickT rfl rfl | exact Yld.pickF rfl rfl) rfl ?_
            exact DL.meet (.cons rfl (.cons rfl (.cons rfl (.cons rfl (.cons rfl (.cons rfl (.cons rfl (.cons rfl (.cons rfl .nil))))))))) (.cons rfl (.cons rfl (.cons rfl (.cons rfl (.cons rfl (.cons rfl (.cons rfl .nil)))))))
          refine DL.q rfl (Yld.move rfl) rfl ?_
          refine' DL.or (t := 70) (d := 78) 8 rfl (.cons (k := 2) rfl (.cons (k := 3) rfl (.cons (k := 4) rfl (.cons (k := 58) rfl (.cons (k := 60) rfl (.cons (k := 61) rfl (.cons (k := 62) rfl (.cons (k := 63) rfl (.cons (k := 69) rfl .nil))))))))) (.cons (k := 0) rfl (.cons (k := 1) rfl (.cons (k := 2) rfl (.cons (k := 102) rfl (.cons (k := 103) rfl (.cons (k := 104) rfl (.cons (k := 150) rfl .nil))))))) ?_ ?_ ?_
          rotate_left 1
          ·
            intro hg70
            refine DL.gq rfl rfl rfl (Yld.fieldAddr fo41_3 rfl) rfl ?_
            refine DL.gq rfl rfl rfl (Yld.load1 (c := 103) Tryz.underlying22 rfl rfl rfl (by first | exact single_self _ _ | exact pset_self _ _ _ | assumption) rfl) rfl ?_
            refine DL.gq rfl rfl rfl (Yld.fieldAddr fo41_3 rfl) rfl ?_
            refine DL.gq rfl rfl rfl (Yld.load1 (c := 103) Tryz.underlying22 rfl rfl rfl (by first | exact single_self _ _ | exact pset_self _ _ _ | assumption) rfl) rfl ?_
            refine DL.gone rfl rfl rfl (Eff.call ent61 [2] [2, 151] (.cons rfl .nil) (rset_ct c.t _ _ _ hct (by omega)) rfl rfl rfl rfl (by rintro _ _ ⟨_, _, _, _, _, rfl⟩; rfl)) rfl (by rintro _ _ ⟨_, ⟨Hb, pb, cb, rfl, hOb, rfl⟩, rfl⟩; repeat (first | exact .nil | refine .cons rfl ?_)) ?_
            rintro _ _ ⟨_, ⟨Hb, pb, cb, rfl, hOb, rfl⟩, rfl⟩
            refine DL.gone rfl rfl rfl (Eff.call ent16 [151, 2] [151, 2] (.cons rfl (.cons rfl .nil)) (ints_ct (setL c.t) _ _ _ hOb.sl c.t _ _ _ hct) rfl rfl rfl rfl (by rintro _ _ ⟨_, rfl⟩; rfl)) rfl (by rintro _ _ ⟨_, ⟨rfl, rfl⟩, rfl⟩; repeat (first | exact .nil | refine .cons rfl ?_)) ?_
            rintro _ _ ⟨_, ⟨rfl, rfl⟩, rfl⟩
            refine DL.gq rfl rfl rfl (by first | exact Yld.notD rfl | exact Yld.not rfl) rfl ?_
            refine DL.q rfl (by first | exact Yld.pickT rfl rfl | exact Yld.pickF rfl rfl) rfl ?_
            exact DL.meet (.cons rfl (.cons rfl (.cons rfl (.cons rfl (.cons rfl (.cons rfl (.cons rfl (.cons rfl (.cons rfl (.cons rfl .nil)))))))))) (.cons rfl (.cons rfl (.cons rfl (.cons rfl (.cons rfl (.cons rfl (.cons rfl .nil)))))))
          ·
            intro hg70
            refine DL.gskip rfl rfl rfl rfl rfl ?_
            refine DL.gskip rfl rfl rfl rfl rfl ?_
            refine DL.gskip rfl rfl rfl rfl rfl ?_
            refine DL.gskip rfl rfl rfl rfl rfl ?_
            refine DL.gskip1 rfl rfl rfl rfl rfl ?_
            refine DL.gskip1 rfl rfl rfl rfl rfl ?_
            refine DL.gskip rfl rfl rfl rfl rfl ?_
            refine DL.q rfl (by first | exact Yld.pickT rfl rfl | exact Yld.pickF rfl rfl) rfl ?_
            exact DL.meet (.cons rfl (.cons rfl (.cons rfl (.cons rfl (.cons rfl (.cons rfl (.cons rfl (.cons rfl (.cons rfl (.cons rfl .nil)))))))))) (.cons rfl (.cons rfl (.cons rfl (.cons rfl (.cons rfl (.cons rfl (.cons rfl .nil)))))))
          refine DL.done ?_
          refine N.next ?_
          refine W.keep (.cons (k := 2) rfl (.cons (k := 3) rfl (.cons (k := 4) rfl (.cons (k := 78) rfl .nil)))) (.cons (k := 0) rfl (.cons (k := 1) rfl (.cons (k := 2) rfl (.cons (k := 102) rfl (.cons (k := 103) rfl (.cons (k := 104) rfl (.cons (k := 150) rfl .nil))))))) ?_
          first | refine W.condD rfl (fun hc78 => ?_) (fun hc78 => ?_) | (refine W.cond rfl (fun hc78 => ?_) (fun hc78 => ?_) <;> try simp only [Bool.or_eq_true, Bool.and_eq_true, Bool.not_eq_true', Bool.not_eq_false', decide_eq_true_eq, Bool.or_eq_false_iff, Bool.and_eq_false_iff, decide_eq_false_iff_not, beq_iff_eq, beq_eq_false_iff_ne, ne_eq, Decidable.not_not] at hc78)
          ·
            have hr : c.t.length < 1 ∨ 7 < c.t.length ∨ setL c.t ≠ c.t := by
              rcases hc78 with (h | h) | h
              · exact .inl (by omega)
              · exact .inr (.inl (by omega))
              · exact .inr (.inr h)
            refine W.seq ?_
            refine W.region ?_
            refine RL.q (Yld.loadW (c := 102) Tryz.underlying31 rfl sz31 rfl rfl (by first | exact single_self _ _ | exact pset_self _ _ _ | assumption) rfl) rfl ?_
            refine RL.e0 (Eff.storeS (c := 104) _ sz31 rfl rfl rfl rfl rfl rfl rfl (by (try simp only [putAt, List.take, List.drop, List.nil_append, List.cons_append, List.append_nil, List.length_cons, List.length_nil, Nat.add_zero, Nat.zero_add, Nat.reduceAdd]); rfl)) ?_
            rintro _ _ rfl
            refine RL.q (Yld.assign rfl) rfl ?_
            refine RL.nil ?_
            refine N.next ?_
            refine W.keep (.cons (k := 4) rfl (.cons (k := 5) rfl .nil)) (.cons (k := 0) rfl (.cons (k := 1) rfl (.cons (k := 2) rfl (.cons (k := 102) rfl (.cons (k := 103) rfl (.cons (k := 104) rfl (.cons (k := 150) rfl .nil))))))) ?_
            refine W.ret ?_
            refine N.then_ret ?_
            refine N.block_ret ?_
            refine N.then_ret ?_
            exact N.retBy [1, 2] (.cons (by first | exact .cell (c := 104) rfl rfl (fun w hs => run_loadVarA Tryz.underlying31 rfl sz31 rfl (fun j u hj => by rw [Nat.zero_add, PH.sub.cell hs (by first | exact single_self _ _ | exact pset_self _ _ _ | assumption)]; exact hj))) (.cons (.tmp rfl) .nil)) rfl rfl rfl rfl ⟨x, H1, by rw [err2_eq h2, if_neg (fun h => h hq), if_pos hr]; rfl, hx, (adm_ref (by rw [err2_eq h2, if_neg (fun h => h hq), if_pos hr]; decide)).symm, rfl⟩
          ·
            have hr : ¬ (c.t.length < 1 ∨ 7 < c.t.length ∨ setL c.t ≠ c.t) := by
              rintro (h | h | h)
              · omega
              · omega
              · exact h hc78.2
            have het : setL c.t = c.t := hc78.2
            refine W.skip ?_
            refine N.next ?_
            refine W.seq ?_
            refine W.seq ?_
            refine W.draw (.q 0 (.q 1 (.q 2 (.q 3 (.q 5 (.q 6 (.one 4 (.one 7 (.q 8 (.q 9 .done)))))))))) (.cons (k := 0) rfl (.cons (k := 1) rfl (.cons (k := 2) rfl (.cons (k := 102) rfl (.cons (k := 103) rfl (.cons (k := 104) rfl (.cons (k := 150) rfl .nil))))))) mix (by kernel_rfl) (by kernel_rfl) ?_
            refine DL.q rfl (Yld.fieldAddr fo41_3 rfl) rfl ?_
            refine DL.q rfl (Yld.load1 (c := 103) Tryz.underlying22 rfl rfl rfl (by first | exact single_self _ _ | exact pset_self _ _ _ | assumption) rfl) rfl ?_
            refine DL.q rfl (Yld.fieldAddr fo31_0 rfl) rfl ?_
            refine DL.q rfl (Yld.load1 (c := 102) Tryz.underlying22 rfl rfl rfl (by first | exact single_self _ _ | exact pset_self _ _ _ | assumption) rfl) rfl ?_
            refine DL.q rfl (Yld.fieldAddr fo31_1 rfl) rfl ?_
            refine DL.q rfl (Yld.load1 (c := 102) Tryz.underlying22 rfl rfl rfl (by first | exact single_self _ _ | exact pset_self _ _ _ | assumption) rfl) rfl ?_
            refine DL.one rfl (Eff.call ent64 [2, 1] [2, 1, 152] (.cons rfl (.cons rfl .nil)) (rminus_ct c.t _ _ _ hct x.o _ _ _ hxo (by omega)) rfl rfl rfl rfl (by rintro _ _ ⟨_, _, _, _, _, rfl⟩; rfl)) rfl (by rintro _ _ ⟨_, ⟨Hc, pc, cc, rfl, hOc, rfl⟩, rfl⟩; repeat (first | exact .nil | refine .cons rfl ?_)) ?_
            rintro _ _ ⟨_, ⟨Hc, pc, cc, rfl, hOc, rfl⟩, rfl⟩
            refine DL.one rfl (Eff.call ent64 [152, 1] [152, 1, 153] (.cons rfl (.cons rfl .nil)) (rminus_ct (minusL c.t x.o) _ _ _ hOc.sl x.n _ _ _ hxn (by omega)) rfl rfl rfl rfl (by rintro _ _ ⟨_, _, _, _, _, rfl⟩; rfl)) rfl (by rintro _ _ ⟨_, ⟨Hd, pd, cd, rfl, hOd, rfl⟩, rfl⟩; repeat (first | exact .nil | refine .cons rfl ?_)) ?_
            rintro _ _ ⟨_, ⟨Hd, pd, cd, rfl, hOd, rfl⟩, rfl⟩
            refine DL.q rfl (Yld.lenSl Tryz.underlying22 rfl) rfl ?_
            refine DL.q rfl (Yld.bin rfl rfl BinV.gtr) rfl ?_
            refine DL.done ?_
            refine N.next ?_
            refine W.keep (.cons (k := 2) rfl (.cons (k := 3) rfl (.cons (k := 4) rfl (.cons (k := 89) rfl .nil)))) (.cons (k := 0) rfl (.cons (k := 1) rfl (.cons (k := 2) rfl (.cons (k := 102) rfl (.cons (k := 103) rfl (.cons (k := 104) rfl (.cons (k := 150) rfl (.cons (k := 152) rfl (.cons (k := 153) rfl .nil))))))))) ?_
            first | refine W.condD rfl (fun hc89 => ?_) (fun hc89 => ?_) | (refine W.cond rfl (fun hc89 => ?_) (fun hc89 => ?_) <;> try simp only [Bool.or_eq_true, Bool.and_eq_true, Bool.not_eq_true', Bool.not_eq_false', decide_eq_true_eq, Bool.or_eq_false_iff, Bool.and_eq_false_iff, decide_eq_false_iff_not, beq_iff_eq, beq_eq_false_iff_ne, ne_eq, Decidable.not_not] at hc89)
            ·
              have hm : 0 < (minusL (minusL c.t (gl x).o) (gl x).n).length := by
                show 0 < (minusL (minusL c.t x.o) x.n).length
                omega
              refine W.seq ?_
              refine W.region ?_
              refine RL.q (Yld.loadW (c := 102) Tryz.underlying31 rfl sz31 rfl rfl (by first | exact single_self _ _ | exact pset_self _ _ _ | assumption) rfl) rfl ?_
              refine RL.e0 (Eff.storeS (c := 104) _ sz31 rfl rfl rfl rfl rfl rfl rfl (by (try simp only [putAt, List.take, List.drop, List.nil_append, List.cons_append, List.append_nil, List.length_cons, List.length_nil, Nat.add_zero, Nat.zero_add, Nat.reduceAdd]); rfl)) ?_
              rintro _ _ rfl
              refine RL.q (Yld.assign rfl) rfl ?_
              refine RL.nil ?_
              refine N.next ?_
              refine W.keep (.cons (k := 4) rfl (.cons (k := 5) rfl .nil)) (.cons (k := 0) rfl (.cons (k := 1) rfl (.cons (k := 2) rfl (.cons (k := 102) rfl (.cons (k := 103) rfl (.cons (k := 104) rfl (.cons (k := 150) rfl (.cons (k := 152) rfl (.cons (k := 153) rfl .nil))))))))) ?_
              refine W.ret ?_
              refine N.then_ret ?_
              refine N.block_ret ?_
              refine N.then_ret ?_
              exact N.retBy [1, 2] (.cons (by first | exact .cell (c := 104) rfl rfl (fun w hs => run_loadVarA Tryz.underlying31 rfl sz31 rfl (fun j u hj => by rw [Nat.zero_add, PH.sub.cell hs (by first | exact single_self _ _ | exact pset_self _ _ _ | assumption)]; exact hj))) (.cons (.tmp rfl) .nil)) rfl rfl rfl rfl ⟨x, H1, by rw [err2_eq h2, if_neg (fun h => h hq), if_neg hr, if_pos hm]; rfl, hx, (adm_ref (by rw [err2_eq h2, if_neg (fun h => h hq), if_neg hr, if_pos hm]; decide)).symm, rfl⟩
            ·
              have hm : ¬ 0 < (minusL (minusL c.t (gl x).o) (gl x).n).length := by
                show ¬ 0 < (minusL (minusL c.t x.o) x.n).length
                omega
              refine W.skip ?_
              refine N.next ?_
              refine W.seq ?_
              refine W.draw (.q 0 (.q 1 (.q 3 (.q 5 (.q 6 (.two 2 (.one 4 (.q 8 (.one 7 (.one 9 (.q 10 (.one 11 .done)))))) 4 (.one 2 (.q 8 (.one 7 (.one 9 (.q 10 (.one 11 .done)))))))))))) (.cons (k := 0) rfl (.cons (k := 1) rfl (.cons (k := 2) rfl (.cons (k := 103) rfl (.cons (k := 104) rfl (.cons (k := 150) rfl (.cons (k := 152) rfl (.cons (k := 153) rfl .nil)))))))) mix (by kernel_rfl) (by kernel_rfl) ?_
              refine DL.q rfl (Yld.fieldAddr fo41_3 rfl) rfl ?_
              refine DL.q rfl (Yld.load1 (c := 103) Tryz.underlying22 rfl rfl rfl (by first | exact single_self _ _ | exact pset_self _ _ _ | assumption) rfl) rfl ?_
              refine DL.q rfl (Yld.fieldAddr fo31_1 rfl) rfl ?_
              refine DL.q rfl (Yld.fieldAddr fo41_3 rfl) rfl ?_
              refine DL.q rfl (Yld.load1 (c := 103) Tryz.underlying22 rfl rfl rfl (by first | exact single_self _ _ | exact pset_self _ _ _ | assumption) rfl) rfl ?_
              refine DL.two ?_ ?_
              ·
                refine DL.one rfl (Eff.call ent61 [2] [2, 154] (.cons rfl .nil) (rset_ct c.t _ _ _ hct (by omega)) rfl rfl rfl rfl (by rintro _ _ ⟨_, _, _, _, _, rfl⟩; rfl)) rfl (by rintro _ _ ⟨_, ⟨He, pe, ce, rfl, hOe, rfl⟩, rfl⟩; repeat (first | exact .nil | refine .cons rfl ?_)) ?_
                rintro _ _ ⟨_, ⟨He, pe, ce, rfl, hOe, rfl⟩, rfl⟩
                refine DL.one rfl (Yld.eff (Yld.load1 (c := 102) Tryz.underlying22 rfl rfl rfl (by first | exact single_self _ _ | exact pset_self _ _ _ | assumption) rfl)) rfl (by rintro _ _ ⟨rfl, rfl⟩; repeat (first | exact .nil | refine .cons rfl ?_)) ?_
                rintro _ _ ⟨rfl, rfl⟩
                refine DL.q rfl (Yld.fieldAddr fo31_0 rfl) rfl ?_
                refine DL.one rfl (Eff.call ent64 [1, 2] [1, 2, 155] (.cons rfl (.cons rfl .nil)) (rminus_ct x.n _ _ _ hxn c.t _ _ _ hct (by omega)) rfl rfl rfl rfl (by rintro _ _ ⟨_, _, _, _, _, rfl⟩; rfl)) rfl (by rintro _ _ ⟨_, ⟨Hf, pf, cf, rfl, hOf, rfl⟩, rfl⟩; repeat (first | exact .nil | refine .cons rfl ?_)) ?_
                rintro _ _ ⟨_, ⟨Hf, pf, cf, rfl, hOf, rfl⟩, rfl⟩
                refine DL.one0 rfl (Eff.storeS (c := 102) _ sz22 rfl rfl rfl rfl rfl rfl rfl (by (try simp only [putAt, List.take, List.drop, List.nil_append, List.cons_append, List.append_nil, List.length_cons, List.length_nil, Nat.add_zero, Nat.zero_add, Nat.reduceAdd]); rfl)) (by rintro _ _ rfl; repeat (first | exact .nil | refine .cons rfl ?_)) ?_
                rintro _ _ rfl
                refine DL.q rfl (Yld.fieldAddr fo31_1 rfl) rfl ?_
                refine DL.one0 rfl (Eff.storeS (c := 102) _ sz22 rfl rfl rfl rfl rfl rfl rfl (by (try simp only [putAt, List.take, List.drop, List.nil_append, List.cons_append, List.append_nil, List.length_cons, List.length_nil, Nat.add_zero, Nat.zero_add, Nat.reduceAdd]); rfl)) (by rintro _ _ rfl; repeat (first | exact .nil | refine .cons rfl ?_)) ?_
                rintro _ _ rfl
                refine DL.done ?_
                refine N.next ?_
                refine W.keep (.cons (k := 2) rfl (.cons (k := 4) rfl .nil)) (.cons (k := 0) rfl (.cons (k := 1) rfl (.cons (k := 2) rfl (.cons (k := 102) rfl (.cons (k := 103) rfl (.cons (k := 104) rfl (.cons (k := 150) rfl (.cons (k := 152) rfl (.cons (k := 153) rfl (.cons (k := 154) rfl (.cons (k := 155) rfl .nil))))))))))) ?_
                refine W.seq ?_
                refine W.region ?_
                refine RL.q (Yld.loadW (c := 102) Tryz.underlying31 rfl sz31 rfl rfl (by first | exact single_self _ _ | exact pset_self _ _ _ | assumption) rfl) rfl ?_
                refine RL.e0 (Eff.storeS (c := 104) _ sz31 rfl rfl rfl rfl rfl rfl rfl (by (try simp only [putAt, List.take, List.drop, List.nil_append, List.cons_append, List.append_nil, List.length_cons, List.length_nil, Nat.add_zero, Nat.zero_add, Nat.reduceAdd]); rfl)) ?_
                rintro _ _ rfl
                refine RL.q (Yld.assign rfl) rfl ?_
                refine RL.nil ?_
                refine N.next ?_
                refine W.ret ?_
                refine N.block_ret ?_
                refine N.then_ret ?_
                have he : err (gl x) c = 0 := by rw [err2_eq h2, if_neg (fun h => h hq), if_neg hr, if_neg hm]
                refine N.merge 1 154 rfl rfl rfl fun ha1 => ?_
                refine N.merge 1 155 rfl rfl rfl fun ha2 => ?_
                exact N.retBy [1, 2] (.cons (by first | exact .cell (c := 104) rfl rfl (fun w hs => run_loadVarA Tryz.underlying31 rfl sz31 rfl (fun j u hj => by rw [Nat.zero_add, PH.sub.cell hs (by first | exact single_self _ _ | exact pset_self _ _ _ | assumption)]; exact hj))) (.cons (.tmp rfl) .nil)) rfl rfl rfl rfl ⟨⟨setL c.t, minusL x.n c.t, x.l, pe, ce, pf, cf, x.pl, x.cl⟩, _, by rw [he]; rfl, ⟨(hOe.sl.mono ha1).mono hjoin_l, hOf.sl.mono ha2, (hxl.mono hjoin_l).mono hjoin_l⟩, by rw [adm_ok he]; unfold mkG; rw [if_neg h0, if_neg h1]; show Gl.mk (setL c.t) _ _ = Gl.mk c.t _ _; rw [het]; rfl, rfl⟩
              ·
                refine DL.one rfl (Yld.eff (Yld.load1 (c := 102) Tryz.underlying22 rfl rfl rfl (by first | exact single_self _ _ | exact pset_self _ _ _ | assumption) rfl)) rfl (by rintro _ _ ⟨rfl, rfl⟩; repeat (first | exact .nil | refine .cons rfl ?_)) ?_
                rintro _ _ ⟨rfl, rfl⟩
                refine DL.one rfl (Eff.call ent61 [2] [2, 154] (.cons rfl .nil) (rset_ct c.t _ _ _ hct (by omega)) rfl rfl rfl rfl (by rintro _ _ ⟨_, _, _, _, _, rfl⟩; rfl)) rfl (by rintro _ _ ⟨_, ⟨He, pe, ce, rfl, hOe, rfl⟩, rfl⟩; repeat (first | exact .nil | refine .cons rfl ?_)) ?_
                rintro _ _ ⟨_, ⟨He, pe, ce, rfl, hOe, rfl⟩, rfl⟩
                refine DL.q rfl (Yld.fieldAddr fo31_0 rfl) rfl ?_
                refine DL.one rfl (Eff.call ent64 [1, 2] [1, 2, 155] (.cons rfl (.cons rfl .nil)) (rminus_ct x.n _ _ _ hxn c.t _ _ _ hct (by omega)) rfl rfl rfl rfl (by rintro _ _ ⟨_, _, _, _, _, rfl⟩; rfl)) rfl (by rintro _ _ ⟨_, ⟨Hf, pf, cf, rfl, hOf, rfl⟩, rfl⟩; repeat (first | exact .nil | refine .cons rfl ?_)) ?_
                rintro _ _ ⟨_, ⟨Hf, pf, cf, rfl, hOf, rfl⟩, rfl⟩
                refine DL.one0 rfl (Eff.storeS (c := 102) _ sz22 rfl rfl rfl rfl rfl rfl rfl (by (try simp only [putAt, List.take, List.drop, List.nil_append, List.cons_append, List.append_nil, List.length_cons, List.length_nil, Nat.add_zero, Nat.zero_add, Nat.reduceAdd]); rfl)) (by rintro _ _ rfl; repeat (first | exact .nil | refine .cons rfl ?_)) ?_
                rintro _ _ rfl
                refine DL.q rfl (Yld.fieldAddr fo31_1 rfl) rfl ?_
                refine DL.one0 rfl (Eff.storeS (c := 102) _ sz22 rfl rfl rfl rfl rfl rfl rfl (by (try simp only [putAt, List.take, List.drop, List.nil_append, List.cons_append, List.append_nil, List.length_cons, List.length_nil, Nat.add_zero, Nat.zero_add, Nat.reduceAdd]); rfl)) (by rintro _ _ rfl; repeat (first | exact .nil | refine .cons rfl ?_)) ?_
                rintro _ _ rfl
                refine DL.done ?_
                refine N.next ?_
                refine W.keep (.cons (k := 2) rfl (.cons (k := 4) rfl .nil)) (.cons (k := 0) rfl (.cons (k := 1) rfl (.cons (k := 2) rfl (.cons (k := 102) rfl (.cons (k := 103) rfl (.cons (k := 104) rfl (.cons (k := 150) rfl (.cons (k := 152) rfl (.cons (k := 153) rfl (.cons (k := 154) rfl (.cons (k := 155) rfl .nil))))))))))) ?_
                refine W.seq ?_
                refine W.region ?_
                refine RL.q (Yld.loadW (c := 102) Tryz.underlying31 rfl sz31 rfl rfl (by first | exact single_self _ _ | exact pset_self _ _ _ | assumption) rfl) rfl ?_
                refine RL.e0 (Eff.storeS (c := 104) _ sz31 rfl rfl rfl rfl rfl rfl rfl (by (try simp only [putAt, List.take, List.drop, List.nil_append, List.cons_append, List.append_nil, List.length_cons, List.length_nil, Nat.add_zero, Nat.zero_add, Nat.reduceAdd]); rfl)) ?_
                rintro _ _ rfl
                refine RL.q (Yld.assign rfl) rfl ?_
                refine RL.nil ?_
                refine N.next ?_
                refine W.ret ?_
                refine N.block_ret ?_
                refine N.then_ret ?_
                have he : err (gl x) c = 0 := by rw [err2_eq h2, if_neg (fun h => h hq), if_neg hr, if_neg hm]
                refine N.merge 1 154 rfl rfl rfl fun ha1 => ?_
                refine N.merge 1 155 rfl rfl rfl fun ha2 => ?_
                exact N.retBy [1, 2] (.cons (by first | exact .cell (c := 104) rfl rfl (fun w hs => run_loadVarA Tryz.underlying31 rfl sz31 rfl (fun j u hj => by rw [Nat.zero_add, PH.sub.cell hs (by first | exact single_self _ _ | exact pset_self _ _ _ | assumption)]; exact hj))) (.cons (.tmp rfl) .nil)) rfl rfl rfl rfl ⟨⟨setL c.t, minusL x.n c.t, x.l, pe, ce, pf, cf, x.pl, x.cl⟩, _, by rw [he]; rfl, ⟨(hOe.sl.mono ha1).mono hjoin_l, hOf.sl.mono ha2, (hxl.mono hjoin_l).mono hjoin_l⟩, by rw [adm_ok he]; unfold mkG; rw [if_neg h0, if_neg h1]; show Gl.mk (setL c.t) _ _ = Gl.mk c.t _ _; rw [het]; rfl, rfl⟩
      ·
        have h2 : ¬ c.k = 2 := hc50
        refine W.skip ?_
        refine N.block_normal ?_
        refine N.next ?_
        refine W.seq ?_
        refine W.region ?_
        refine RL.q (Yld.loadW (c := 102) Tryz.underlying31 rfl sz31 rfl rfl (by first | exact single_self _ _ | exact pset_self _ _ _ | assumption) rfl) rfl ?_
        refine RL.e0 (Eff.storeS (c := 104) _ sz31 rfl rfl rfl rfl rfl rfl rfl (by (try simp only [putAt, List.take, List.drop, List.nil_append, List.cons_append, List.append_nil, List.length_cons, List.length_nil, Nat.add_zero, Nat.zero_add, Nat.reduceAdd]); rfl)) ?_
        rintro _ _ rfl
        refine RL.q (Yld.assign rfl) rfl ?_
        refine RL.nil ?_
        refine N.next ?_
        refine W.keep (.cons (k := 4) rfl (.cons (k := 5) rfl .nil)) (.cons (k := 0) rfl (.cons (k := 1) rfl (.cons (k := 2) rfl (.cons (k := 102) rfl (.cons (k := 103) rfl (.cons (k := 104) rfl .nil)))))) ?_
        refine W.ret ?_
        exact N.retBy [1, 2] (.cons (by first | exact .cell (c := 104) rfl rfl (fun w hs => run_loadVarA Tryz.underlying31 rfl sz31 rfl (fun j u hj => by rw [Nat.zero_add, PH.sub.cell hs (by first | exact single_self _ _ | exact pset_self _ _ _ | assumption)]; exact hj))) (.cons (.tmp rfl) .nil)) rfl rfl rfl rfl ⟨x, H1, by rw [errN_eq h0 h1 h2]; rfl, hx, (adm_ref (by rw [errN_eq h0 h1 h2]; decide)).symm, rfl⟩

set_option maxRecDepth 100000 in
set_option maxHeartbeats 400000 in
theorem rmsave_ct (x : Cf) (H1 : PH) (hx : x.In H1) (hsm : SmS [(x.po, x.co, x.o), (x.pn, x.cn, x.n), (x.pl, x.cl, x.l)]) : Ct Tryz.prog 59 [.agg [.slice x.po x.o.length x.co, .slice x.pn x.n.length x.cn, .slice x.pl x.l.length x.cl].toArray] [H1] (fun v Hs => v = .string (strOfNums (encC x.o x.n x.l)) ∧ Hs = [H1]) := by
  refine Ct.body Tryz.func59 rfl Tryz.ntmps59 rfl ?_
  intro E F
  refine W.seq ?_
  refine W.region ?_
  refine RL.e (Eff.box 101 _ rfl rfl) rfl ?_
  rintro _ _ ⟨b1, rfl, rfl⟩
  refine RL.q (Yld.assign rfl) rfl ?_
  refine RL.nil ?_
  refine N.next ?_
  refine W.seq ?_
  refine W.region ?_
  refine RL.q (Yld.fieldAddr fo31_0 rfl) rfl ?_
  refine RL.q (Yld.load1 (c := 101) Tryz.underlying22 rfl rfl rfl (by first | exact single_self _ _ | exact pset_self _ _ _ | assumption) rfl) rfl ?_
  refine RL.q (Yld.fieldAddr fo31_1 rfl) rfl ?_
  refine RL.q (Yld.load1 (c := 101) Tryz.underlying22 rfl rfl rfl (by first | exact single_self _ _ | exact pset_self _ _ _ | assumption) rfl) rfl ?_
  refine RL.q (Yld.fieldAddr fo31_2 rfl) rfl ?_
  refine RL.q (Yld.load1 (c := 101) Tryz.underlying22 rfl rfl rfl (by first | exact single_self _ _ | exact pset_self _ _ _ | assumption) rfl) rfl ?_
  refine RL.q (Yld.buildP lay25 (.cons rfl rfl (.cons rfl rfl (.cons rfl rfl .nil))) rfl) rfl ?_
  refine RL.e (Eff.call ent91 [1] [1] (.cons rfl .nil) (renc_ct x H1 hx hsm) rfl rfl rfl rfl (by rintro _ _ ⟨_, rfl⟩; rfl)) rfl ?_
  rintro _ _ ⟨_, ⟨rfl, rfl⟩, rfl⟩
  refine RL.q (Yld.assign rfl) rfl ?_
  refine RL.nil ?_
  refine N.next ?_
  refine W.keep (.cons (k := 2) rfl .nil) (.cons (k := 0) rfl (.cons (k := 1) rfl (.cons (k := 101) rfl .nil))) ?_
  refine W.ret ?_
  exact N.retBy [1] (.cons (.tmp rfl) .nil) rfl rfl rfl rfl ⟨rfl, rfl⟩

end Go.Proofs.YtdjmdfnhnlijiaaGreatDoor
