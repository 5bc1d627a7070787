/- The next configuration. Written by program (walk2.py). -/
import Derived.Test.YtdjmdfnhnlijiaaGreatDoorM3
namespace Go.Proofs.YtdjmdfnhnlijiaaGreatDoor
open SL Cfg Memb
set_option linter.unusedVariables false
set_option linter.unusedSimpArgs false
theorem ent13 : Ent Tryz.prog 13 := ⟨_, _, Tryz.func13, by kernel_rfl, rfl⟩
theorem ent30 : Ent Tryz.prog 30 := ⟨_, _, Tryz.func30, by kernel_rfl, rfl⟩
theorem ent32 : Ent Tryz.prog 32 := ⟨_, _, Tryz.func32, by kernel_rfl, rfl⟩
theorem ent33 : Ent Tryz.prog 33 := ⟨_, _, Tryz.func33, by kernel_rfl, rfl⟩
set_option maxRecDepth 100000 in
set_option maxHeartbeats 3200000 in
theorem clearn_ct (x : Cf) (H1 : PH) (hx : x.In H1) (hbo : x.o.length ≤ 400000) (hbn : x.n.length ≤ 400000) (hbl : x.l.length ≤ 400000) (l : List Int) (H3 : PH) (q : Option Addr) (d : Nat) (hl : Sl H3 q d 1 (iz l)) (hb : l.length ≤ 400000) : Ct Tryz.prog 33 [.agg [.slice x.po x.o.length x.co, .slice x.pn x.n.length x.cn, .slice x.pl x.l.length x.cl].toArray, .slice q l.length d] [H1, H3] (fun v Hs => ∃ (y : Cf) (H' : PH), v = .agg [.slice y.po y.o.length y.co, .slice y.pn y.n.length y.cn, .slice y.pl y.l.length y.cl].toArray ∧ y.In H' ∧ y.o = x.o ∧ y.n = x.n ∧ y.l = minusL (setL l) (x.o ++ x.n) ∧ Hs = [H1, H3, H']) := by
  refine Ct.body Tryz.func33 rfl Tryz.ntmps33 rfl ?_
  intro E F
  obtain ⟨ho, hn, hl0⟩ := hx
  have hsl := setL_len l
  refine W.seq ?_
  refine W.region ?_
  refine RL.e (Eff.box 102 _ rfl rfl) rfl ?_
  rintro _ _ ⟨b2, rfl, rfl⟩
  refine RL.e (Eff.alloc 104 zc25) rfl ?_
  rintro _ _ ⟨b4, rfl, rfl⟩
  refine RL.nil ?_
  refine N.next ?_
  refine W.seq ?_
  refine W.draw (.q 0 (.q 1 (.q 3 (.q 4 (.q 6 (.q 9 (.q 10 (.q 11 (.q 12 (.three 2 (.three 5 (.two 7 (.two 8 (.one 13 (.one 14 (.one 15 (.q 16 (.one 17 .done))))) 13 (.one 8 (.one 14 (.one 15 (.q 16 (.one 17 .done)))))) 13 (.one 7 (.one 8 (.one 14 (.one 15 (.q 16 (.one 17 .done))))))) 7 (.two 5 (.two 8 (.one 13 (.one 14 (.one 15 (.q 16 (.one 17 .done))))) 13 (.one 8 (.one 14 (.one 15 (.q 16 (.one 17 .done)))))) 13 (.one 5 (.one 8 (.one 14 (.one 15 (.q 16 (.one 17 .done))))))) 13 (.two 5 (.one 7 (.one 8 (.one 14 (.one 15 (.q 16 (.one 17 .done)))))) 7 (.one 5 (.one 8 (.one 14 (.one 15 (.q 16 (.one 17 .done)))))))) 7 (.two 2 (.two 5 (.two 8 (.one 13 (.one 14 (.one 15 (.q 16 (.one 17 .done))))) 13 (.one 8 (.one 14 (.one 15 (.q 16 (.one 17 .done)))))) 13 (.one 5 (.one 8 (.one 14 (.one 15 (.q 16 (.one 17 .done))))))) 13 (.one 2 (.one 5 (.one 8 (.one 14 (.one 15 (.q 16 (.one 17 .done)))))))) 13 (.two 2 (.two 5 (.one 7 (.one 8 (.one 14 (.one 15 (.q 16 (.one 17 .done)))))) 7 (.one 5 (.one 8 (.one 14 (.one 15 (.q 16 (.one 17 .done))))))) 7 (.one 2 (.one 5 (.one 8 (.one 14 (.one 15 (.q 16 (.one 17 .done)))))))))))))))))) (.cons (k := 0) rfl (.cons (k := 1) rfl (.cons (k := 2) rfl (.cons (k := 102) rfl .nil)))) mix (by kernel_rfl) (by kernel_rfl) ?_
  refine DL.q rfl (Yld.fieldAddr fo25_0 rfl) rfl ?_
  refine DL.q rfl (Yld.load1 (c := 102) Tryz.underlying22 rfl rfl rfl (by first | exact single_self _ _ | exact pset_self _ _ _ | assumption) rfl) rfl ?_
  refine DL.q rfl (Yld.fieldAddr fo25_1 rfl) rfl ?_
  refine DL.q rfl (Yld.load1 (c := 102) Tryz.underlying22 rfl rfl rfl (by first | exact single_self _ _ | exact pset_self _ _ _ | assumption) rfl) rfl ?_
  refine DL.q rfl (Yld.move rfl) rfl ?_
  refine DL.q rfl (Yld.fieldAddr fo25_0 rfl) rfl ?_
  refine DL.q rfl (Yld.load1 (c := 102) Tryz.underlying22 rfl rfl rfl (by first | exact single_self _ _ | exact pset_self _ _ _ | assumption) rfl) rfl ?_
  refine DL.q rfl (Yld.fieldAddr fo25_1 rfl) rfl ?_
  refine DL.q rfl (Yld.load1 (c := 102) Tryz.underlying22 rfl rfl rfl (by first | exact single_self _ _ | exact pset_self _ _ _ | assumption) rfl) rfl ?_
  refine DL.three ?_ ?_ ?_
  ·
    refine DL.one rfl (Eff.call ent41 [1] [1, 150] (.cons rfl .nil) (cloneI_ct x.o _ _ _ ho (by omega)) rfl rfl rfl rfl (by rintro _ _ ⟨_, _, _, _, _, rfl⟩; rfl)) rfl (by rintro _ _ ⟨_, ⟨Ha, pa, ca, rfl, hOa, rfl⟩, rfl⟩; repeat (first | exact .nil | refine .cons rfl ?_)) ?_
    rintro _ _ ⟨_, ⟨Ha, pa, ca, rfl, hOa, rfl⟩, rfl⟩
    refine DL.three ?_ ?_ ?_
    ·
      refine DL.one rfl (Eff.call ent41 [1] [1, 151] (.cons rfl .nil) (cloneI_ct x.n _ _ _ hn (by omega)) rfl rfl rfl rfl (by rintro _ _ ⟨_, _, _, _, _, rfl⟩; rfl)) rfl (by rintro _ _ ⟨_, ⟨Hb, pb, cb, rfl, hOb, rfl⟩, rfl⟩; repeat (first | exact .nil | refine .cons rfl ?_)) ?_
      rintro _ _ ⟨_, ⟨Hb, pb, cb, rfl, hOb, rfl⟩, rfl⟩
      refine DL.two ?_ ?_
      ·
        refine DL.one rfl (Eff.buildSlice 112 Tryz.underlying63 sz22 zc22 rfl rfl (.cons rfl rfl .nil) rfl) rfl (by rintro _ _ ⟨b12, rfl, rfl⟩; repeat (first | exact .nil | refine .cons rfl ?_)) ?_
        rintro _ _ ⟨b12, rfl, rfl⟩
        refine DL.two ?_ ?_
        ·
          refine DL.one rfl (Eff.call ent38 [112, 2] [112, 2, 152] (.cons rfl .nil) (cset_ct [(q, d, l)] _ H3 _ _ (Own.mk (e := 22) (n := 1) (c := 1) [] (by intro r hr; simp only [List.map_cons, List.map_nil, List.mem_cons, List.not_mem_nil, or_false] at hr; rcases hr with rfl <;> exact ⟨rfl, by simp [SV, Value.oneCell']⟩) (by simp) (by simp [maxLen]) (by rfl) (by rfl)).sl (by intro s hs; simp only [List.mem_cons, List.not_mem_nil, or_false] at hs; subst hs; exact hl) (by rw [cat1]; omega)) rfl rfl rfl rfl (by rintro _ _ ⟨_, _, _, _, _, rfl⟩; rfl)) rfl (by rintro _ _ ⟨_, ⟨Hc, pc, cc, rfl, hOc, rfl⟩, rfl⟩; repeat (first | exact .nil | refine .cons rfl ?_)) ?_
          rintro _ _ ⟨_, ⟨Hc, pc, cc, rfl, hOc, rfl⟩, rfl⟩
          rw [cat1] at hOc ⊢
          refine DL.one rfl (Eff.buildSlice 118 Tryz.underlying63 sz22 zc22 rfl rfl (.cons rfl rfl (.cons rfl rfl .nil)) rfl) rfl (by rintro _ _ ⟨b18, rfl, rfl⟩; repeat (first | exact .nil | refine .cons rfl ?_)) ?_
          rintro _ _ ⟨b18, rfl, rfl⟩
          refine DL.one rfl (Eff.call ent65 [118, 1] [118, 1, 153] (.cons rfl .nil) (concat_ct [(x.po, x.co, x.o), (x.pn, x.cn, x.n)] _ H1 _ _ (Own.mk (e := 22) (n := 1) (c := 2) [] (by intro r hr; simp only [List.map_cons, List.map_nil, List.mem_cons, List.not_mem_nil, or_false] at hr; rcases hr with rfl | rfl <;> exact ⟨rfl, by simp [SV, Value.oneCell']⟩) (by simp) (by simp [maxLen]) (by rfl) (by rfl)).sl (by intro s hs; simp only [List.mem_cons, List.not_mem_nil, or_false] at hs; rcases hs with rfl | rfl; exact ho; exact hn) (by rw [cat2]; simp; omega)) rfl rfl rfl rfl (by rintro _ _ ⟨_, _, _, _, _, rfl⟩; rfl)) rfl (by rintro _ _ ⟨_, ⟨Hd, pd, cd, rfl, hOd, rfl⟩, rfl⟩; repeat (first | exact .nil | refine .cons rfl ?_)) ?_
          rintro _ _ ⟨_, ⟨Hd, pd, cd, rfl, hOd, rfl⟩, rfl⟩
          rw [cat2] at hOd ⊢
          refine DL.one rfl (Eff.call ent39 [152, 153] [152, 153, 154] (.cons rfl (.cons rfl .nil)) (cminus_ct (setL l) _ _ _ hOc.sl (x.o ++ x.n) _ _ _ hOd.sl (by omega)) rfl rfl rfl rfl (by rintro _ _ ⟨_, _, _, _, _, rfl⟩; rfl)) rfl (by rintro _ _ ⟨_, ⟨He, pe, ce, rfl, hOe, rfl⟩, rfl⟩; repeat (first | exact .nil | refine .cons rfl ?_)) ?_
          rintro _ _ ⟨_, ⟨He, pe, ce, rfl, hOe, rfl⟩, rfl⟩
          refine DL.q rfl (Yld.buildP lay25 (.cons rfl rfl (.cons rfl rfl (.cons rfl rfl .nil))) rfl) rfl ?_
          refine DL.one0 rfl (Eff.storeS (c := 104) _ sz25 rfl rfl rfl rfl rfl rfl rfl (by (try simp only [putAt, List.take, List.drop, List.nil_append, List.cons_append, List.append_nil, List.length_cons, List.length_nil, Nat.add_zero, Nat.zero_add, Nat.reduceAdd]); rfl)) (by rintro _ _ rfl; repeat (first | exact .nil | refine .cons rfl ?_)) ?_
          rintro _ _ rfl
          refine DL.done ?_
          refine N.next ?_
          refine W.keep (.cons (k := 4) rfl .nil) (.cons (k := 0) rfl (.cons (k := 1) rfl (.cons (k := 2) rfl (.cons (k := 102) rfl (.cons (k := 104) rfl (.cons (k := 112) rfl (.cons (k := 118) rfl (.cons (k := 150) rfl (.cons (k := 151) rfl (.cons (k := 152) rfl (.cons (k := 153) rfl (.cons (k := 154) rfl .nil)))))))))))) ?_
          refine W.ret ?_
          refine N.merge 150 151 rfl rfl rfl fun ha1 => ?_
          refine N.merge 150 154 rfl rfl rfl fun ha2 => ?_
          exact N.retBy [1, 2, 150] (.cons (by first | exact .cell (c := 104) rfl rfl (fun w hs => run_loadVarA Tryz.underlying25 rfl sz25 rfl (fun j u hj => by rw [Nat.zero_add, PH.sub.cell hs (by first | exact single_self _ _ | exact pset_self _ _ _ | assumption)]; exact hj))) .nil) rfl rfl rfl rfl ⟨⟨x.o, x.n, minusL (setL l) (x.o ++ x.n), pa, ca, pb, cb, pe, ce⟩, _, rfl, ⟨(hOa.sl.mono hjoin_l).mono hjoin_l, (hOb.sl.mono ha1).mono hjoin_l, hOe.sl.mono ha2⟩, rfl, rfl, rfl, rfl⟩
        ·
          refine DL.one rfl (Eff.buildSlice 118 Tryz.underlying63 sz22 zc22 rfl rfl (.cons rfl rfl (.cons rfl rfl .nil)) rfl) rfl (by rintro _ _ ⟨b18, rfl, rfl⟩; repeat (first | exact .nil | refine .cons rfl ?_)) ?_
          rintro _ _ ⟨b18, rfl, rfl⟩
          refine DL.one rfl (Eff.call ent38 [112, 2] [112, 2, 152] (.cons rfl .nil) (cset_ct [(q, d, l)] _ H3 _ _ (Own.mk (e := 22) (n := 1) (c := 1) [] (by intro r hr; simp only [List.map_cons, List.map_nil, List.mem_cons, List.not_mem_nil, or_false] at hr; rcases hr with rfl <;> exact ⟨rfl, by simp [SV, Value.oneCell']⟩) (by simp) (by simp [maxLen]) (by rfl) (by rfl)).sl (by intro s hs; simp only [List.mem_cons, List.not_mem_nil, or_false] at hs; subst hs; exact hl) (by rw [cat1]; omega)) rfl rfl rfl rfl (by rintro _ _ ⟨_, _, _, _, _, rfl⟩; rfl)) rfl (by rintro _ _ ⟨_, ⟨Hc, pc, cc, rfl, hOc, rfl⟩, rfl⟩; repeat (first | exact .nil | refine .cons rfl ?_)) ?_
          rintro _ _ ⟨_, ⟨Hc, pc, cc, rfl, hOc, rfl⟩, rfl⟩
          rw [cat1] at hOc ⊢
          refine DL.one rfl (Eff.call ent65 [118, 1] [118, 1, 153] (.cons rfl .nil) (concat_ct [(x.po, x.co, x.o), (x.pn, x.cn, x.n)] _ H1 _ _ (Own.mk (e := 22) (n := 1) (c := 2) [] (by intro r hr; simp only [List.map_cons, List.map_nil, List.mem_cons, List.not_mem_nil, or_false] at hr; rcases hr with rfl | rfl <;> exact ⟨rfl, by simp [SV, Value.oneCell']⟩) (by simp) (by simp [maxLen]) (by rfl) (by rfl)).sl (by intro s hs; simp only [List.mem_cons, List.not_mem_nil, or_false] at hs; rcases hs with rfl | rfl; exact ho; exact hn) (by rw [cat2]; simp; omega)) rfl rfl rfl rfl (by rintro _ _ ⟨_, _, _, _, _, rfl⟩; rfl)) rfl (by rintro _ _ ⟨_, ⟨Hd, pd, cd, rfl, hOd, rfl⟩, rfl⟩; repeat (first | exact .nil | refine .cons rfl ?_)) ?_
          rintro _ _ ⟨_, ⟨Hd, pd, cd, rfl, hOd, rfl⟩, rfl⟩
          rw [cat2] at hOd ⊢
          refine DL.one rfl (Eff.call ent39 [152, 153] [152, 153, 154] (.cons rfl (.cons rfl .nil)) (cminus_ct (setL l) _ _ _ hOc.sl (x.o ++ x.n) _ _ _ hOd.sl (by omega)) rfl rfl rfl rfl (by rintro _ _ ⟨_, _, _, _, _, rfl⟩; rfl)) rfl (by rintro _ _ ⟨_, ⟨He, pe, ce, rfl, hOe, rfl⟩, rfl⟩; repeat (first | exact .nil | refine .cons rfl ?_)) ?_
          rintro _ _ ⟨_, ⟨He, pe, ce, rfl, hOe, rfl⟩, rfl⟩
          refine DL.q rfl (Yld.buildP lay25 (.cons rfl rfl (.cons rfl rfl (.cons rfl rfl .nil))) rfl) rfl ?_
          refine DL.one0 rfl (Eff.storeS (c := 104) _ sz25 rfl rfl rfl rfl rfl rfl rfl (by (try simp only [putAt, List.take, List.drop, List.nil_append, List.cons_append, List.append_nil, List.length_cons, List.length_nil, Nat.add_zero, Nat.zero_add, Nat.reduceAdd]); rfl)) (by rintro _ _ rfl; repeat (first | exact .nil | refine .cons rfl ?_)) ?_
          rintro _ _ rfl
          refine DL.done ?_
          refine N.next ?_
          refine W.keep (.cons (k := 4) rfl .nil) (.cons (k := 0) rfl (.cons (k := 1) rfl (.cons (k := 2) rfl (.cons (k := 102) rfl (.cons (k := 104) rfl (.cons (k := 112) rfl (.cons (k := 118) rfl (.cons (k := 150) rfl (.cons (k := 151) rfl (.cons (k := 152) rfl (.cons (k := 153) rfl (.cons (k := 154) rfl .nil)))))))))))) ?_
          refine W.ret ?_
          refine N.merge 150 151 rfl rfl rfl fun ha1 => ?_
          refine N.merge 150 154 rfl rfl rfl fun ha2 => ?_
          exact N.retBy [1, 2, 150] (.cons (by first | exact .cell (c := 104) rfl rfl (fun w hs => run_loadVarA Tryz.underlying25 rfl sz25 rfl (fun j u hj => by rw [Nat.zero_add, PH.sub.cell hs (by first | exact single_self _ _ | exact pset_self _ _ _ | assumption)]; exact hj))) .nil) rfl rfl rfl rfl ⟨⟨x.o, x.n, minusL (setL l) (x.o ++ x.n), pa, ca, pb, cb, pe, ce⟩, _, rfl, ⟨(hOa.sl.mono hjoin_l).mono hjoin_l, (hOb.sl.mono ha1).mono hjoin_l, hOe.sl.mono ha2⟩, rfl, rfl, rfl, rfl⟩
      ·
        refine DL.one rfl (Eff.buildSlice 118 Tryz.underlying63 sz22 zc22 rfl rfl (.cons rfl rfl (.cons rfl rfl .nil)) rfl) rfl (by rintro _ _ ⟨b18, rfl, rfl⟩; repeat (first | exact .nil | refine .cons rfl ?_)) ?_
        rintro _ _ ⟨b18, rfl, rfl⟩
        refine DL.one rfl (Eff.buildSlice 112 Tryz.underlying63 sz22 zc22 rfl rfl (.cons rfl rfl .nil) rfl) rfl (by rintro _ _ ⟨b12, rfl, rfl⟩; repeat (first | exact .nil | refine .cons rfl ?_)) ?_
        rintro _ _ ⟨b12, rfl, rfl⟩
        refine DL.one rfl (Eff.call ent38 [112, 2] [112, 2, 152] (.cons rfl .nil) (cset_ct [(q, d, l)] _ H3 _ _ (Own.mk (e := 22) (n := 1) (c := 1) [] (by intro r hr; simp only [List.map_cons, List.map_nil, List.mem_cons, List.not_mem_nil, or_false] at hr; rcases hr with rfl <;> exact ⟨rfl, by simp [SV, Value.oneCell']⟩) (by simp) (by simp [maxLen]) (by rfl) (by rfl)).sl (by intro s hs; simp only [List.mem_cons, List.not_mem_nil, or_false] at hs; subst hs; exact hl) (by rw [cat1]; omega)) rfl rfl rfl rfl (by rintro _ _ ⟨_, _, _, _, _, rfl⟩; rfl)) rfl (by rintro _ _ ⟨_, ⟨Hc, pc, cc, rfl, hOc, rfl⟩, rfl⟩; repeat (first | exact .nil | refine .cons rfl ?_)) ?_
        rintro _ _ ⟨_, ⟨Hc, pc, cc, rfl, hOc, rfl⟩, rfl⟩
        rw [cat1] at hOc ⊢
        refine DL.one rfl (Eff.call ent65 [118, 1] [118, 1, 153] (.cons rfl .nil) (concat_ct [(x.po, x.co, x.o), (x.pn, x.cn, x.n)] _ H1 _ _ (Own.mk (e := 22) (n := 1) (c := 2) [] (by intro r hr; simp only [List.map_cons, List.map_nil, List.mem_cons, List.not_mem_nil, or_false] at hr; rcases hr with rfl | rfl <;> exact ⟨rfl, by simp [SV, Value.oneCell']⟩) (by simp) (by simp [maxLen]) (by rfl) (by rfl)).sl (by intro s hs; simp only [List.mem_cons, List.not_mem_nil, or_false] at hs; rcases hs with rfl | rfl; exact ho; exact hn) (by rw [cat2]; simp; omega)) rfl rfl rfl rfl (by rintro _ _ ⟨_, _, _, _, _, rfl⟩; rfl)) rfl (by rintro _ _ ⟨_, ⟨Hd, pd, cd, rfl, hOd, rfl⟩, rfl⟩; repeat (first | exact .nil | refine .cons rfl ?_)) ?_
        rintro _ _ ⟨_, ⟨Hd, pd, cd, rfl, hOd, rfl⟩, rfl⟩
        rw [cat2] at hOd ⊢
        refine DL.one rfl (Eff.call ent39 [152, 153] [152, 153, 154] (.cons rfl (.cons rfl .nil)) (cminus_ct (setL l) _ _ _ hOc.sl (x.o ++ x.n) _ _ _ hOd.sl (by omega)) rfl rfl rfl rfl (by rintro _ _ ⟨_, _, _, _, _, rfl⟩; rfl)) rfl (by rintro _ _ ⟨_, ⟨He, pe, ce, rfl, hOe, rfl⟩, rfl⟩; repeat (first | exact .nil | refine .cons rfl ?_)) ?_
        rintro _ _ ⟨_, ⟨He, pe, ce, rfl, hOe, rfl⟩, rfl⟩
        refine DL.q rfl (Yld.buildP lay25 (.cons rfl rfl (.cons rfl rfl (.cons rfl rfl .nil))) rfl) rfl ?_
        refine DL.one0 rfl (Eff.storeS (c := 104) _ sz25 rfl rfl rfl rfl rfl rfl rfl (by (try simp only [putAt, List.take, List.drop, List.nil_append, List.cons_append, List.append_nil, List.length_cons, List.length_nil, Nat.add_zero, Nat.zero_add, Nat.reduceAdd]); rfl)) (by rintro _ _ rfl; repeat (first | exact .nil | refine .cons rfl ?_)) ?_
        rintro _ _ rfl
        refine DL.done ?_
        refine N.next ?_
        refine W.keep (.cons (k := 4) rfl .nil) (.cons (k := 0) rfl (.cons (k := 1) rfl (.cons (k := 2) rfl (.cons (k := 102) rfl (.cons (k := 104) rfl (.cons (k := 112) rfl (.cons (k := 118) rfl (.cons (k := 150) rfl (.cons (k := 151) rfl (.cons (k := 152) rfl (.cons (k := 153) rfl (.cons (k := 154) rfl .nil)))))))))))) ?_
        refine W.ret ?_
        refine N.merge 150 151 rfl rfl rfl fun ha1 => ?_
        refine N.merge 150 154 rfl rfl rfl fun ha2 => ?_
        exact N.retBy [1, 2, 150] (.cons (by first | exact .cell (c := 104) rfl rfl (fun w hs => run_loadVarA Tryz.underlying25 rfl sz25 rfl (fun j u hj => by rw [Nat.zero_add, PH.sub.cell hs (by first | exact single_self _ _ | exact pset_self _ _ _ | assumption)]; exact hj))) .nil) rfl rfl rfl rfl ⟨⟨x.o, x.n, minusL (setL l) (x.o ++ x.n), pa, ca, pb, cb, pe, ce⟩, _, rfl, ⟨(hOa.sl.mono hjoin_l).mono hjoin_l, (hOb.sl.mono ha1).mono hjoin_l, hOe.sl.mono ha2⟩, rfl, rfl, rfl, rfl⟩
    ·
      refine DL.one rfl (Eff.buildSlice 112 Tryz.underlying63 sz22 zc22 rfl rfl (.cons rfl rfl .nil) rfl) rfl (by rintro _ _ ⟨b12, rfl, rfl⟩; repeat (first | exact .nil | refine .cons rfl ?_)) ?_
      rintro _ _ ⟨b12, rfl, rfl⟩
      refine DL.two ?_ ?_
      ·
        refine DL.one rfl (Eff.call ent41 [1] [1, 151] (.cons rfl .nil) (cloneI_ct x.n _ _ _ hn (by omega)) rfl rfl rfl rfl (by rintro _ _ ⟨_, _, _, _, _, rfl⟩; rfl)) rfl (by rintro _ _ ⟨_, ⟨Hb, pb, cb, rfl, hOb, rfl⟩, rfl⟩; repeat (first | exact .nil | refine .cons rfl ?_)) ?_
        rintro _ _ ⟨_, ⟨Hb, pb, cb, rfl, hOb, rfl⟩, rfl⟩
        refine DL.two ?_ ?_
        ·
          refine DL.one rfl (Eff.call ent38 [112, 2] [112, 2, 152] (.cons rfl .nil) (cset_ct [(q, d, l)] _ H3 _ _ (Own.mk (e := 22) (n := 1) (c := 1) [] (by intro r hr; simp only [List.map_cons, List.map_nil, List.mem_cons, List.not_mem_nil, or_false] at hr; rcases hr with rfl <;> exact ⟨rfl, by simp [SV, Value.oneCell']⟩) (by simp) (by simp [maxLen]) (by rfl) (by rfl)).sl (by intro s hs; simp only [List.mem_cons, List.not_mem_nil, or_false] at hs; subst hs; exact hl) (by rw [cat1]; omega)) rfl rfl rfl rfl (by rintro _ _ ⟨_, _, _, _, _, rfl⟩; rfl)) rfl (by rintro _ _ ⟨_, ⟨Hc, pc, cc, rfl, hOc, rfl⟩, rfl⟩; repeat (first | exact .nil | refine .cons rfl ?_)) ?_
          rintro _ _ ⟨_, ⟨Hc, pc, cc, rfl, hOc, rfl⟩, rfl⟩
          rw [cat1] at hOc ⊢
          refine DL.one rfl (Eff.buildSlice 118 Tryz.underlying63 sz22 zc22 rfl rfl (.cons rfl rfl (.cons rfl rfl .nil)) rfl) rfl (by rintro _ _ ⟨b18, rfl, rfl⟩; repeat (first | exact .nil | refine .cons rfl ?_)) ?_
          rintro _ _ ⟨b18, rfl, rfl⟩
          refine DL.one rfl (Eff.call ent65 [118, 1] [118, 1, 153] (.cons rfl .nil) (concat_ct [(x.po, x.co, x.o), (x.pn, x.cn, x.n)] _ H1 _ _ (Own.mk (e := 22) (n := 1) (c := 2) [] (by intro r hr; simp only [List.map_cons, List.map_nil, List.mem_cons, List.not_mem_nil, or_false] at hr; rcases hr with rfl | rfl <;> exact ⟨rfl, by simp [SV, Value.oneCell']⟩) (by simp) (by simp [maxLen]) (by rfl) (by rfl)).sl (by intro s hs; simp only [List.mem_cons, List.not_mem_nil, or_false] at hs; rcases hs with rfl | rfl; exact ho; exact hn) (by rw [cat2]; simp; omega)) rfl rfl rfl rfl (by rintro _ _ ⟨_, _, _, _, _, rfl⟩; rfl)) rfl (by rintro _ _ ⟨_, ⟨Hd, pd, cd, rfl, hOd, rfl⟩, rfl⟩; repeat (first | exact .nil | refine .cons rfl ?_)) ?_
          rintro _ _ ⟨_, ⟨Hd, pd, cd, rfl, hOd, rfl⟩, rfl⟩
          rw [cat2] at hOd ⊢
          refine DL.one rfl (Eff.call ent39 [152, 153] [152, 153, 154] (.cons rfl (.cons rfl .nil)) (cminus_ct (setL l) _ _ _ hOc.sl (x.o ++ x.n) _ _ _ hOd.sl (by omega)) rfl rfl rfl rfl (by rintro _ _ ⟨_, _, _, _, _, rfl⟩; rfl)) rfl (by rintro _ _ ⟨_, ⟨He, pe, ce, rfl, hOe, rfl⟩, rfl⟩; repeat (first | exact .nil | refine .cons rfl ?_)) ?_
          rintro _ _ ⟨_, ⟨He, pe, ce, rfl, hOe, rfl⟩, rfl⟩
          refine DL.q rfl (Yld.buildP lay25 (.cons rfl rfl (.cons rfl rfl (.cons rfl rfl .nil))) rfl) rfl ?_
          refine DL.one0 rfl (Eff.storeS (c := 104) _ sz25 rfl rfl rfl rfl rfl rfl rfl (by (try simp only [putAt, List.take, List.drop, List.nil_append, List.cons_append, List.append_nil, List.length_cons, List.length_nil, Nat.add_zero, Nat.zero_add, Nat.reduceAdd]); rfl)) (by rintro _ _ rfl; repeat (first | exact .nil | refine .cons rfl ?_)) ?_
          rintro _ _ rfl
          refine DL.done ?_
          refine N.next ?_
          refine W.keep (.cons (k := 4) rfl .nil) (.cons (k := 0) rfl (.cons (k := 1) rfl (.cons (k := 2) rfl (.cons (k := 102) rfl (.cons (k := 104) rfl (.cons (k := 112) rfl (.cons (k := 118) rfl (.cons (k := 150) rfl (.cons (k := 151) rfl (.cons (k := 152) rfl (.cons (k := 153) rfl (.cons (k := 154) rfl .nil)))))))))))) ?_
          refine W.ret ?_
          refine N.merge 150 151 rfl rfl rfl fun ha1 => ?_
          refine N.merge 150 154 rfl rfl rfl fun ha2 => ?_
          exact N.retBy [1, 2, 150] (.cons (by first | exact .cell (c := 104) rfl rfl (fun w hs => run_loadVarA Tryz.underlying25 rfl sz25 rfl (fun j u hj => by rw [Nat.zero_add, PH.sub.cell hs (by first | exact single_self _ _ | exact pset_self _ _ _ | assumption)]; exact hj))) .nil) rfl rfl rfl rfl ⟨⟨x.o, x.n, minusL (setL l) (x.o ++ x.n), pa, ca, pb, cb, pe, ce⟩, _, rfl, ⟨(hOa.sl.mono hjoin_l).mono hjoin_l, (hOb.sl.mono ha1).mono hjoin_l, hOe.sl.mono ha2⟩, rfl, rfl, rfl, rfl⟩
        ·
          refine DL.one rfl (Eff.buildSlice 118 Tryz.underlying63 sz22 zc22 rfl rfl (.cons rfl rfl (.cons rfl rfl .nil)) rfl) rfl (by rintro _ _ ⟨b18, rfl, rfl⟩; repeat (first | exact .nil | refine .cons rfl ?_)) ?_
          rintro _ _ ⟨b18, rfl, rfl⟩
          refine DL.one rfl (Eff.call ent38 [112, 2] [112, 2, 152] (.cons rfl .nil) (cset_ct [(q, d, l)] _ H3 _ _ (Own.mk (e := 22) (n := 1) (c := 1) [] (by intro r hr; simp only [List.map_cons, List.map_nil, List.mem_cons, List.not_mem_nil, or_false] at hr; rcases hr with rfl <;> exact ⟨rfl, by simp [SV, Value.oneCell']⟩) (by simp) (by simp [maxLen]) (by rfl) (by rfl)).sl (by intro s hs; simp only [List.mem_cons, List.not_mem_nil, or_false] at hs; subst hs; exact hl) (by rw [cat1]; omega)) rfl rfl rfl rfl (by rintro _ _ ⟨_, _, _, _, _, rfl⟩; rfl)) rfl (by rintro _ _ ⟨_, ⟨Hc, pc, cc, rfl, hOc, rfl⟩, rfl⟩; repeat (first | exact .nil | refine .cons rfl ?_)) ?_
          rintro _ _ ⟨_, ⟨Hc, pc, cc, rfl, hOc, rfl⟩, rfl⟩
          rw [cat1] at hOc ⊢
          refine DL.one rfl (Eff.call ent65 [118, 1] [118, 1, 153] (.cons rfl .nil) (concat_ct [(x.po, x.co, x.o), (x.pn, x.cn, x.n)] _ H1 _ _ (Own.mk (e := 22) (n := 1) (c := 2) [] (by intro r hr; simp only [List.map_cons, List.map_nil, List.mem_cons, List.not_mem_nil, or_false] at hr; rcases hr with rfl | rfl <;> exact ⟨rfl, by simp [SV, Value.oneCell']⟩) (by simp) (by simp [maxLen]) (by rfl) (by rfl)).sl (by intro s hs; simp only [List.mem_cons, List.not_mem_nil, or_false] at hs; rcases hs with rfl | rfl; exact ho; exact hn) (by rw [cat2]; simp; omega)) rfl rfl rfl rfl (by rintro _ _ ⟨_, _, _, _, _, rfl⟩; rfl)) rfl (by rintro _ _ ⟨_, ⟨Hd, pd, cd, rfl, hOd, rfl⟩, rfl⟩; repeat (first | exact .nil | refine .cons rfl ?_)) ?_
          rintro _ _ ⟨_, ⟨Hd, pd, cd, rfl, hOd, rfl⟩, rfl⟩
          rw [cat2] at hOd ⊢
          refine DL.one rfl (Eff.call ent39 [152, 153] [152, 153, 154] (.cons rfl (.cons rfl .nil)) (cminus_ct (setL l) _ _ _ hOc.sl (x.o ++ x.n) _ _ _ hOd.sl (by omega)) rfl rfl rfl rfl (by rintro _ _ ⟨_, _, _, _, _, rfl⟩; rfl)) rfl (by rintro _ _ ⟨_, ⟨He, pe, ce, rfl, hOe, rfl⟩, rfl⟩; repeat (first | exact .nil | refine .cons rfl ?_)) ?_
          rintro _ _ ⟨_, ⟨He, pe, ce, rfl, hOe, rfl⟩, rfl⟩
          refine DL.q rfl (Yld.buildP lay25 (.cons rfl rfl (.cons rfl rfl (.cons rfl rfl .nil))) rfl) rfl ?_
          refine DL.one0 rfl (Eff.storeS (c := 104) _ sz25 rfl rfl rfl rfl rfl rfl rfl (by (try simp only [putAt, List.take, List.drop, List.nil_append, List.cons_append, List.append_nil, List.length_cons, List.length_nil, Nat.add_zero, Nat.zero_add, Nat.reduceAdd]); rfl)) (by rintro _ _ rfl; repeat (first | exact .nil | refine .cons rfl ?_)) ?_
          rintro _ _ rfl
          refine DL.done ?_
          refine N.next ?_
          refine W.keep (.cons (k := 4) rfl .nil) (.cons (k := 0) rfl (.cons (k := 1) rfl (.cons (k := 2) rfl (.cons (k := 102) rfl (.cons (k := 104) rfl (.cons (k := 112) rfl (.cons (k := 118) rfl (.cons (k := 150) rfl (.cons (k := 151) rfl (.cons (k := 152) rfl (.cons (k := 153) rfl (.cons (k := 154) rfl .nil)))))))))))) ?_
          refine W.ret ?_
          refine N.merge 150 151 rfl rfl rfl fun ha1 => ?_
          refine N.merge 150 154 rfl rfl rfl fun ha2 => ?_
          exact N.retBy [1, 2, 150] (.cons (by first | exact .cell (c := 104) rfl rfl (fun w hs => run_loadVarA Tryz.underlying25 rfl sz25 rfl (fun j u hj => by rw [Nat.zero_add, PH.sub.cell hs (by first | exact single_self _ _ | exact pset_self _ _ _ | assumption)]; exact hj))) .nil) rfl rfl rfl rfl ⟨⟨x.o, x.n, minusL (setL l) (x.o ++ x.n), pa, ca, pb, cb, pe, ce⟩, _, rfl, ⟨(hOa.sl.mono hjoin_l).mono hjoin_l, (hOb.sl.mono ha1).mono hjoin_l, hOe.sl.mono ha2⟩, rfl, rfl, rfl, rfl⟩
      ·
        refine DL.one rfl (Eff.buildSlice 118 Tryz.underlying63 sz22 zc22 rfl rfl (.cons rfl rfl (.cons rfl rfl .nil)) rfl) rfl (by rintro _ _ ⟨b18, rfl, rfl⟩; repeat (first | exact .nil | refine .cons rfl ?_)) ?_
        rintro _ _ ⟨b18, rfl, rfl⟩
        refine DL.one rfl (Eff.call ent41 [1] [1, 151] (.cons rfl .nil) (cloneI_ct x.n _ _ _ hn (by omega)) rfl rfl rfl rfl (by rintro _ _ ⟨_, _, _, _, _, rfl⟩; rfl)) rfl (by rintro _ _ ⟨_, ⟨Hb, pb, cb, rfl, hOb, rfl⟩, rfl⟩; repeat (first | exact .nil | refine .cons rfl ?_)) ?_
        rintro _ _ ⟨_, ⟨Hb, pb, cb, rfl, hOb, rfl⟩, rfl⟩
        refine DL.one rfl (Eff.call ent38 [112, 2] [112, 2, 152] (.cons rfl .nil) (cset_ct [(q, d, l)] _ H3 _ _ (Own.mk (e := 22) (n := 1) (c := 1) [] (by intro r hr; simp only [List.map_cons, List.map_nil, List.mem_cons, List.not_mem_nil, or_false] at hr; rcases hr with rfl <;> exact ⟨rfl, by simp [SV, Value.oneCell']⟩) (by simp) (by simp [maxLen]) (by rfl) (by rfl)).sl (by intro s hs; simp only [List.mem_cons, List.not_mem_nil, or_false] at hs; subst hs; exact hl) (by rw [cat1]; omega)) rfl rfl rfl rfl (by rintro _ _ ⟨_, _, _, _, _, rfl⟩; rfl)) rfl (by rintro _ _ ⟨_, ⟨Hc, pc, cc, rfl, hOc, rfl⟩, rfl⟩; repeat (first | exact .nil | refine .cons rfl ?_)) ?_
        rintro _ _ ⟨_, ⟨Hc, pc, cc, rfl, hOc, rfl⟩, rfl⟩
        rw [cat1] at hOc ⊢
        refine DL.one rfl (Eff.call ent65 [118, 1] [118, 1, 153] (.cons rfl .nil) (concat_ct [(x.po, x.co, x.o), (x.pn, x.cn, x.n)] _ H1 _ _ (Own.mk (e := 22) (n := 1) (c := 2) [] (by intro r hr; simp only [List.map_cons, List.map_nil, List.mem_cons, List.not_mem_nil, or_false] at hr; rcases hr with rfl | rfl <;> exact ⟨rfl, by simp [SV, Value.oneCell']⟩) (by simp) (by simp [maxLen]) (by rfl) (by rfl)).sl (by intro s hs; simp only [List.mem_cons, List.not_mem_nil, or_false] at hs; rcases hs with rfl | rfl; exact ho; exact hn) (by rw [cat2]; simp; omega)) rfl rfl rfl rfl (by rintro _ _ ⟨_, _, _, _, _, rfl⟩; rfl)) rfl (by rintro _ _ ⟨_, ⟨Hd, pd, cd, rfl, hOd, rfl⟩, rfl⟩; repeat (first | exact .nil | refine .cons rfl ?_)) ?_
        rintro _ _ ⟨_, ⟨Hd, pd, cd, rfl, hOd, rfl⟩, rfl⟩
        rw [cat2] at hOd ⊢
        refine DL.one rfl (Eff.call ent39 [152, 153] [152, 153, 154] (.cons rfl (.cons rfl .nil)) (cminus_ct (setL l) _ _ _ hOc.sl (x.o ++ x.n) _ _ _ hOd.sl (by omega)) rfl rfl rfl rfl (by rintro _ _ ⟨_, _, _, _, _, rfl⟩; rfl)) rfl (by rintro _ _ ⟨_, ⟨He, pe, ce, rfl, hOe, rfl⟩, rfl⟩; repeat (first | exact .nil | refine .cons rfl ?_)) ?_
        rintro _ _ ⟨_, ⟨He, pe, ce, rfl, hOe, rfl⟩, rfl⟩
        refine DL.q rfl (Yld.buildP lay25 (.cons rfl rfl (.cons rfl rfl (.cons rfl rfl .nil))) rfl) rfl ?_
        refine DL.one0 rfl (Eff.storeS (c := 104) _ sz25 rfl rfl rfl rfl rfl rfl rfl (by (try simp only [putAt, List.take, List.drop, List.nil_append, List.cons_append, List.append_nil, List.length_cons, List.length_nil, Nat.add_zero, Nat.zero_add, Nat.reduceAdd]); rfl)) (by rintro _ _ rfl; repeat (first | exact .nil | refine .cons rfl ?_)) ?_
        rintro _ _ rfl
        refine DL.done ?_
        refine N.next ?_
        refine W.keep (.cons (k := 4) rfl .nil) (.cons (k := 0) rfl (.cons (k := 1) rfl (.cons (k := 2) rfl (.cons (k := 102) rfl (.cons (k := 104) rfl (.cons (k := 112) rfl (.cons (k := 118) rfl (.cons (k := 150) rfl (.cons (k := 151) rfl (.cons (k := 152) rfl (.cons (k := 153) rfl (.cons (k := 154) rfl .nil)))))))))))) ?_
        refine W.ret ?_
        refine N.merge 150 151 rfl rfl rfl fun ha1 => ?_
        refine N.merge 150 154 rfl rfl rfl fun ha2 => ?_
        exact N.retBy [1, 2, 150] (.cons (by first | exact .cell (c := 104) rfl rfl (fun w hs => run_loadVarA Tryz.underlying25 rfl sz25 rfl (fun j u hj => by rw [Nat.zero_add, PH.sub.cell hs (by first | exact single_self _ _ | exact pset_self _ _ _ | assumption)]; exact hj))) .nil) rfl rfl rfl rfl ⟨⟨x.o, x.n, minusL (setL l) (x.o ++ x.n), pa, ca, pb, cb, pe, ce⟩, _, rfl, ⟨(hOa.sl.mono hjoin_l).mono hjoin_l, (hOb.sl.mono ha1).mono hjoin_l, hOe.sl.mono ha2⟩, rfl, rfl, rfl, rfl⟩
    ·
      refine DL.one rfl (Eff.buildSlice 118 Tryz.underlying63 sz22 zc22 rfl rfl (.cons rfl rfl (.cons rfl rfl .nil)) rfl) rfl (by rintro _ _ ⟨b18, rfl, rfl⟩; repeat (first | exact .nil | refine .cons rfl ?_)) ?_
      rintro _ _ ⟨b18, rfl, rfl⟩
      refine DL.two ?_ ?_
      ·
        refine DL.one rfl (Eff.call ent41 [1] [1, 151] (.cons rfl .nil) (cloneI_ct x.n _ _ _ hn (by omega)) rfl rfl rfl rfl (by rintro _ _ ⟨_, _, _, _, _, rfl⟩; rfl)) rfl (by rintro _ _ ⟨_, ⟨Hb, pb, cb, rfl, hOb, rfl⟩, rfl⟩; repeat (first | exact .nil | refine .cons rfl ?_)) ?_
        rintro _ _ ⟨_, ⟨Hb, pb, cb, rfl, hOb, rfl⟩, rfl⟩
        refine DL.one rfl (Eff.buildSlice 112 Tryz.underlying63 sz22 zc22 rfl rfl (.cons rfl rfl .nil) rfl) rfl (by rintro _ _ ⟨b12, rfl, rfl⟩; repeat (first | exact .nil | refine .cons rfl ?_)) ?_
        rintro _ _ ⟨b12, rfl, rfl⟩
        refine DL.one rfl (Eff.call ent38 [112, 2] [112, 2, 152] (.cons rfl .nil) (cset_ct [(q, d, l)] _ H3 _ _ (Own.mk (e := 22) (n := 1) (c := 1) [] (by intro r hr; simp only [List.map_cons, List.map_nil, List.mem_cons, List.not_mem_nil, or_false] at hr; rcases hr with rfl <;> exact ⟨rfl, by simp [SV, Value.oneCell']⟩) (by simp) (by simp [maxLen]) (by rfl) (by rfl)).sl (by intro s hs; simp only [List.mem_cons, List.not_mem_nil, or_false] at hs; subst hs; exact hl) (by rw [cat1]; omega)) rfl rfl rfl rfl (by rintro _ _ ⟨_, _, _, _, _, rfl⟩; rfl)) rfl (by rintro _ _ ⟨_, ⟨Hc, pc, cc, rfl, hOc, rfl⟩, rfl⟩; repeat (first | exact .nil | refine .cons rfl ?_)) ?_
        rintro _ _ ⟨_, ⟨Hc, pc, cc, rfl, hOc, rfl⟩, rfl⟩
        rw [cat1] at hOc ⊢
        refine DL.one rfl (Eff.call ent65 [118, 1] [118, 1, 153] (.cons rfl .nil) (concat_ct [(x.po, x.co, x.o), (x.pn, x.cn, x.n)] _ H1 _ _ (Own.mk (e := 22) (n := 1) (c := 2) [] (by intro r hr; simp only [List.map_cons, List.map_nil, List.mem_cons, List.not_mem_nil, or_false] at hr; rcases hr with rfl | rfl <;> exact ⟨rfl, by simp [SV, Value.oneCell']⟩) (by simp) (by simp [maxLen]) (by rfl) (by rfl)).sl (by intro s hs; simp only [List.mem_cons, List.not_mem_nil, or_false] at hs; rcases hs with rfl | rfl; exact ho; exact hn) (by rw [cat2]; simp; omega)) rfl rfl rfl rfl (by rintro _ _ ⟨_, _, _, _, _, rfl⟩; rfl)) rfl (by rintro _ _ ⟨_, ⟨Hd, pd, cd, rfl, hOd, rfl⟩, rfl⟩; repeat (first | exact .nil | refine .cons rfl ?_)) ?_
        rintro _ _ ⟨_, ⟨Hd, pd, cd, rfl, hOd, rfl⟩, rfl⟩
        rw [cat2] at hOd ⊢
        refine DL.one rfl (Eff.call ent39 [152, 153] [152, 153, 154] (.cons rfl (.cons rfl .nil)) (cminus_ct (setL l) _ _ _ hOc.sl (x.o ++ x.n) _ _ _ hOd.sl (by omega)) rfl rfl rfl rfl (by rintro _ _ ⟨_, _, _, _, _, rfl⟩; rfl)) rfl (by rintro _ _ ⟨_, ⟨He, pe, ce, rfl, hOe, rfl⟩, rfl⟩; repeat (first | exact .nil | refine .cons rfl ?_)) ?_
        rintro _ _ ⟨_, ⟨He, pe, ce, rfl, hOe, rfl⟩, rfl⟩
        refine DL.q rfl (Yld.buildP lay25 (.cons rfl rfl (.cons rfl rfl (.cons rfl rfl .nil))) rfl) rfl ?_
        refine DL.one0 rfl (Eff.storeS (c := 104) _ sz25 rfl rfl rfl rfl rfl rfl rfl (by (try simp only [putAt, List.take, List.drop, List.nil_append, List.cons_append, List.append_nil, List.length_cons, List.length_nil, Nat.add_zero, Nat.zero_add, Nat.reduceAdd]); rfl)) (by rintro _ _ rfl; repeat (first | exact .nil | refine .cons rfl ?_)) ?_
        rintro _ _ rfl
        refine DL.done ?_
        refine N.next ?_
        refine W.keep (.cons (k := 4) rfl .nil) (.cons (k := 0) rfl (.cons (k := 1) rfl (.cons (k := 2) rfl (.cons (k := 102) rfl (.cons (k := 104) rfl (.cons (k := 112) rfl (.cons (k := 118) rfl (.cons (k := 150) rfl (.cons (k := 151) rfl (.cons (k := 152) rfl (.cons (k := 153) rfl (.cons (k := 154) rfl .nil)))))))))))) ?_
        refine W.ret ?_
        refine N.merge 150 151 rfl rfl rfl fun ha1 => ?_
        refine N.merge 150 154 rfl rfl rfl fun ha2 => ?_
        exact N.retBy [1, 2, 150] (.cons (by first | exact .cell (c := 104) rfl rfl (fun w hs => run_loadVarA Tryz.underlying25 rfl sz25 rfl (fun j u hj => by rw [Nat.zero_add, PH.sub.cell hs (by first | exact single_self _ _ | exact pset_self _ _ _ | assumption)]; exact hj))) .nil) rfl rfl rfl rfl ⟨⟨x.o, x.n, minusL (setL l) (x.o ++ x.n), pa, ca, pb, cb, pe, ce⟩, _, rfl, ⟨(hOa.sl.mono hjoin_l).mono hjoin_l, (hOb.sl.mono ha1).mono hjoin_l, hOe.sl.mono ha2⟩, rfl, rfl, rfl, rfl⟩
      ·
        refine DL.one rfl (Eff.buildSlice 112 Tryz.underlying63 sz22 zc22 rfl rfl (.cons rfl rfl .nil) rfl) rfl (by rintro _ _ ⟨b12, rfl, rfl⟩; repeat (first | exact .nil | refine .cons rfl ?_)) ?_
        rintro _ _ ⟨b12, rfl, rfl⟩
        refine DL.one rfl (Eff.call ent41 [1] [1, 151] (.cons rfl .nil) (cloneI_ct x.n _ _ _ hn (by omega)) rfl rfl rfl rfl (by rintro _ _ ⟨_, _, _, _, _, rfl⟩; rfl)) rfl (by rintro _ _ ⟨_, ⟨Hb, pb, cb, rfl, hOb, rfl⟩, rfl⟩; repeat (first | exact .nil | refine .cons rfl ?_)) ?_
        rintro _ _ ⟨_, ⟨Hb, pb, cb, rfl, hOb, rfl⟩, rfl⟩
        refine DL.one rfl (Eff.call ent38 [112, 2] [112, 2, 152] (.cons rfl .nil) (cset_ct [(q, d, l)] _ H3 _ _ (Own.mk (e := 22) (n := 1) (c := 1) [] (by intro r hr; simp only [List.map_cons, List.map_nil, List.mem_cons, List.not_mem_nil, or_false] at hr; rcases hr with rfl <;> exact ⟨rfl, by simp [SV, Value.oneCell']⟩) (by simp) (by simp [maxLen]) (by rfl) (by rfl)).sl (by intro s hs; simp only [List.mem_cons, List.not_mem_nil, or_false] at hs; subst hs; exact hl) (by rw [cat1]; omega)) rfl rfl rfl rfl (by rintro _ _ ⟨_, _, _, _, _, rfl⟩; rfl)) rfl (by rintro _ _ ⟨_, ⟨Hc, pc, cc, rfl, hOc, rfl⟩, rfl⟩; repeat (first | exact .nil | refine .cons rfl ?_)) ?_
        rintro _ _ ⟨_, ⟨Hc, pc, cc, rfl, hOc, rfl⟩, rfl⟩
        rw [cat1] at hOc ⊢
        refine DL.one rfl (Eff.call ent65 [118, 1] [118, 1, 153] (.cons rfl .nil) (concat_ct [(x.po, x.co, x.o), (x.pn, x.cn, x.n)] _ H1 _ _ (Own.mk (e := 22) (n := 1) (c := 2) [] (by intro r hr; simp only [List.map_cons, List.map_nil, List.mem_cons, List.not_mem_nil, or_false] at hr; rcases hr with rfl | rfl <;> exact ⟨rfl, by simp [SV, Value.oneCell']⟩) (by simp) (by simp [maxLen]) (by rfl) (by rfl)).sl (by intro s hs; simp only [List.mem_cons, List.not_mem_nil, or_false] at hs; rcases hs with rfl | rfl; exact ho; exact hn) (by rw [cat2]; simp; omega)) rfl rfl rfl rfl (by rintro _ _ ⟨_, _, _, _, _, rfl⟩; rfl)) rfl (by rintro _ _ ⟨_, ⟨Hd, pd, cd, rfl, hOd, rfl⟩, rfl⟩; repeat (first | exact .nil | refine .cons rfl ?_)) ?_
        rintro _ _ ⟨_, ⟨Hd, pd, cd, rfl, hOd, rfl⟩, rfl⟩
        rw [cat2] at hOd ⊢
        refine DL.one rfl (Eff.call ent39 [152, 153] [152, 153, 154] (.cons rfl (.cons rfl .nil)) (cminus_ct (setL l) _ _ _ hOc.sl (x.o ++ x.n) _ _ _ hOd.sl (by omega)) rfl rfl rfl rfl (by rintro _ _ ⟨_, _, _, _, _, rfl⟩; rfl)) rfl (by rintro _ _ ⟨_, ⟨He, pe, ce, rfl, hOe, rfl⟩, rfl⟩; repeat (first | exact .nil | refine .cons rfl ?_)) ?_
        rintro _ _ ⟨_, ⟨He, pe, ce, rfl, hOe, rfl⟩, rfl⟩
        refine DL.q rfl (Yld.buildP lay25 (.cons rfl rfl (.cons rfl rfl (.cons rfl rfl .nil))) rfl) rfl ?_
        refine DL.one0 rfl (Eff.storeS (c := 104) _ sz25 rfl rfl rfl rfl rfl rfl rfl (by (try simp only [putAt, List.take, List.drop, List.nil_append, List.cons_append, List.append_nil, List.length_cons, List.length_nil, Nat.add_zero, Nat.zero_add, Nat.reduceAdd]); rfl)) (by rintro _ _ rfl; repeat (first | exact .nil | refine .cons rfl ?_)) ?_
        rintro _ _ rfl
        refine DL.done ?_
        refine N.next ?_
        refine W.keep (.cons (k := 4) rfl .nil) (.cons (k := 0) rfl (.cons (k := 1) rfl (.cons (k := 2) rfl (.cons (k := 102) rfl (.cons (k := 104) rfl (.cons (k := 112) rfl (.cons (k := 118) rfl (.cons (k := 150) rfl (.cons (k := 151) rfl (.cons (k := 152) rfl (.cons (k := 153) rfl (.cons (k := 154) rfl .nil)))))))))))) ?_
        refine W.ret ?_
        refine N.merge 150 151 rfl rfl rfl fun ha1 => ?_
        refine N.merge 150 154 rfl rfl rfl fun ha2 => ?_
        exact N.retBy [1, 2, 150] (.cons (by first | exact .cell (c := 104) rfl rfl (fun w hs => run_loadVarA Tryz.underlying25 rfl sz25 rfl (fun j u hj => by rw [Nat.zero_add, PH.sub.cell hs (by first | exact single_self _ _ | exact pset_self _ _ _ | assumption)]; exact hj))) .nil) rfl rfl rfl rfl ⟨⟨x.o, x.n, minusL (setL l) (x.o ++ x.n), pa, ca, pb, cb, pe, ce⟩, _, rfl, ⟨(hOa.sl.mono hjoin_l).mono hjoin_l, (hOb.sl.mono ha1).mono hjoin_l, hOe.sl.mono ha2⟩, rfl, rfl, rfl, rfl⟩
  ·
    refine DL.one rfl (Eff.buildSlice 112 Tryz.underlying63 sz22 zc22 rfl rfl (.cons rfl rfl .nil) rfl) rfl (by rintro _ _ ⟨b12, rfl, rfl⟩; repeat (first | exact .nil | refine .cons rfl ?_)) ?_
    rintro _ _ ⟨b12, rfl, rfl⟩
    refine DL.two ?_ ?_
    ·
      refine DL.one rfl (Eff.call ent41 [1] [1, 150] (.cons rfl .nil) (cloneI_ct x.o _ _ _ ho (by omega)) rfl rfl rfl rfl (by rintro _ _ ⟨_, _, _, _, _, rfl⟩; rfl)) rfl (by rintro _ _ ⟨_, ⟨Ha, pa, ca, rfl, hOa, rfl⟩, rfl⟩; repeat (first | exact .nil | refine .cons rfl ?_)) ?_
      rintro _ _ ⟨_, ⟨Ha, pa, ca, rfl, hOa, rfl⟩, rfl⟩
      refine DL.two ?_ ?_
      ·
        refine DL.one rfl (Eff.call ent41 [1] [1, 151] (.cons rfl .nil) (cloneI_ct x.n _ _ _ hn (by omega)) rfl rfl rfl rfl (by rintro _ _ ⟨_, _, _, _, _, rfl⟩; rfl)) rfl (by rintro _ _ ⟨_, ⟨Hb, pb, cb, rfl, hOb, rfl⟩, rfl⟩; repeat (first | exact .nil | refine .cons rfl ?_)) ?_
        rintro _ _ ⟨_, ⟨Hb, pb, cb, rfl, hOb, rfl⟩, rfl⟩
        refine DL.two ?_ ?_
        ·
          refine DL.one rfl (Eff.call ent38 [112, 2] [112, 2, 152] (.cons rfl .nil) (cset_ct [(q, d, l)] _ H3 _ _ (Own.mk (e := 22) (n := 1) (c := 1) [] (by intro r hr; simp only [List.map_cons, List.map_nil, List.mem_cons, List.not_mem_nil, or_false] at hr; rcases hr with rfl <;> exact ⟨rfl, by simp [SV, Value.oneCell']⟩) (by simp) (by simp [maxLen]) (by rfl) (by rfl)).sl (by intro s hs; simp only [List.mem_cons, List.not_mem_nil, or_false] at hs; subst hs; exact hl) (by rw [cat1]; omega)) rfl rfl rfl rfl (by rintro _ _ ⟨_, _, _, _, _, rfl⟩; rfl)) rfl (by rintro _ _ ⟨_, ⟨Hc, pc, cc, rfl, hOc, rfl⟩, rfl⟩; repeat (first | exact .nil | refine .cons rfl ?_)) ?_
          rintro _ _ ⟨_, ⟨Hc, pc, cc, rfl, hOc, rfl⟩, rfl⟩
          rw [cat1] at hOc ⊢
          refine DL.one rfl (Eff.buildSlice 118 Tryz.underlying63 sz22 zc22 rfl rfl (.cons rfl rfl (.cons rfl rfl .nil)) rfl) rfl (by rintro _ _ ⟨b18, rfl, rfl⟩; repeat (first | exact .nil | refine .cons rfl ?_)) ?_
          rintro _ _ ⟨b18, rfl, rfl⟩
          refine DL.one rfl (Eff.call ent65 [118, 1] [118, 1, 153] (.cons rfl .nil) (concat_ct [(x.po, x.co, x.o), (x.pn, x.cn, x.n)] _ H1 _ _ (Own.mk (e := 22) (n := 1) (c := 2) [] (by intro r hr; simp only [List.map_cons, List.map_nil, List.mem_cons, List.not_mem_nil, or_false] at hr; rcases hr with rfl | rfl <;> exact ⟨rfl, by simp [SV, Value.oneCell']⟩) (by simp) (by simp [maxLen]) (by rfl) (by rfl)).sl (by intro s hs; simp only [List.mem_cons, List.not_mem_nil, or_false] at hs; rcases hs with rfl | rfl; exact ho; exact hn) (by rw [cat2]; simp; omega)) rfl rfl rfl rfl (by rintro _ _ ⟨_, _, _, _, _, rfl⟩; rfl)) rfl (by rintro _ _ ⟨_, ⟨Hd, pd, cd, rfl, hOd, rfl⟩, rfl⟩; repeat (first | exact .nil | refine .cons rfl ?_)) ?_
          rintro _ _ ⟨_, ⟨Hd, pd, cd, rfl, hOd, rfl⟩, rfl⟩
          rw [cat2] at hOd ⊢
          refine DL.one rfl (Eff.call ent39 [152, 153] [152, 153, 154] (.cons rfl (.cons rfl .nil)) (cminus_ct (setL l) _ _ _ hOc.sl (x.o ++ x.n) _ _ _ hOd.sl (by omega)) rfl rfl rfl rfl (by rintro _ _ ⟨_, _, _, _, _, rfl⟩; rfl)) rfl (by rintro _ _ ⟨_, ⟨He, pe, ce, rfl, hOe, rfl⟩, rfl⟩; repeat (first | exact .nil | refine .cons rfl ?_)) ?_
          rintro _ _ ⟨_, ⟨He, pe, ce, rfl, hOe, rfl⟩, rfl⟩
          refine DL.q rfl (Yld.buildP lay25 (.cons rfl rfl (.cons rfl rfl (.cons rfl rfl .nil))) rfl) rfl ?_
          refine DL.one0 rfl (Eff.storeS (c := 104) _ sz25 rfl rfl rfl rfl rfl rfl rfl (by (try simp only [putAt, List.take, List.drop, List.nil_append, List.cons_append, List.append_nil, List.length_cons, List.length_nil, Nat.add_zero, Nat.zero_add, Nat.reduceAdd]); rfl)) (by rintro _ _ rfl; repeat (first | exact .nil | refine .cons rfl ?_)) ?_
          rintro _ _ rfl
          refine DL.done ?_
          refine N.next ?_
          refine W.keep (.cons (k := 4) rfl .nil) (.cons (k := 0) rfl (.cons (k := 1) rfl (.cons (k := 2) rfl (.cons (k := 102) rfl (.cons (k := 104) rfl (.cons (k := 112) rfl (.cons (k := 118) rfl (.cons (k := 150) rfl (.cons (k := 151) rfl (.cons (k := 152) rfl (.cons (k := 153) rfl (.cons (k := 154) rfl .nil)))))))))))) ?_
          refine W.ret ?_
          refine N.merge 150 151 rfl rfl rfl fun ha1 => ?_
          refine N.merge 150 154 rfl rfl rfl fun ha2 => ?_
          exact N.retBy [1, 2, 150] (.cons (by first | exact .cell (c := 104) rfl rfl (fun w hs => run_loadVarA Tryz.underlying25 rfl sz25 rfl (fun j u hj => by rw [Nat.zero_add, PH.sub.cell hs (by first | exact single_self _ _ | exact pset_self _ _ _ | assumption)]; exact hj))) .nil) rfl rfl rfl rfl ⟨⟨x.o, x.n, minusL (setL l) (x.o ++ x.n), pa, ca, pb, cb, pe, ce⟩, _, rfl, ⟨(hOa.sl.mono hjoin_l).mono hjoin_l, (hOb.sl.mono ha1).mono hjoin_l, hOe.sl.mono ha2⟩, rfl, rfl, rfl, rfl⟩
        ·
          refine DL.one rfl (Eff.buildSlice 118 Tryz.underlying63 sz22 zc22 rfl rfl (.cons rfl rfl (.cons rfl rfl .nil)) rfl) rfl (by rintro _ _ ⟨b18, rfl, rfl⟩; repeat (first | exact .nil | refine .cons rfl ?_)) ?_
          rintro _ _ ⟨b18, rfl, rfl⟩
          refine DL.one rfl (Eff.call ent38 [112, 2] [112, 2, 152] (.cons rfl .nil) (cset_ct [(q, d, l)] _ H3 _ _ (Own.mk (e := 22) (n := 1) (c := 1) [] (by intro r hr; simp only [List.map_cons, List.map_nil, List.mem_cons, List.not_mem_nil, or_false] at hr; rcases hr with rfl <;> exact ⟨rfl, by simp [SV, Value.oneCell']⟩) (by simp) (by simp [maxLen]) (by rfl) (by rfl)).sl (by intro s hs; simp only [List.mem_cons, List.not_mem_nil, or_false] at hs; subst hs; exact hl) (by rw [cat1]; omega)) rfl rfl rfl rfl (by rintro _ _ ⟨_, _, _, _, _, rfl⟩; rfl)) rfl (by rintro _ _ ⟨_, ⟨Hc, pc, cc, rfl, hOc, rfl⟩, rfl⟩; repeat (first | exact .nil | refine .cons rfl ?_)) ?_
          rintro _ _ ⟨_, ⟨Hc, pc, cc, rfl, hOc, rfl⟩, rfl⟩
          rw [cat1] at hOc ⊢
          refine DL.one rfl (Eff.call ent65 [118, 1] [118, 1, 153] (.cons rfl .nil) (concat_ct [(x.po, x.co, x.o), (x.pn, x.cn, x.n)] _ H1 _ _ (Own.mk (e := 22) (n := 1) (c := 2) [] (by intro r hr; simp only [List.map_cons, List.map_nil, List.mem_cons, List.not_mem_nil, or_false] at hr; rcases hr with rfl | rfl <;> exact ⟨rfl, by simp [SV, Value.oneCell']⟩) (by simp) (by simp [maxLen]) (by rfl) (by rfl)).sl (by intro s hs; simp only [List.mem_cons, List.not_mem_nil, or_false] at hs; rcases hs with rfl | rfl; exact ho; exact hn) (by rw [cat2]; simp; omega)) rfl rfl rfl rfl (by rintro _ _ ⟨_, _, _, _, _, rfl⟩; rfl)) rfl (by rintro _ _ ⟨_, ⟨Hd, pd, cd, rfl, hOd, rfl⟩, rfl⟩; repeat (first | exact .nil | refine .cons rfl ?_)) ?_
          rintro _ _ ⟨_, ⟨Hd, pd, cd, rfl, hOd, rfl⟩, rfl⟩
          rw [cat2] at hOd ⊢
          refine DL.one rfl (Eff.call ent39 [152, 153] [152, 153, 154] (.cons rfl (.cons rfl .nil)) (cminus_ct (setL l) _ _ _ hOc.sl (x.o ++ x.n) _ _ _ hOd.sl (by omega)) rfl rfl rfl rfl (by rintro _ _ ⟨_, _, _, _, _, rfl⟩; rfl)) rfl (by rintro _ _ ⟨_, ⟨He, pe, ce, rfl, hOe, rfl⟩, rfl⟩; repeat (first | exact .nil | refine .cons rfl ?_)) ?_
          rintro _ _ ⟨_, ⟨He, pe, ce, rfl, hOe, rfl⟩, rfl⟩
          refine DL.q rfl (Yld.buildP lay25 (.cons rfl rfl (.cons rfl rfl (.cons rfl rfl .nil))) rfl) rfl ?_
          refine DL.one0 rfl (Eff.storeS (c := 104) _ sz25 rfl rfl rfl rfl rfl rfl rfl (by (try simp only [putAt, List.take, List.drop, List.nil_append, List.cons_append, List.append_nil, List.length_cons, List.length_nil, Nat.add_zero, Nat.zero_add, Nat.reduceAdd]); rfl)) (by rintro _ _ rfl; repeat (first | exact .nil | refine .cons rfl ?_)) ?_
          rintro _ _ rfl
          refine DL.done ?_
          refine N.next ?_
          refine W.keep (.cons (k := 4) rfl .nil) (.cons (k := 0) rfl (.cons (k := 1) rfl (.cons (k := 2) rfl (.cons (k := 102) rfl (.cons (k := 104) rfl (.cons (k := 112) rfl (.cons (k := 118) rfl (.cons (k := 150) rfl (.cons (k := 151) rfl (.cons (k := 152) rfl (.cons (k := 153) rfl (.cons (k := 154) rfl .nil)))))))))))) ?_
          refine W.ret ?_
          refine N.merge 150 151 rfl rfl rfl fun ha1 => ?_
          refine N.merge 150 154 rfl rfl rfl fun ha2 => ?_
          exact N.retBy [1, 2, 150] (.cons (by first | exact .cell (c := 104) rfl rfl (fun w hs => run_loadVarA Tryz.underlying25 rfl sz25 rfl (fun j u hj => by rw [Nat.zero_add, PH.sub.cell hs (by first | exact single_self _ _ | exact pset_self _ _ _ | assumption)]; exact hj))) .nil) rfl rfl rfl rfl ⟨⟨x.o, x.n, minusL (setL l) (x.o ++ x.n), pa, ca, pb, cb, pe, ce⟩, _, rfl, ⟨(hOa.sl.mono hjoin_l).mono hjoin_l, (hOb.sl.mono ha1).mono hjoin_l, hOe.sl.mono ha2⟩, rfl, rfl, rfl, rfl⟩
      ·
        refine DL.one rfl (Eff.buildSlice 118 Tryz.underlying63 sz22 zc22 rfl rfl (.cons rfl rfl (.cons rfl rfl .nil)) rfl) rfl (by rintro _ _ ⟨b18, rfl, rfl⟩; repeat (first | exact .nil | refine .cons rfl ?_)) ?_
        rintro _ _ ⟨b18, rfl, rfl⟩
        refine DL.one rfl (Eff.call ent41 [1] [1, 151] (.cons rfl .nil) (cloneI_ct x.n _ _ _ hn (by omega)) rfl rfl rfl rfl (by rintro _ _ ⟨_, _, _, _, _, rfl⟩; rfl)) rfl (by rintro _ _ ⟨_, ⟨Hb, pb, cb, rfl, hOb, rfl⟩, rfl⟩; repeat (first | exact .nil | refine .cons rfl ?_)) ?_
        rintro _ _ ⟨_, ⟨Hb, pb, cb, rfl, hOb, rfl⟩, rfl⟩
        refine DL.one rfl (Eff.call ent38 [112, 2] [112, 2, 152] (.cons rfl .nil) (cset_ct [(q, d, l)] _ H3 _ _ (Own.mk (e := 22) (n := 1) (c := 1) [] (by intro r hr; simp only [List.map_cons, List.map_nil, List.mem_cons, List.not_mem_nil, or_false] at hr; rcases hr with rfl <;> exact ⟨rfl, by simp [SV, Value.oneCell']⟩) (by simp) (by simp [maxLen]) (by rfl) (by rfl)).sl (by intro s hs; simp only [List.mem_cons, List.not_mem_nil, or_false] at hs; subst hs; exact hl) (by rw [cat1]; omega)) rfl rfl rfl rfl (by rintro _ _ ⟨_, _, _, _, _, rfl⟩; rfl)) rfl (by rintro _ _ ⟨_, ⟨Hc, pc, cc, rfl, hOc, rfl⟩, rfl⟩; repeat (first | exact .nil | refine .cons rfl ?_)) ?_
        rintro _ _ ⟨_, ⟨Hc, pc, cc, rfl, hOc, rfl⟩, rfl⟩
        rw [cat1] at hOc ⊢
        refine DL.one rfl (Eff.call ent65 [118, 1] [118, 1, 153] (.cons rfl .nil) (concat_ct [(x.po, x.co, x.o), (x.pn, x.cn, x.n)] _ H1 _ _ (Own.mk (e := 22) (n := 1) (c := 2) [] (by intro r hr; simp only [List.map_cons, List.map_nil, List.mem_cons, List.not_mem_nil, or_false] at hr; rcases hr with rfl | rfl <;> exact ⟨rfl, by simp [SV, Value.oneCell']⟩) (by simp) (by simp [maxLen]) (by rfl) (by rfl)).sl (by intro s hs; simp only [List.mem_cons, List.not_mem_nil, or_false] at hs; rcases hs with rfl | rfl; exact ho; exact hn) (by rw [cat2]; simp; omega)) rfl rfl rfl rfl (by rintro _ _ ⟨_, _, _, _, _, rfl⟩; rfl)) rfl (by rintro _ _ ⟨_, ⟨Hd, pd, cd, rfl, hOd, rfl⟩, rfl⟩; repeat (first | exact .nil | refine .cons rfl ?_)) ?_
        rintro _ _ ⟨_, ⟨Hd, pd, cd, rfl, hOd, rfl⟩, rfl⟩
        rw [cat2] at hOd ⊢
        refine DL.one rfl (Eff.call ent39 [152, 153] [152, 153, 154] (.cons rfl (.cons rfl .nil)) (cminus_ct (setL l) _ _ _ hOc.sl (x.o ++ x.n) _ _ _ hOd.sl (by omega)) rfl rfl rfl rfl (by rintro _ _ ⟨_, _, _, _, _, rfl⟩; rfl)) rfl (by rintro _ _ ⟨_, ⟨He, pe, ce, rfl, hOe, rfl⟩, rfl⟩; repeat (first | exact .nil | refine .cons rfl ?_)) ?_
        rintro _ _ ⟨_, ⟨He, pe, ce, rfl, hOe, rfl⟩, rfl⟩
        refine DL.q rfl (Yld.buildP lay25 (.cons rfl rfl (.cons rfl rfl (.cons rfl rfl .nil))) rfl) rfl ?_
        refine DL.one0 rfl (Eff.storeS (c := 104) _ sz25 rfl rfl rfl rfl rfl rfl rfl (by (try simp only [putAt, List.take, List.drop, List.nil_append, List.cons_append, List.append_nil, List.length_cons, List.length_nil, Nat.add_zero, Nat.zero_add, Nat.reduceAdd]); rfl)) (by rintro _ _ rfl; repeat (first | exact .nil | refine .cons rfl ?_)) ?_
        rintro _ _ rfl
        refine DL.done ?_
        refine N.next ?_
        refine W.keep (.cons (k := 4) rfl .nil) (.cons (k := 0) rfl (.cons (k := 1) rfl (.cons (k := 2) rfl (.cons (k := 102) rfl (.cons (k := 104) rfl (.cons (k := 112) rfl (.cons (k := 118) rfl (.cons (k := 150) rfl (.cons (k := 151) rfl (.cons (k := 152) rfl (.cons (k := 153) rfl (.cons (k := 154) rfl .nil)))))))))))) ?_
        refine W.ret ?_
        refine N.merge 150 151 rfl rfl rfl fun ha1 => ?_
        refine N.merge 150 154 rfl rfl rfl fun ha2 => ?_
        exact N.retBy [1, 2, 150] (.cons (by first | exact .cell (c := 104) rfl rfl (fun w hs => run_loadVarA Tryz.underlying25 rfl sz25 rfl (fun j u hj => by rw [Nat.zero_add, PH.sub.cell hs (by first | exact single_self _ _ | exact pset_self _ _ _ | assumption)]; exact hj))) .nil) rfl rfl rfl rfl ⟨⟨x.o, x.n, minusL (setL l) (x.o ++ x.n), pa, ca, pb, cb, pe, ce⟩, _, rfl, ⟨(hOa.sl.mono hjoin_l).mono hjoin_l, (hOb.sl.mono ha1).mono hjoin_l, hOe.sl.mono ha2⟩, rfl, rfl, rfl, rfl⟩
    ·
      refine DL.one rfl (Eff.buildSlice 118 Tryz.underlying63 sz22 zc22 rfl rfl (.cons rfl rfl (.cons rfl rfl .nil)) rfl) rfl (by rintro _ _ ⟨b18, rfl, rfl⟩; repeat (first | exact .nil | refine .cons rfl ?_)) ?_
      rintro _ _ ⟨b18, rfl, rfl⟩
      refine DL.one rfl (Eff.call ent41 [1] [1, 150] (.cons rfl .nil) (cloneI_ct x.o _ _ _ ho (by omega)) rfl rfl rfl rfl (by rintro _ _ ⟨_, _, _, _, _, rfl⟩; rfl)) rfl (by rintro _ _ ⟨_, ⟨Ha, pa, ca, rfl, hOa, rfl⟩, rfl⟩; repeat (first | exact .nil | refine .cons rfl ?_)) ?_
      rintro _ _ ⟨_, ⟨Ha, pa, ca, rfl, hOa, rfl⟩, rfl⟩
      refine DL.one rfl (Eff.call ent41 [1] [1, 151] (.cons rfl .nil) (cloneI_ct x.n _ _ _ hn (by omega)) rfl rfl rfl rfl (by rintro _ _ ⟨_, _, _, _, _, rfl⟩; rfl)) rfl (by rintro _ _ ⟨_, ⟨Hb, pb, cb, rfl, hOb, rfl⟩, rfl⟩; repeat (first | exact .nil | refine .cons rfl ?_)) ?_
      rintro _ _ ⟨_, ⟨Hb, pb, cb, rfl, hOb, rfl⟩, rfl⟩
      refine DL.one rfl (Eff.call ent38 [112, 2] [112, 2, 152] (.cons rfl .nil) (cset_ct [(q, d, l)] _ H3 _ _ (Own.mk (e := 22) (n := 1) (c := 1) [] (by intro r hr; simp only [List.map_cons, List.map_nil, List.mem_cons, List.not_mem_nil, or_false] at hr; rcases hr with rfl <;> exact ⟨rfl, by simp [SV, Value.oneCell']⟩) (by simp) (by simp [maxLen]) (by rfl) (by rfl)).sl (by intro s hs; simp only [List.mem_cons, List.not_mem_nil, or_false] at hs; subst hs; exact hl) (by rw [cat1]; omega)) rfl rfl rfl rfl (by rintro _ _ ⟨_, _, _, _, _, rfl⟩; rfl)) rfl (by rintro _ _ ⟨_, ⟨Hc, pc, cc, rfl, hOc, rfl⟩, rfl⟩; repeat (first | exact .nil | refine .cons rfl ?_)) ?_
      rintro _ _ ⟨_, ⟨Hc, pc, cc, rfl, hOc, rfl⟩, rfl⟩
      rw [cat1] at hOc ⊢
      refine DL.one rfl (Eff.call ent65 [118, 1] [118, 1, 153] (.cons rfl .nil) (concat_ct [(x.po, x.co, x.o), (x.pn, x.cn, x.n)] _ H1 _ _ (Own.mk (e := 22) (n := 1) (c := 2) [] (by intro r hr; simp only [List.map_cons, List.map_nil, List.mem_cons, List.not_mem_nil, or_false] at hr; rcases hr with rfl | rfl <;> exact ⟨rfl, by simp [SV, Value.oneCell']⟩) (by simp) (by simp [maxLen]) (by rfl) (by rfl)).sl (by intro s hs; simp only [List.mem_cons, List.not_mem_nil, or_false] at hs; rcases hs with rfl | rfl; exact ho; exact hn) (by rw [cat2]; simp; omega)) rfl rfl rfl rfl (by rintro _ _ ⟨_, _, _, _, _, rfl⟩; rfl)) rfl (by rintro _ _ ⟨_, ⟨Hd, pd, cd, rfl, hOd, rfl⟩, rfl⟩; repeat (first | exact .nil | refine .cons rfl ?_)) ?_
      rintro _ _ ⟨_, ⟨Hd, pd, cd, rfl, hOd, rfl⟩, rfl⟩
      rw [cat2] at hOd ⊢
      refine DL.one rfl (Eff.call ent39 [152, 153] [152, 153, 154] (.cons rfl (.cons rfl .nil)) (cminus_ct (setL l) _ _ _ hOc.sl (x.o ++ x.n) _ _ _ hOd.sl (by omega)) rfl rfl rfl rfl (by rintro _ _ ⟨_, _, _, _, _, rfl⟩; rfl)) rfl (by rintro _ _ ⟨_, ⟨He, pe, ce, rfl, hOe, rfl⟩, rfl⟩; repeat (first | exact .nil | refine .cons rfl ?_)) ?_
      rintro _ _ ⟨_, ⟨He, pe, ce, rfl, hOe, rfl⟩, rfl⟩
      refine DL.q rfl (Yld.buildP lay25 (.cons rfl rfl (.cons rfl rfl (.cons rfl rfl .nil))) rfl) rfl ?_
      refine DL.one0 rfl (Eff.storeS (c := 104) _ sz25 rfl rfl rfl rfl rfl rfl rfl (by (try simp only [putAt, List.take, List.drop, List.nil_append, List.cons_append, List.append_nil, List.length_cons, List.length_nil, Nat.add_zero, Nat.zero_add, Nat.reduceAdd]); rfl)) (by rintro _ _ rfl; repeat (first | exact .nil | refine .cons rfl ?_)) ?_
      rintro _ _ rfl
      refine DL.done ?_
      refine N.next ?_
      refine W.keep (.cons (k := 4) rfl .nil) (.cons (k := 0) rfl (.cons (k := 1) rfl (.cons (k := 2) rfl (.cons (k := 102) rfl (.cons (k := 104) rfl (.cons (k := 112) rfl (.cons (k := 118) rfl (.cons (k := 150) rfl (.cons (k := 151) rfl (.cons (k := 152) rfl (.cons (k := 153) rfl (.cons (k := 154) rfl .nil)))))))))))) ?_
      refine W.ret ?_
      refine N.merge 150 151 rfl rfl rfl fun ha1 => ?_
      refine N.merge 150 154 rfl rfl rfl fun ha2 => ?_
      exact N.retBy [1, 2, 150] (.cons (by first | exact .cell (c := 104) rfl rfl (fun w hs => run_loadVarA Tryz.underlying25 rfl sz25 rfl (fun j u hj => by rw [Nat.zero_add, PH.sub.cell hs (by first | exact single_self _ _ | exact pset_self _ _ _ | assumption)]; exact hj))) .nil) rfl rfl rfl rfl ⟨⟨x.o, x.n, minusL (setL l) (x.o ++ x.n), pa, ca, pb, cb, pe, ce⟩, _, rfl, ⟨(hOa.sl.mono hjoin_l).mono hjoin_l, (hOb.sl.mono ha1).mono hjoin_l, hOe.sl.mono ha2⟩, rfl, rfl, rfl, rfl⟩
  ·
    refine DL.one rfl (Eff.buildSlice 118 Tryz.underlying63 sz22 zc22 rfl rfl (.cons rfl rfl (.cons rfl rfl .nil)) rfl) rfl (by rintro _ _ ⟨b18, rfl, rfl⟩; repeat (first | exact .nil | refine .cons rfl ?_)) ?_
    rintro _ _ ⟨b18, rfl, rfl⟩
    refine DL.two ?_ ?_
    ·
      refine DL.one rfl (Eff.call ent41 [1] [1, 150] (.cons rfl .nil) (cloneI_ct x.o _ _ _ ho (by omega)) rfl rfl rfl rfl (by rintro _ _ ⟨_, _, _, _, _, rfl⟩; rfl)) rfl (by rintro _ _ ⟨_, ⟨Ha, pa, ca, rfl, hOa, rfl⟩, rfl⟩; repeat (first | exact .nil | refine .cons rfl ?_)) ?_
      rintro _ _ ⟨_, ⟨Ha, pa, ca, rfl, hOa, rfl⟩, rfl⟩
      refine DL.two ?_ ?_
      ·
        refine DL.one rfl (Eff.call ent41 [1] [1, 151] (.cons rfl .nil) (cloneI_ct x.n _ _ _ hn (by omega)) rfl rfl rfl rfl (by rintro _ _ ⟨_, _, _, _, _, rfl⟩; rfl)) rfl (by rintro _ _ ⟨_, ⟨Hb, pb, cb, rfl, hOb, rfl⟩, rfl⟩; repeat (first | exact .nil | refine .cons rfl ?_)) ?_
        rintro _ _ ⟨_, ⟨Hb, pb, cb, rfl, hOb, rfl⟩, rfl⟩
        refine DL.one rfl (Eff.buildSlice 112 Tryz.underlying63 sz22 zc22 rfl rfl (.cons rfl rfl .nil) rfl) rfl (by rintro _ _ ⟨b12, rfl, rfl⟩; repeat (first | exact .nil | refine .cons rfl ?_)) ?_
        rintro _ _ ⟨b12, rfl, rfl⟩
        refine DL.one rfl (Eff.call ent38 [112, 2] [112, 2, 152] (.cons rfl .nil) (cset_ct [(q, d, l)] _ H3 _ _ (Own.mk (e := 22) (n := 1) (c := 1) [] (by intro r hr; simp only [List.map_cons, List.map_nil, List.mem_cons, List.not_mem_nil, or_false] at hr; rcases hr with rfl <;> exact ⟨rfl, by simp [SV, Value.oneCell']⟩) (by simp) (by simp [maxLen]) (by rfl) (by rfl)).sl (by intro s hs; simp only [List.mem_cons, List.not_mem_nil, or_false] at hs; subst hs; exact hl) (by rw [cat1]; omega)) rfl rfl rfl rfl (by rintro _ _ ⟨_, _, _, _, _, rfl⟩; rfl)) rfl (by rintro _ _ ⟨_, ⟨Hc, pc, cc, rfl, hOc, rfl⟩, rfl⟩; repeat (first | exact .nil | refine .cons rfl ?_)) ?_
        rintro _ _ ⟨_, ⟨Hc, pc, cc, rfl, hOc, rfl⟩, rfl⟩
        rw [cat1] at hOc ⊢
        refine DL.one rfl (Eff.call ent65 [118, 1] [118, 1, 153] (.cons rfl .nil) (concat_ct [(x.po, x.co, x.o), (x.pn, x.cn, x.n)] _ H1 _ _ (Own.mk (e := 22) (n := 1) (c := 2) [] (by intro r hr; simp only [List.map_cons, List.map_nil, List.mem_cons, List.not_mem_nil, or_false] at hr; rcases hr with rfl | rfl <;> exact ⟨rfl, by simp [SV, Value.oneCell']⟩) (by simp) (by simp [maxLen]) (by rfl) (by rfl)).sl (by intro s hs; simp only [List.mem_cons, List.not_mem_nil, or_false] at hs; rcases hs with rfl | rfl; exact ho; exact hn) (by rw [cat2]; simp; omega)) rfl rfl rfl rfl (by rintro _ _ ⟨_, _, _, _, _, rfl⟩; rfl)) rfl (by rintro _ _ ⟨_, ⟨Hd, pd, cd, rfl, hOd, rfl⟩, rfl⟩; repeat (first | exact .nil | refine .cons rfl ?_)) ?_
        rintro _ _ ⟨_, ⟨Hd, pd, cd, rfl, hOd, rfl⟩, rfl⟩
        rw [cat2] at hOd ⊢
        refine DL.one rfl (Eff.call ent39 [152, 153] [152, 153, 154] (.cons rfl (.cons rfl .nil)) (cminus_ct (setL l) _ _ _ hOc.sl (x.o ++ x.n) _ _ _ hOd.sl (by omega)) rfl rfl rfl rfl (by rintro _ _ ⟨_, _, _, _, _, rfl⟩; rfl)) rfl (by rintro _ _ ⟨_, ⟨He, pe, ce, rfl, hOe, rfl⟩, rfl⟩; repeat (first | exact .nil | refine .cons rfl ?_)) ?_
        rintro _ _ ⟨_, ⟨He, pe, ce, rfl, hOe, rfl⟩, rfl⟩
        refine DL.q rfl (Yld.buildP lay25 (.cons rfl rfl (.cons rfl rfl (.cons rfl rfl .nil))) rfl) rfl ?_
        refine DL.one0 rfl (Eff.storeS (c := 104) _ sz25 rfl rfl rfl rfl rfl rfl rfl (by (try simp only [putAt, List.take, List.drop, List.nil_append, List.cons_append, List.append_nil, List.length_cons, List.length_nil, Nat.add_zero, Nat.zero_add, Nat.reduceAdd]); rfl)) (by rintro _ _ rfl; repeat (first | exact .nil | refine .cons rfl ?_)) ?_
        rintro _ _ rfl
        refine DL.done ?_
        refine N.next ?_
        refine W.keep (.cons (k := 4) rfl .nil) (.cons (k := 0) rfl (.cons (k := 1) rfl (.cons (k := 2) rfl (.cons (k := 102) rfl (.cons (k := 104) rfl (.cons (k := 112) rfl (.cons (k := 118) rfl (.cons (k := 150) rfl (.cons (k := 151) rfl (.cons (k := 152) rfl (.cons (k := 153) rfl (.cons (k := 154) rfl .nil)))))))))))) ?_
        refine W.ret ?_
        refine N.merge 150 151 rfl rfl rfl fun ha1 => ?_
        refine N.merge 150 154 rfl rfl rfl fun ha2 => ?_
        exact N.retBy [1, 2, 150] (.cons (by first | exact .cell (c := 104) rfl rfl (fun w hs => run_loadVarA Tryz.underlying25 rfl sz25 rfl (fun j u hj => by rw [Nat.zero_add, PH.sub.cell hs (by first | exact single_self _ _ | exact pset_self _ _ _ | assumption)]; exact hj))) .nil) rfl rfl rfl rfl ⟨⟨x.o, x.n, minusL (setL l) (x.o ++ x.n), pa, ca, pb, cb, pe, ce⟩, _, rfl, ⟨(hOa.sl.mono hjoin_l).mono hjoin_l, (hOb.sl.mono ha1).mono hjoin_l, hOe.sl.mono ha2⟩, rfl, rfl, rfl, rfl⟩
      ·
        refine DL.one rfl (Eff.buildSlice 112 Tryz.underlying63 sz22 zc22 rfl rfl (.cons rfl rfl .nil) rfl) rfl (by rintro _ _ ⟨b12, rfl, rfl⟩; repeat (first | exact .nil | refine .cons rfl ?_)) ?_
        rintro _ _ ⟨b12, rfl, rfl⟩
        refine DL.one rfl (Eff.call ent41 [1] [1, 151] (.cons rfl .nil) (cloneI_ct x.n _ _ _ hn (by omega)) rfl rfl rfl rfl (by rintro _ _ ⟨_, _, _, _, _, rfl⟩; rfl)) rfl (by rintro _ _ ⟨_, ⟨Hb, pb, cb, rfl, hOb, rfl⟩, rfl⟩; repeat (first | exact .nil | refine .cons rfl ?_)) ?_
        rintro _ _ ⟨_, ⟨Hb, pb, cb, rfl, hOb, rfl⟩, rfl⟩
        refine DL.one rfl (Eff.call ent38 [112, 2] [112, 2, 152] (.cons rfl .nil) (cset_ct [(q, d, l)] _ H3 _ _ (Own.mk (e := 22) (n := 1) (c := 1) [] (by intro r hr; simp only [List.map_cons, List.map_nil, List.mem_cons, List.not_mem_nil, or_false] at hr; rcases hr with rfl <;> exact ⟨rfl, by simp [SV, Value.oneCell']⟩) (by simp) (by simp [maxLen]) (by rfl) (by rfl)).sl (by intro s hs; simp only [List.mem_cons, List.not_mem_nil, or_false] at hs; subst hs; exact hl) (by rw [cat1]; omega)) rfl rfl rfl rfl (by rintro _ _ ⟨_, _, _, _, _, rfl⟩; rfl)) rfl (by rintro _ _ ⟨_, ⟨Hc, pc, cc, rfl, hOc, rfl⟩, rfl⟩; repeat (first | exact .nil | refine .cons rfl ?_)) ?_
        rintro _ _ ⟨_, ⟨Hc, pc, cc, rfl, hOc, rfl⟩, rfl⟩
        rw [cat1] at hOc ⊢
        refine DL.one rfl (Eff.call ent65 [118, 1] [118, 1, 153] (.cons rfl .nil) (concat_ct [(x.po, x.co, x.o), (x.pn, x.cn, x.n)] _ H1 _ _ (Own.mk (e := 22) (n := 1) (c := 2) [] (by intro r hr; simp only [List.map_cons, List.map_nil, List.mem_cons, List.not_mem_nil, or_false] at hr; rcases hr with rfl | rfl <;> exact ⟨rfl, by simp [SV, Value.oneCell']⟩) (by simp) (by simp [maxLen]) (by rfl) (by rfl)).sl (by intro s hs; simp only [List.mem_cons, List.not_mem_nil, or_false] at hs; rcases hs with rfl | rfl; exact ho; exact hn) (by rw [cat2]; simp; omega)) rfl rfl rfl rfl (by rintro _ _ ⟨_, _, _, _, _, rfl⟩; rfl)) rfl (by rintro _ _ ⟨_, ⟨Hd, pd, cd, rfl, hOd, rfl⟩, rfl⟩; repeat (first | exact .nil | refine .cons rfl ?_)) ?_
        rintro _ _ ⟨_, ⟨Hd, pd, cd, rfl, hOd, rfl⟩, rfl⟩
        rw [cat2] at hOd ⊢
        refine DL.one rfl (Eff.call ent39 [152, 153] [152, 153, 154] (.cons rfl (.cons rfl .nil)) (cminus_ct (setL l) _ _ _ hOc.sl (x.o ++ x.n) _ _ _ hOd.sl (by omega)) rfl rfl rfl rfl (by rintro _ _ ⟨_, _, _, _, _, rfl⟩; rfl)) rfl (by rintro _ _ ⟨_, ⟨He, pe, ce, rfl, hOe, rfl⟩, rfl⟩; repeat (first | exact .nil | refine .cons rfl ?_)) ?_
        rintro _ _ ⟨_, ⟨He, pe, ce, rfl, hOe, rfl⟩, rfl⟩
        refine DL.q rfl (Yld.buildP lay25 (.cons rfl rfl (.cons rfl rfl (.cons rfl rfl .nil))) rfl) rfl ?_
        refine DL.one0 rfl (Eff.storeS (c := 104) _ sz25 rfl rfl rfl rfl rfl rfl rfl (by (try simp only [putAt, List.take, List.drop, List.nil_append, List.cons_append, List.append_nil, List.length_cons, List.length_nil, Nat.add_zero, Nat.zero_add, Nat.reduceAdd]); rfl)) (by rintro _ _ rfl; repeat (first | exact .nil | refine .cons rfl ?_)) ?_
        rintro _ _ rfl
        refine DL.done ?_
        refine N.next ?_
        refine W.keep (.cons (k := 4) rfl .nil) (.cons (k := 0) rfl (.cons (k := 1) rfl (.cons (k := 2) rfl (.cons (k := 102) rfl (.cons (k := 104) rfl (.cons (k := 112) rfl (.cons (k := 118) rfl (.cons (k := 150) rfl (.cons (k := 151) rfl (.cons (k := 152) rfl (.cons (k := 153) rfl (.cons (k := 154) rfl .nil)))))))))))) ?_
        refine W.ret ?_
        refine N.merge 150 151 rfl rfl rfl fun ha1 => ?_
        refine N.merge 150 154 rfl rfl rfl fun ha2 => ?_
        exact N.retBy [1, 2, 150] (.cons (by first | exact .cell (c := 104) rfl rfl (fun w hs => run_loadVarA Tryz.underlying25 rfl sz25 rfl (fun j u hj => by rw [Nat.zero_add, PH.sub.cell hs (by first | exact single_self _ _ | exact pset_self _ _ _ | assumption)]; exact hj))) .nil) rfl rfl rfl rfl ⟨⟨x.o, x.n, minusL (setL l) (x.o ++ x.n), pa, ca, pb, cb, pe, ce⟩, _, rfl, ⟨(hOa.sl.mono hjoin_l).mono hjoin_l, (hOb.sl.mono ha1).mono hjoin_l, hOe.sl.mono ha2⟩, rfl, rfl, rfl, rfl⟩
    ·
      refine DL.one rfl (Eff.buildSlice 112 Tryz.underlying63 sz22 zc22 rfl rfl (.cons rfl rfl .nil) rfl) rfl (by rintro _ _ ⟨b12, rfl, rfl⟩; repeat (first | exact .nil | refine .cons rfl ?_)) ?_
      rintro _ _ ⟨b12, rfl, rfl⟩
      refine DL.one rfl (Eff.call ent41 [1] [1, 150] (.cons rfl .nil) (cloneI_ct x.o _ _ _ ho (by omega)) rfl rfl rfl rfl (by rintro _ _ ⟨_, _, _, _, _, rfl⟩; rfl)) rfl (by rintro _ _ ⟨_, ⟨Ha, pa, ca, rfl, hOa, rfl⟩, rfl⟩; repeat (first | exact .nil | refine .cons rfl ?_)) ?_
      rintro _ _ ⟨_, ⟨Ha, pa, ca, rfl, hOa, rfl⟩, rfl⟩
      refine DL.one rfl (Eff.call ent41 [1] [1, 151] (.cons rfl .nil) (cloneI_ct x.n _ _ _ hn (by omega)) rfl rfl rfl rfl (by rintro _ _ ⟨_, _, _, _, _, rfl⟩; rfl)) rfl (by rintro _ _ ⟨_, ⟨Hb, pb, cb, rfl, hOb, rfl⟩, rfl⟩; repeat (first | exact .nil | refine .cons rfl ?_)) ?_
      rintro _ _ ⟨_, ⟨Hb, pb, cb, rfl, hOb, rfl⟩, rfl⟩
      refine DL.one rfl (Eff.call ent38 [112, 2] [112, 2, 152] (.cons rfl .nil) (cset_ct [(q, d, l)] _ H3 _ _ (Own.mk (e := 22) (n := 1) (c := 1) [] (by intro r hr; simp only [List.map_cons, List.map_nil, List.mem_cons, List.not_mem_nil, or_false] at hr; rcases hr with rfl <;> exact ⟨rfl, by simp [SV, Value.oneCell']⟩) (by simp) (by simp [maxLen]) (by rfl) (by rfl)).sl (by intro s hs; simp only [List.mem_cons, List.not_mem_nil, or_false] at hs; subst hs; exact hl) (by rw [cat1]; omega)) rfl rfl rfl rfl (by rintro _ _ ⟨_, _, _, _, _, rfl⟩; rfl)) rfl (by rintro _ _ ⟨_, ⟨Hc, pc, cc, rfl, hOc, rfl⟩, rfl⟩; repeat (first | exact .nil | refine .cons rfl ?_)) ?_
      rintro _ _ ⟨_, ⟨Hc, pc, cc, rfl, hOc, rfl⟩, rfl⟩
      rw [cat1] at hOc ⊢
      refine DL.one rfl (Eff.call ent65 [118, 1] [118, 1, 153] (.cons rfl .nil) (concat_ct [(x.po, x.co, x.o), (x.pn, x.cn, x.n)] _ H1 _ _ (Own.mk (e := 22) (n := 1) (c := 2) [] (by intro r hr; simp only [List.map_cons, List.map_nil, List.mem_cons, List.not_mem_nil, or_false] at hr; rcases hr with rfl | rfl <;> exact ⟨rfl, by simp [SV, Value.oneCell']⟩) (by simp) (by simp [maxLen]) (by rfl) (by rfl)).sl (by intro s hs; simp only [List.mem_cons, List.not_mem_nil, or_false] at hs; rcases hs with rfl | rfl; exact ho; exact hn) (by rw [cat2]; simp; omega)) rfl rfl rfl rfl (by rintro _ _ ⟨_, _, _, _, _, rfl⟩; rfl)) rfl (by rintro _ _ ⟨_, ⟨Hd, pd, cd, rfl, hOd, rfl⟩, rfl⟩; repeat (first | exact .nil | refine .cons rfl ?_)) ?_
      rintro _ _ ⟨_, ⟨Hd, pd, cd, rfl, hOd, rfl⟩, rfl⟩
      rw [cat2] at hOd ⊢
      refine DL.one rfl (Eff.call ent39 [152, 153] [152, 153, 154] (.cons rfl (.cons rfl .nil)) (cminus_ct (setL l) _ _ _ hOc.sl (x.o ++ x.n) _ _ _ hOd.sl (by omega)) rfl rfl rfl rfl (by rintro _ _ ⟨_, _, _, _, _, rfl⟩; rfl)) rfl (by rintro _ _ ⟨_, ⟨He, pe, ce, rfl, hOe, rfl⟩, rfl⟩; repeat (first | exact .nil | refine .cons rfl ?_)) ?_
      rintro _ _ ⟨_, ⟨He, pe, ce, rfl, hOe, rfl⟩, rfl⟩
      refine DL.q rfl (Yld.buildP lay25 (.cons rfl rfl (.cons rfl rfl (.cons rfl rfl .nil))) rfl) rfl ?_
      refine DL.one0 rfl (Eff.storeS (c := 104) _ sz25 rfl rfl rfl rfl rfl rfl rfl (by (try simp only [putAt, List.take, List.drop, List.nil_append, List.cons_append, List.append_nil, List.length_cons, List.length_nil, Nat.add_zero, Nat.zero_add, Nat.reduceAdd]); rfl)) (by rintro _ _ rfl; repeat (first | exact .nil | refine .cons rfl ?_)) ?_
      rintro _ _ rfl
      refine DL.done ?_
      refine N.next ?_
      refine W.keep (.cons (k := 4) rfl .nil) (.cons (k := 0) rfl (.cons (k := 1) rfl (.cons (k := 2) rfl (.cons (k := 102) rfl (.cons (k := 104) rfl (.cons (k := 112) rfl (.cons (k := 118) rfl (.cons (k := 150) rfl (.cons (k := 151) rfl (.cons (k := 152) rfl (.cons (k := 153) rfl (.cons (k := 154) rfl .nil)))))))))))) ?_
      refine W.ret ?_
      refine N.merge 150 151 rfl rfl rfl fun ha1 => ?_
      refine N.merge 150 154 rfl rfl rfl fun ha2 => ?_
      exact N.retBy [1, 2, 150] (.cons (by first | exact .cell (c := 104) rfl rfl (fun w hs => run_loadVarA Tryz.underlying25 rfl sz25 rfl (fun j u hj => by rw [Nat.zero_add, PH.sub.cell hs (by first | exact single_self _ _ | exact pset_self _ _ _ | assumption)]; exact hj))) .nil) rfl rfl rfl rfl ⟨⟨x.o, x.n, minusL (setL l) (x.o ++ x.n), pa, ca, pb, cb, pe, ce⟩, _, rfl, ⟨(hOa.sl.mono hjoin_l).mono hjoin_l, (hOb.sl.mono ha1).mono hjoin_l, hOe.sl.mono ha2⟩, rfl, rfl, rfl, rfl⟩

def Memb.nextG (g : Gl) (z : Cf) : Option Gl :=
  if z.Ok then (if 0 < z.n.length then some ⟨z.n, [], z.l⟩ else if g.o.length = 0 then none else if g.o ≠ z.o then some ⟨z.o, setL g.o, minusL z.l (setL g.o)⟩ else if g.n ≠ z.l then some ⟨z.o, z.n, minusL (setL g.n) (z.o ++ z.n)⟩ else none) else none
section
variable {g : Gl} {z : Cf}
theorem Memb.nx0 (h : ¬ z.Ok) : nextG g z = none := if_neg h
theorem Memb.nx1 (h : z.Ok) (h1 : 0 < z.n.length) : nextG g z = some ⟨z.n, [], z.l⟩ := by unfold nextG; rw [if_pos h, if_pos h1]
theorem Memb.nx2 (h : z.Ok) (h1 : ¬ 0 < z.n.length) (h2 : g.o.length = 0) : nextG g z = none := by unfold nextG; rw [if_pos h, if_neg h1, if_pos h2]
theorem Memb.nx3 (h : z.Ok) (h1 : ¬ 0 < z.n.length) (h2 : ¬ g.o.length = 0) (h3 : g.o ≠ z.o) : nextG g z = some ⟨z.o, setL g.o, minusL z.l (setL g.o)⟩ := by unfold nextG; rw [if_pos h, if_neg h1, if_neg h2, if_pos h3]
theorem Memb.nx4 (h : z.Ok) (h1 : ¬ 0 < z.n.length) (h2 : ¬ g.o.length = 0) (h3 : ¬ g.o ≠ z.o) (h4 : g.n ≠ z.l) : nextG g z = some ⟨z.o, z.n, minusL (setL g.n) (z.o ++ z.n)⟩ := by unfold nextG; rw [if_pos h, if_neg h1, if_neg h2, if_neg h3, if_pos h4]
theorem Memb.nx5 (h : z.Ok) (h1 : ¬ 0 < z.n.length) (h2 : ¬ g.o.length = 0) (h3 : ¬ g.o ≠ z.o) (h4 : ¬ g.n ≠ z.l) : nextG g z = none := by unfold nextG; rw [if_pos h, if_neg h1, if_neg h2, if_neg h3, if_neg h4]
end

set_option maxRecDepth 100000 in
set_option maxHeartbeats 3200000 in
theorem mnext_ct (b : Nat) (x : Cf) (G : PH) (hx : x.In G) (hbo : x.o.length ≤ 1000) (hbn : x.n.length ≤ 1000) (z : Cf) (H1 : PH) (hz : z.In H1) (hzo : z.o.length ≤ 1000) (hzn : z.n.length ≤ 1000) (hzl : z.l.length ≤ 1000) : Ct Tryz.prog 10 [.pointer (some ⟨b, 0, none⟩), .agg [.slice z.po z.o.length z.co, .slice z.pn z.n.length z.cn, .slice z.pl z.l.length z.cl].toArray] [single b (.cells [.slice x.po x.o.length x.co, .slice x.pn x.n.length x.cn, .slice x.pl x.l.length x.cl].toArray 60 (0, 0)), G, H1] (fun v Hs => ∃ (y : Cf) (H' : PH), v = .tuple [.agg [.slice y.po y.o.length y.co, .slice y.pn y.n.length y.cn, .slice y.pl y.l.length y.cl].toArray, .bool (nextG (gl x) z).isSome].toArray ∧ y.In H' ∧ gl y = (nextG (gl x) z).getD ⟨[], [], []⟩ ∧ Hs = [single b (.cells [.slice x.po x.o.length x.co, .slice x.pn x.n.length x.cn, .slice x.pl x.l.length x.cl].toArray 60 (0, 0)), G, H1, H']) := by
  refine Ct.body Tryz.func10 rfl Tryz.ntmps10 rfl ?_
  intro E F
  obtain ⟨hxo, hxn, hxl⟩ := hx
  have hzz := hz
  obtain ⟨hz1, hz2, hz3⟩ := hzz
  refine W.seq ?_
  refine W.imp (Imp.empty _ 160) ?_
  refine W.region ?_
  refine RL.e (Eff.box 103 _ rfl rfl) rfl ?_
  rintro _ _ ⟨b3, rfl, rfl⟩
  refine RL.e (Eff.alloc 104 zc25) rfl ?_
  rintro _ _ ⟨b4, rfl, rfl⟩
  refine RL.q (Yld.assign rfl) rfl ?_
  refine RL.nil ?_
  refine N.next ?_
  refine W.seq ?_
  refine W.block ?_
  refine W.seq ?_
  refine W.region ?_
  refine RL.q (Yld.loadW (c := 103) Tryz.underlying25 rfl sz25 rfl rfl (by first | exact single_self _ _ | exact pset_self _ _ _ | assumption) rfl) rfl ?_
  refine RL.e (Eff.call ent13 [3] [3] (.cons rfl .nil) (cvalid_ct z H1 hz (by omega) (by omega) (by omega)) rfl rfl rfl rfl (by rintro _ _ ⟨_, rfl⟩; rfl)) rfl ?_
  rintro _ _ ⟨_, ⟨rfl, rfl⟩, rfl⟩
  refine RL.q (by first | exact Yld.notD rfl | exact Yld.not rfl) rfl ?_
  refine RL.q (Yld.assign rfl) rfl ?_
  refine RL.nil ?_
  refine N.next ?_
  refine W.keep (.cons (k := 0) rfl (.cons (k := 3) rfl (.cons (k := 4) rfl (.cons (k := 6) rfl .nil)))) (.cons (k := 0) rfl (.cons (k := 1) rfl (.cons (k := 2) rfl (.cons (k := 3) rfl (.cons (k := 103) rfl (.cons (k := 104) rfl (.cons (k := 160) rfl .nil))))))) ?_
  first | refine W.condD rfl (fun hc6 => ?_) (fun hc6 => ?_) | (refine W.cond rfl (fun hc6 => ?_) (fun hc6 => ?_) <;> try simp only [Bool.or_eq_true, Bool.and_eq_true, Bool.not_eq_true', Bool.not_eq_false', decide_eq_true_eq, Bool.or_eq_false_iff, Bool.and_eq_false_iff, decide_eq_false_iff_not, beq_iff_eq, beq_eq_false_iff_ne, ne_eq, Decidable.not_not] at hc6)
  ·
    have hok : ¬ z.Ok := hc6
    refine W.seq ?_
    refine W.region ?_
    refine RL.q (Yld.buildP lay25 .nil rfl) rfl ?_
    refine RL.e0 (Eff.storeS (c := 104) _ sz25 rfl rfl rfl rfl rfl rfl rfl (by (try simp only [putAt, List.take, List.drop, List.nil_append, List.cons_append, List.append_nil, List.length_cons, List.length_nil, Nat.add_zero, Nat.zero_add, Nat.reduceAdd]); rfl)) ?_
    rintro _ _ rfl
    refine RL.q (Yld.assign rfl) rfl ?_
    refine RL.nil ?_
    refine N.next ?_
    refine W.keep (.cons (k := 4) rfl (.cons (k := 5) rfl .nil)) (.cons (k := 0) rfl (.cons (k := 1) rfl (.cons (k := 2) rfl (.cons (k := 3) rfl (.cons (k := 103) rfl (.cons (k := 104) rfl (.cons (k := 160) rfl .nil))))))) ?_
    refine W.ret ?_
    refine N.block_ret ?_
    refine N.then_ret ?_
    exact N.retBy [1, 2, 3, 160] (.cons (by first | exact .cell (c := 104) rfl rfl (fun w hs => run_loadVarA Tryz.underlying25 rfl sz25 rfl (fun j u hj => by rw [Nat.zero_add, PH.sub.cell hs (by first | exact single_self _ _ | exact pset_self _ _ _ | assumption)]; exact hj))) (.cons (.tmp rfl) .nil)) rfl rfl rfl rfl ⟨⟨[], [], [], none, 0, none, 0, none, 0⟩, emp, by rw [nx0 hok]; rfl, ⟨⟨rfl, rfl⟩, ⟨rfl, rfl⟩, ⟨rfl, rfl⟩⟩, by rw [nx0 hok]; rfl, rfl⟩
  ·
    have hok : z.Ok := Decidable.not_not.1 hc6
    refine W.seq ?_
    refine W.region ?_
    refine RL.q (Yld.fieldAddr fo25_1 rfl) rfl ?_
    refine RL.q (Yld.load1 (c := 103) Tryz.underlying22 rfl rfl rfl (by first | exact single_self _ _ | exact pset_self _ _ _ | assumption) rfl) rfl ?_
    refine RL.q (Yld.lenSl Tryz.underlying22 rfl) rfl ?_
    refine RL.q (Yld.bin rfl rfl BinV.gtr) rfl ?_
    refine RL.q (Yld.assign rfl) rfl ?_
    refine RL.nil ?_
    refine N.next ?_
    refine W.keep (.cons (k := 0) rfl (.cons (k := 3) rfl (.cons (k := 4) rfl (.cons (k := 11) rfl .nil)))) (.cons (k := 0) rfl (.cons (k := 1) rfl (.cons (k := 2) rfl (.cons (k := 3) rfl (.cons (k := 103) rfl (.cons (k := 104) rfl (.cons (k := 160) rfl .nil))))))) ?_
    first | refine W.condD rfl (fun hc11 => ?_) (fun hc11 => ?_) | (refine W.cond rfl (fun hc11 => ?_) (fun hc11 => ?_) <;> try simp only [Bool.or_eq_true, Bool.and_eq_true, Bool.not_eq_true', Bool.not_eq_false', decide_eq_true_eq, Bool.or_eq_false_iff, Bool.and_eq_false_iff, decide_eq_false_iff_not, beq_iff_eq, beq_eq_false_iff_ne, ne_eq, Decidable.not_not] at hc11)
    ·
      have h1 : 0 < z.n.length := by omega
      refine W.seq ?_
      refine W.region ?_
      refine RL.q (Yld.loadW (c := 103) Tryz.underlying25 rfl sz25 rfl rfl (by first | exact single_self _ _ | exact pset_self _ _ _ | assumption) rfl) rfl ?_
      refine RL.e (Eff.call ent30 [3] [3, 160] (.cons rfl .nil) (cfinal_ct z H1 hz (by omega) (by omega) (by omega)) rfl rfl rfl rfl (by rintro _ _ ⟨_, _, _, _, _, _, _, rfl⟩; rfl)) rfl ?_
      rintro _ _ ⟨_, ⟨y, Hf, rfl, hy, y1, y2, y3, rfl⟩, rfl⟩
      refine RL.e0 (Eff.storeS (c := 104) _ sz25 rfl rfl rfl rfl rfl rfl rfl (by (try simp only [putAt, List.take, List.drop, List.nil_append, List.cons_append, List.append_nil, List.length_cons, List.length_nil, Nat.add_zero, Nat.zero_add, Nat.reduceAdd]); rfl)) ?_
      rintro _ _ rfl
      refine RL.q (Yld.assign rfl) rfl ?_
      refine RL.nil ?_
      refine N.next ?_
      refine W.keep (.cons (k := 4) rfl (.cons (k := 5) rfl .nil)) (.cons (k := 0) rfl (.cons (k := 1) rfl (.cons (k := 2) rfl (.cons (k := 3) rfl (.cons (k := 103) rfl (.cons (k := 104) rfl (.cons (k := 160) rfl .nil))))))) ?_
      refine W.ret ?_
      refine N.block_ret ?_
      refine N.then_ret ?_
      exact N.retBy [1, 2, 3, 160] (.cons (by first | exact .cell (c := 104) rfl rfl (fun w hs => run_loadVarA Tryz.underlying25 rfl sz25 rfl (fun j u hj => by rw [Nat.zero_add, PH.sub.cell hs (by first | exact single_self _ _ | exact pset_self _ _ _ | assumption)]; exact hj))) (.cons (.tmp rfl) .nil)) rfl rfl rfl rfl ⟨y, Hf, by rw [nx1 hok h1]; rfl, hy, by rw [nx1 hok h1]; show Gl.mk y.o y.n y.l = _; rw [y1, y2, y3, if_neg (by omega)]; rfl, rfl⟩
    ·
      have h1 : ¬ 0 < z.n.length := by omega
      refine W.seq ?_
      refine W.region ?_
      refine RL.q (Yld.move rfl) rfl ?_
      refine RL.q (Yld.nilP rfl) rfl ?_
      refine RL.q (Yld.fieldAddr fo60_0 rfl) rfl ?_
      refine RL.q (Yld.load1 (c := 1) Tryz.underlying22 rfl rfl rfl (by first | exact single_self _ _ | exact pset_self _ _ _ | assumption) rfl) rfl ?_
      refine RL.q (Yld.lenSl Tryz.underlying22 rfl) rfl ?_
      refine RL.q (Yld.bin rfl rfl BinV.eql) rfl ?_
      refine RL.q (Yld.assign rfl) rfl ?_
      refine RL.nil ?_
      refine N.next ?_
      refine W.keep (.cons (k := 0) rfl (.cons (k := 3) rfl (.cons (k := 4) rfl (.cons (k := 18) rfl .nil)))) (.cons (k := 0) rfl (.cons (k := 1) rfl (.cons (k := 2) rfl (.cons (k := 3) rfl (.cons (k := 103) rfl (.cons (k := 104) rfl (.cons (k := 160) rfl .nil))))))) ?_
      first | refine W.condD rfl (fun hc18 => ?_) (fun hc18 => ?_) | (refine W.cond rfl (fun hc18 => ?_) (fun hc18 => ?_) <;> try simp only [Bool.or_eq_true, Bool.and_eq_true, Bool.not_eq_true', Bool.not_eq_false', decide_eq_true_eq, Bool.or_eq_false_iff, Bool.and_eq_false_iff, decide_eq_false_iff_not, beq_iff_eq, beq_eq_false_iff_ne, ne_eq, Decidable.not_not] at hc18)
      ·
        have h2 : (gl x).o.length = 0 := by show x.o.length = 0; omega
        refine W.seq ?_
        refine W.region ?_
        refine RL.q (Yld.buildP lay25 .nil rfl) rfl ?_
        refine RL.e0 (Eff.storeS (c := 104) _ sz25 rfl rfl rfl rfl rfl rfl rfl (by (try simp only [putAt, List.take, List.drop, List.nil_append, List.cons_append, List.append_nil, List.length_cons, List.length_nil, Nat.add_zero, Nat.zero_add, Nat.reduceAdd]); rfl)) ?_
        rintro _ _ rfl
        refine RL.q (Yld.assign rfl) rfl ?_
        refine RL.nil ?_
        refine N.next ?_
        refine W.keep (.cons (k := 4) rfl (.cons (k := 5) rfl .nil)) (.cons (k := 0) rfl (.cons (k := 1) rfl (.cons (k := 2) rfl (.cons (k := 3) rfl (.cons (k := 103) rfl (.cons (k := 104) rfl (.cons (k := 160) rfl .nil))))))) ?_
        refine W.ret ?_
        refine N.block_ret ?_
        refine N.then_ret ?_
        exact N.retBy [1, 2, 3, 160] (.cons (by first | exact .cell (c := 104) rfl rfl (fun w hs => run_loadVarA Tryz.underlying25 rfl sz25 rfl (fun j u hj => by rw [Nat.zero_add, PH.sub.cell hs (by first | exact single_self _ _ | exact pset_self _ _ _ | assumption)]; exact hj))) (.cons (.tmp rfl) .nil)) rfl rfl rfl rfl ⟨⟨[], [], [], none, 0, none, 0, none, 0⟩, emp, by rw [nx2 hok h1 h2]; rfl, ⟨⟨rfl, rfl⟩, ⟨rfl, rfl⟩, ⟨rfl, rfl⟩⟩, by rw [nx2 hok h1 h2]; rfl, rfl⟩
      ·
        have h2 : ¬ (gl x).o.length = 0 := by show ¬ x.o.length = 0; omega
        refine W.seq ?_
        refine W.draw (.q 0 (.q 1 (.q 2 (.q 3 (.q 4 (.q 5 (.one 6 (.q 7 (.q 8 .done))))))))) (.cons (k := 0) rfl (.cons (k := 1) rfl (.cons (k := 2) rfl (.cons (k := 3) rfl (.cons (k := 103) rfl (.cons (k := 104) rfl (.cons (k := 160) rfl .nil))))))) mix (by kernel_rfl) (by kernel_rfl) ?_
        refine DL.q rfl (Yld.move rfl) rfl ?_
        refine DL.q rfl (Yld.nilP rfl) rfl ?_
        refine DL.q rfl (Yld.fieldAddr fo60_0 rfl) rfl ?_
        refine DL.q rfl (Yld.load1 (c := 1) Tryz.underlying22 rfl rfl rfl (by first | exact single_self _ _ | exact pset_self _ _ _ | assumption) rfl) rfl ?_
        refine DL.q rfl (Yld.fieldAddr fo25_0 rfl) rfl ?_
        refine DL.q rfl (Yld.load1 (c := 103) Tryz.underlying22 rfl rfl rfl (by first | exact single_self _ _ | exact pset_self _ _ _ | assumption) rfl) rfl ?_
        refine DL.one rfl (Eff.call ent31 [2, 3] [2, 3] (.cons rfl (.cons rfl .nil)) (equal_ct x.o _ _ _ hxo z.o _ _ _ hz1) rfl rfl rfl rfl (by rintro _ _ ⟨_, rfl⟩; rfl)) rfl (by rintro _ _ ⟨_, ⟨rfl, rfl⟩, rfl⟩; repeat (first | exact .nil | refine .cons rfl ?_)) ?_
        rintro _ _ ⟨_, ⟨rfl, rfl⟩, rfl⟩
        refine DL.q rfl (by first | exact Yld.notD rfl | exact Yld.not rfl) rfl ?_
        refine DL.q rfl (Yld.assign rfl) rfl ?_
        refine DL.done ?_
        refine N.next ?_
        refine W.keep (.cons (k := 0) rfl (.cons (k := 3) rfl (.cons (k := 4) rfl (.cons (k := 26) rfl .nil)))) (.cons (k := 0) rfl (.cons (k := 1) rfl (.cons (k := 2) rfl (.cons (k := 3) rfl (.cons (k := 103) rfl (.cons (k := 104) rfl (.cons (k := 160) rfl .nil))))))) ?_
        first | refine W.condD rfl (fun hc26 => ?_) (fun hc26 => ?_) | (refine W.cond rfl (fun hc26 => ?_) (fun hc26 => ?_) <;> try simp only [Bool.or_eq_true, Bool.and_eq_true, Bool.not_eq_true', Bool.not_eq_false', decide_eq_true_eq, Bool.or_eq_false_iff, Bool.and_eq_false_iff, decide_eq_false_iff_not, beq_iff_eq, beq_eq_false_iff_ne, ne_eq, Decidable.not_not] at hc26)
        ·
          have h3 : (gl x).o ≠ z.o := hc26
          refine W.seq ?_
          refine W.draw (.q 0 (.q 1 (.q 2 (.q 3 (.q 4 (.one 5 (.one 6 (.q 7 .done)))))))) (.cons (k := 0) rfl (.cons (k := 1) rfl (.cons (k := 2) rfl (.cons (k := 3) rfl (.cons (k := 103) rfl .nil))))) mix (by kernel_rfl) (by kernel_rfl) ?_
          refine DL.q rfl (Yld.loadW (c := 103) Tryz.underlying25 rfl sz25 rfl rfl (by first | exact single_self _ _ | exact pset_self _ _ _ | assumption) rfl) rfl ?_
          refine DL.q rfl (Yld.move rfl) rfl ?_
          refine DL.q rfl (Yld.nilP rfl) rfl ?_
          refine DL.q rfl (Yld.fieldAddr fo60_0 rfl) rfl ?_
          refine DL.q rfl (Yld.load1 (c := 1) Tryz.underlying22 rfl rfl rfl (by first | exact single_self _ _ | exact pset_self _ _ _ | assumption) rfl) rfl ?_
          refine DL.one rfl (Eff.call ent32 [3, 2] [3, 2, 160] (.cons rfl (.cons rfl .nil)) (cjoint_ct z H1 hz (by omega) (by omega) (by omega) x.o _ _ _ hxo (by omega)) rfl rfl rfl rfl (by rintro _ _ ⟨_, _, _, _, _, _, _, rfl⟩; rfl)) rfl (by rintro _ _ ⟨_, ⟨y, Hf, rfl, hy, y1, y2, y3, rfl⟩, rfl⟩; repeat (first | exact .nil | refine .cons rfl ?_)) ?_
          rintro _ _ ⟨_, ⟨y, Hf, rfl, hy, y1, y2, y3, rfl⟩, rfl⟩
          refine DL.one0 rfl (Eff.storeS (c := 104) _ sz25 rfl rfl rfl rfl rfl rfl rfl (by (try simp only [putAt, List.take, List.drop, List.nil_append, List.cons_append, List.append_nil, List.length_cons, List.length_nil, Nat.add_zero, Nat.zero_add, Nat.reduceAdd]); rfl)) (by rintro _ _ rfl; repeat (first | exact .nil | refine .cons rfl ?_)) ?_
          rintro _ _ rfl
          refine DL.q rfl (Yld.assign rfl) rfl ?_
          refine DL.done ?_
          refine N.next ?_
          refine W.keep (.cons (k := 4) rfl (.cons (k := 5) rfl .nil)) (.cons (k := 0) rfl (.cons (k := 1) rfl (.cons (k := 2) rfl (.cons (k := 3) rfl (.cons (k := 103) rfl (.cons (k := 104) rfl (.cons (k := 160) rfl .nil))))))) ?_
          refine W.ret ?_
          refine N.block_ret ?_
          refine N.then_ret ?_
          exact N.retBy [1, 2, 3, 160] (.cons (by first | exact .cell (c := 104) rfl rfl (fun w hs => run_loadVarA Tryz.underlying25 rfl sz25 rfl (fun j u hj => by rw [Nat.zero_add, PH.sub.cell hs (by first | exact single_self _ _ | exact pset_self _ _ _ | assumption)]; exact hj))) (.cons (.tmp rfl) .nil)) rfl rfl rfl rfl ⟨y, Hf, by rw [nx3 hok h1 h2 h3]; rfl, hy, by rw [nx3 hok h1 h2 h3]; show Gl.mk y.o y.n y.l = _; rw [y1, y2, y3]; rfl, rfl⟩
        ·
          have h3 : ¬ (gl x).o ≠ z.o := hc26
          refine W.seq ?_
          refine W.draw (.q 0 (.q 1 (.q 2 (.q 3 (.q 4 (.q 5 (.one 6 (.q 7 (.q 8 .done))))))))) (.cons (k := 0) rfl (.cons (k := 1) rfl (.cons (k := 2) rfl (.cons (k := 3) rfl (.cons (k := 103) rfl (.cons (k := 104) rfl (.cons (k := 160) rfl .nil))))))) mix (by kernel_rfl) (by kernel_rfl) ?_
          refine DL.q rfl (Yld.move rfl) rfl ?_
          refine DL.q rfl (Yld.nilP rfl) rfl ?_
          refine DL.q rfl (Yld.fieldAddr fo60_1 rfl) rfl ?_
          refine DL.q rfl (Yld.load1 (c := 1) Tryz.underlying22 rfl rfl rfl (by first | exact single_self _ _ | exact pset_self _ _ _ | assumption) rfl) rfl ?_
          refine DL.q rfl (Yld.fieldAddr fo25_2 rfl) rfl ?_
          refine DL.q rfl (Yld.load1 (c := 103) Tryz.underlying22 rfl rfl rfl (by first | exact single_self _ _ | exact pset_self _ _ _ | assumption) rfl) rfl ?_
          refine DL.one rfl (Eff.call ent31 [2, 3] [2, 3] (.cons rfl (.cons rfl .nil)) (equal_ct x.n _ _ _ hxn z.l _ _ _ hz3) rfl rfl rfl rfl (by rintro _ _ ⟨_, rfl⟩; rfl)) rfl (by rintro _ _ ⟨_, ⟨rfl, rfl⟩, rfl⟩; repeat (first | exact .nil | refine .cons rfl ?_)) ?_
          rintro _ _ ⟨_, ⟨rfl, rfl⟩, rfl⟩
          refine DL.q rfl (by first | exact Yld.notD rfl | exact Yld.not rfl) rfl ?_
          refine DL.q rfl (Yld.assign rfl) rfl ?_
          refine DL.done ?_
          refine N.next ?_
          refine W.keep (.cons (k := 0) rfl (.cons (k := 3) rfl (.cons (k := 4) rfl (.cons (k := 41) rfl .nil)))) (.cons (k := 0) rfl (.cons (k := 1) rfl (.cons (k := 2) rfl (.cons (k := 3) rfl (.cons (k := 103) rfl (.cons (k := 104) rfl (.cons (k := 160) rfl .nil))))))) ?_
          first | refine W.condD rfl (fun hc41 => ?_) (fun hc41 => ?_) | (refine W.cond rfl (fun hc41 => ?_) (fun hc41 => ?_) <;> try simp only [Bool.or_eq_true, Bool.and_eq_true, Bool.not_eq_true', Bool.not_eq_false', decide_eq_true_eq, Bool.or_eq_false_iff, Bool.and_eq_false_iff, decide_eq_false_iff_not, beq_iff_eq, beq_eq_false_iff_ne, ne_eq, Decidable.not_not] at hc41)
          ·
            have h4 : (gl x).n ≠ z.l := hc41
            refine W.seq ?_
            refine W.draw (.q 0 (.q 1 (.q 2 (.q 3 (.q 4 (.one 5 (.one 6 (.q 7 .done)))))))) (.cons (k := 0) rfl (.cons (k := 1) rfl (.cons (k := 2) rfl (.cons (k := 3) rfl (.cons (k := 103) rfl .nil))))) mix (by kernel_rfl) (by kernel_rfl) ?_
            refine DL.q rfl (Yld.loadW (c := 103) Tryz.underlying25 rfl sz25 rfl rfl (by first | exact single_self _ _ | exact pset_self _ _ _ | assumption) rfl) rfl ?_
            refine DL.q rfl (Yld.move rfl) rfl ?_
            refine DL.q rfl (Yld.nilP rfl) rfl ?_
            refine DL.q rfl (Yld.fieldAddr fo60_1 rfl) rfl ?_
            refine DL.q rfl (Yld.load1 (c := 1) Tryz.underlying22 rfl rfl rfl (by first | exact single_self _ _ | exact pset_self _ _ _ | assumption) rfl) rfl ?_
            refine DL.one rfl (Eff.call ent33 [3, 2] [3, 2, 160] (.cons rfl (.cons rfl .nil)) (clearn_ct z H1 hz (by omega) (by omega) (by omega) x.n _ _ _ hxn (by omega)) rfl rfl rfl rfl (by rintro _ _ ⟨_, _, _, _, _, _, _, rfl⟩; rfl)) rfl (by rintro _ _ ⟨_, ⟨y, Hf, rfl, hy, y1, y2, y3, rfl⟩, rfl⟩; repeat (first | exact .nil | refine .cons rfl ?_)) ?_
            rintro _ _ ⟨_, ⟨y, Hf, rfl, hy, y1, y2, y3, rfl⟩, rfl⟩
            refine DL.one0 rfl (Eff.storeS (c := 104) _ sz25 rfl rfl rfl rfl rfl rfl rfl (by (try simp only [putAt, List.take, List.drop, List.nil_append, List.cons_append, List.append_nil, List.length_cons, List.length_nil, Nat.add_zero, Nat.zero_add, Nat.reduceAdd]); rfl)) (by rintro _ _ rfl; repeat (first | exact .nil | refine .cons rfl ?_)) ?_
            rintro _ _ rfl
            refine DL.q rfl (Yld.assign rfl) rfl ?_
            refine DL.done ?_
            refine N.next ?_
            refine W.keep (.cons (k := 4) rfl (.cons (k := 5) rfl .nil)) (.cons (k := 0) rfl (.cons (k := 1) rfl (.cons (k := 2) rfl (.cons (k := 3) rfl (.cons (k := 103) rfl (.cons (k := 104) rfl (.cons (k := 160) rfl .nil))))))) ?_
            refine W.ret ?_
            refine N.block_ret ?_
            refine N.then_ret ?_
            exact N.retBy [1, 2, 3, 160] (.cons (by first | exact .cell (c := 104) rfl rfl (fun w hs => run_loadVarA Tryz.underlying25 rfl sz25 rfl (fun j u hj => by rw [Nat.zero_add, PH.sub.cell hs (by first | exact single_self _ _ | exact pset_self _ _ _ | assumption)]; exact hj))) (.cons (.tmp rfl) .nil)) rfl rfl rfl rfl ⟨y, Hf, by rw [nx4 hok h1 h2 h3 h4]; rfl, hy, by rw [nx4 hok h1 h2 h3 h4]; show Gl.mk y.o y.n y.l = _; rw [y1, y2, y3]; rfl, rfl⟩
          ·
            have h4 : ¬ (gl x).n ≠ z.l := hc41
            refine W.skip ?_
            refine N.block_normal ?_
            refine N.next ?_
            refine W.seq ?_
            refine W.region ?_
            refine RL.q (Yld.buildP lay25 .nil rfl) rfl ?_
            refine RL.e0 (Eff.storeS (c := 104) _ sz25 rfl rfl rfl rfl rfl rfl rfl (by (try simp only [putAt, List.take, List.drop, List.nil_append, List.cons_append, List.append_nil, List.length_cons, List.length_nil, Nat.add_zero, Nat.zero_add, Nat.reduceAdd]); rfl)) ?_
            rintro _ _ rfl
            refine RL.q (Yld.assign rfl) rfl ?_
            refine RL.nil ?_
            refine N.next ?_
            refine W.keep (.cons (k := 4) rfl (.cons (k := 5) rfl .nil)) (.cons (k := 0) rfl (.cons (k := 1) rfl (.cons (k := 2) rfl (.cons (k := 3) rfl (.cons (k := 103) rfl (.cons (k := 104) rfl (.cons (k := 160) rfl .nil))))))) ?_
            refine W.ret ?_
            exact N.retBy [1, 2, 3, 160] (.cons (by first | exact .cell (c := 104) rfl rfl (fun w hs => run_loadVarA Tryz.underlying25 rfl sz25 rfl (fun j u hj => by rw [Nat.zero_add, PH.sub.cell hs (by first | exact single_self _ _ | exact pset_self _ _ _ | assumption)]; exact hj))) (.cons (.tmp rfl) .nil)) rfl rfl rfl rfl ⟨⟨[], [], [], none, 0, none, 0, none, 0⟩, emp, by rw [nx5 hok h1 h2 h3 h4]; rfl, ⟨⟨rfl, rfl⟩, ⟨rfl, rfl⟩, ⟨rfl, rfl⟩⟩, by rw [nx5 hok h1 h2 h3 h4]; rfl, rfl⟩

end Go.Proofs.YtdjmdfnhnlijiaaGreatDoor
