/- MemberNext. Written by program (walk2.py). -/
import Derived.Test.YtdjmdfnhnlijiaaGreatDoorM8
namespace Go.Proofs.YtdjmdfnhnlijiaaGreatDoor
open SL Cfg Memb
set_option linter.unusedVariables false
set_option linter.unusedSimpArgs false
theorem ent6 : Ent Tryz.prog 6 := ⟨_, _, Tryz.func6, by kernel_rfl, rfl⟩
theorem ent7 : Ent Tryz.prog 7 := ⟨_, _, Tryz.func7, by kernel_rfl, rfl⟩
theorem ent8 : Ent Tryz.prog 8 := ⟨_, _, Tryz.func8, by kernel_rfl, rfl⟩
theorem ent9 : Ent Tryz.prog 9 := ⟨_, _, Tryz.func9, by kernel_rfl, rfl⟩
theorem ent11 : Ent Tryz.prog 11 := ⟨_, _, Tryz.func11, by kernel_rfl, rfl⟩
theorem ent12 : Ent Tryz.prog 12 := ⟨_, _, Tryz.func12, by kernel_rfl, rfl⟩
set_option maxRecDepth 100000 in
set_option maxHeartbeats 3200000 in
theorem next_ct (vs : List Int) (H : PH) (p : Option Addr) (e : Nat) (hv : Sl H p e 1 (iz vs)) (hvi : ∀ z ∈ vs, -9223372036854775808 ≤ z ∧ z ≤ 9223372036854775807) (l : List Ch) (q : Option Addr) (d : Nat) (hS : Sl H q d 4 (l.map Ch.cells)) (hC : ∀ c ∈ l, c.In H) (hR : ∀ c ∈ l, c.Ri) (z : Cf) (hz : z.In H) (hT : TabH H) : Ct Tryz.prog 3 [.slice p vs.length e, .slice q l.length d, .agg [.slice z.po z.o.length z.co, .slice z.pn z.n.length z.cn, .slice z.pl z.l.length z.cl].toArray] [H] (fun v Hs => v = .bool true ∧ Hs = [H]) := by
  refine Ct.body Tryz.func3 rfl Tryz.ntmps3 rfl ?_
  intro E F
  have hml := hS.len_le
  simp only [List.length_map, maxLen] at hml
  have hmv := hv.len_le
  simp only [iz_len, maxLen] at hmv
  have hzz := hz
  obtain ⟨hz1, hz2, hz3⟩ := hzz
  refine W.seq ?_
  refine W.region ?_
  refine RL.e (Eff.box 105 _ rfl rfl) rfl ?_
  rintro _ _ ⟨b5, rfl, rfl⟩
  refine RL.q (Yld.assign rfl) rfl ?_
  refine RL.nil ?_
  refine N.next ?_
  refine W.seq ?_
  refine W.seq ?_
  refine W.region ?_
  refine RL.e (Eff.call ent6 [1] [1] .nil (awake_ct H hT) rfl rfl rfl rfl (by rintro _ _ ⟨_, rfl⟩; rfl)) rfl ?_
  rintro _ _ ⟨_, ⟨rfl, rfl⟩, rfl⟩
  refine RL.q (by first | exact Yld.notD rfl | exact Yld.not rfl) rfl ?_
  refine RL.nil ?_
  refine N.next ?_
  first | (refine W.as (t := 15) rfl (boolF (by first | assumption | omega | (simp; done))) ?_; refine W.condF rfl ?_) | refine W.condF rfl ?_
  refine W.skip ?_
  refine N.next ?_
  refine W.keep (.cons (k := 0) rfl (.cons (k := 1) rfl (.cons (k := 5) rfl .nil))) (.cons (k := 0) rfl (.cons (k := 1) rfl (.cons (k := 105) rfl .nil))) ?_
  refine W.seq ?_
  refine W.seq ?_
  refine W.region ?_
  refine RL.q (Yld.move rfl) rfl ?_
  refine RL.e (Eff.call ent7 [1] [1] (.cons rfl (.cons rfl .nil)) (few_ct l q d H hS 12) rfl rfl rfl rfl (by rintro _ _ ⟨_, rfl⟩; rfl)) rfl ?_
  rintro _ _ ⟨_, ⟨rfl, rfl⟩, rfl⟩
  refine RL.q (by first | exact Yld.notD rfl | exact Yld.not rfl) rfl ?_
  refine RL.q (Yld.move rfl) rfl ?_
  refine' RL.or (t := 19) (d := 23) 4 rfl (.cons (k := 0) rfl (.cons (k := 1) rfl (.cons (k := 5) rfl (.cons (k := 16) rfl (.cons (k := 17) rfl (.cons (k := 18) rfl .nil)))))) (.cons (k := 0) rfl (.cons (k := 1) rfl (.cons (k := 105) rfl .nil))) ?_ ?_ ?_
  rotate_left 1
  ·
    intro hg19
    refine RL.gq rfl rfl (Yld.move rfl) rfl ?_
    refine RL.gq rfl rfl (Yld.lenSl Tryz.underlying22 rfl) rfl ?_
    refine RL.gq rfl rfl (Yld.bin rfl rfl BinV.gtr) rfl ?_
    refine RL.q (by first | exact Yld.pickT rfl rfl | exact Yld.pickF rfl rfl) rfl ?_
    exact RL.nil (N.meet (.cons rfl (.cons rfl (.cons rfl (.cons rfl (.cons rfl (.cons rfl (.cons rfl .nil))))))) (.cons rfl (.cons rfl (.cons rfl .nil))))
  ·
    intro hg19
    refine RL.gskip rfl rfl rfl rfl ?_
    refine RL.gskip rfl rfl rfl rfl ?_
    refine RL.gskip rfl rfl rfl rfl ?_
    refine RL.q (by first | exact Yld.pickT rfl rfl | exact Yld.pickF rfl rfl) rfl ?_
    exact RL.nil (N.meet (.cons rfl (.cons rfl (.cons rfl (.cons rfl (.cons rfl (.cons rfl (.cons rfl .nil))))))) (.cons rfl (.cons rfl (.cons rfl .nil))))
  refine RL.q (Yld.move rfl) rfl ?_
  refine' RL.or (t := 24) (d := 28) 4 rfl (.cons (k := 0) rfl (.cons (k := 1) rfl (.cons (k := 5) rfl (.cons (k := 16) rfl (.cons (k := 17) rfl (.cons (k := 18) rfl (.cons (k := 23) rfl .nil))))))) (.cons (k := 0) rfl (.cons (k := 1) rfl (.cons (k := 105) rfl .nil))) ?_ ?_ ?_
  rotate_left 1
  ·
    intro hg24
    refine RL.gq rfl rfl (Yld.loadW (c := 105) Tryz.underlying25 rfl sz25 rfl rfl (by first | exact single_self _ _ | exact pset_self _ _ _ | assumption) rfl) rfl ?_
    refine RL.ge rfl rfl (Eff.call ent8 [1] [1] (.cons rfl (.cons rfl .nil)) (cfew_ct z H hz 8) rfl rfl rfl rfl (by rintro _ _ ⟨_, rfl⟩; rfl)) rfl ?_
    rintro _ _ ⟨_, ⟨rfl, rfl⟩, rfl⟩
    refine RL.gq rfl rfl (by first | exact Yld.notD rfl | exact Yld.not rfl) rfl ?_
    refine RL.q (by first | exact Yld.pickT rfl rfl | exact Yld.pickF rfl rfl) rfl ?_
    exact RL.nil (N.meet (.cons rfl (.cons rfl (.cons rfl (.cons rfl (.cons rfl (.cons rfl (.cons rfl (.cons rfl .nil)))))))) (.cons rfl (.cons rfl (.cons rfl .nil))))
  ·
    intro hg24
    refine RL.gskip rfl rfl rfl rfl ?_
    refine RL.gskip rfl rfl rfl rfl ?_
    refine RL.gskip rfl rfl rfl rfl ?_
    refine RL.q (by first | exact Yld.pickT rfl rfl | exact Yld.pickF rfl rfl) rfl ?_
    exact RL.nil (N.meet (.cons rfl (.cons rfl (.cons rfl (.cons rfl (.cons rfl (.cons rfl (.cons rfl (.cons rfl .nil)))))))) (.cons rfl (.cons rfl (.cons rfl .nil))))
  refine RL.nil ?_
  refine N.next ?_
  refine W.keep (.cons (k := 0) rfl (.cons (k := 1) rfl (.cons (k := 5) rfl (.cons (k := 28) rfl .nil)))) (.cons (k := 0) rfl (.cons (k := 1) rfl (.cons (k := 105) rfl .nil))) ?_
  refine W.cond rfl (fun hc28 => ?_) (fun hc28 => ?_)
  ·
    refine W.seq ?_
    refine W.region ?_
    refine RL.q (Yld.assign rfl) rfl ?_
    refine RL.nil ?_
    refine N.next ?_
    refine W.keep (.cons (k := 6) rfl .nil) (.cons (k := 0) rfl (.cons (k := 1) rfl (.cons (k := 105) rfl .nil))) ?_
    refine W.ret ?_
    refine N.then_ret ?_
    exact N.retBy [1] (.cons (.tmp rfl) .nil) rfl rfl rfl rfl ⟨rfl, rfl⟩
  ·
    simp only [Bool.or_eq_false_iff, Bool.not_eq_false', decide_eq_true_eq, decide_eq_false_iff_not, Classical.not_not] at hc28
    obtain ⟨⟨⟨hf8, hl20⟩, hv8⟩, hz8⟩ := hc28
    have hv8 : vs.length ≤ 8 := by omega
    have hI : ∀ c ∈ l, c.Sm := fun c h => ⟨(hf8 c h).1, (hf8 c h).2, hR c h⟩
    refine W.skip ?_
    refine N.next ?_
    refine W.seq ?_
    refine W.region ?_
    refine RL.q (Yld.move rfl) rfl ?_
    refine RL.q (Yld.move rfl) rfl ?_
    refine RL.e (Eff.call ent9 [1] [1, 150, 151, 152] (.cons rfl (.cons rfl .nil)) (run_ct vs H p e hv hvi l q d hS hC hI hv8 (by omega)) rfl rfl rfl rfl (by rintro _ _ ⟨_, _, _, _, _, _, _, _, _, _, rfl⟩; rfl)) rfl ?_
    rintro _ _ ⟨_, ⟨b, x, G, w, H2, rfl, hx, hw, hgl, hgw, rfl⟩, rfl⟩
    have hgk : GOK l.length (gl x) := hgl ▸ runG_OK hv8 hvi hI
    have g1 := hgk.bo
    have g2 := hgk.bn
    replace g1 : x.o.length ≤ 8 := g1
    replace g2 : x.n.length ≤ l.length := g2
    have hw3 : w.o = x.o ∧ w.n = x.n ∧ w.l = x.l := by simpa [gl] using hgw
    have hwo : w.o.length ≤ 8 := by rw [hw3.1]; exact g1
    have hwn : w.n.length ≤ l.length := by rw [hw3.2.1]; exact g2
    refine RL.q (Yld.move rfl) rfl ?_
    refine RL.q (Yld.extract rfl rfl) rfl ?_
    refine RL.q (Yld.extract rfl rfl) rfl ?_
    refine RL.q (Yld.extract rfl rfl) rfl ?_
    refine RL.e (Eff.alloc 108 zc31) rfl ?_
    rintro _ _ ⟨b8, rfl, rfl⟩
    refine RL.q (Yld.assign rfl) rfl ?_
    refine RL.e0 (Eff.storeS (c := 108) _ sz31 rfl rfl rfl rfl rfl rfl rfl (by (try simp only [putAt, List.take, List.drop, List.nil_append, List.cons_append, List.append_nil, List.length_cons, List.length_nil, Nat.add_zero, Nat.zero_add, Nat.reduceAdd]); rfl)) ?_
    rintro _ _ rfl
    refine RL.q (Yld.assign rfl) rfl ?_
    refine RL.nil ?_
    refine N.next ?_
    refine W.keep (.cons (k := 5) rfl (.cons (k := 7) rfl (.cons (k := 8) rfl (.cons (k := 9) rfl .nil)))) (.cons (k := 0) rfl (.cons (k := 1) rfl (.cons (k := 105) rfl (.cons (k := 108) rfl (.cons (k := 150) rfl (.cons (k := 151) rfl (.cons (k := 152) rfl .nil))))))) ?_
    refine W.seq ?_
    refine W.region ?_
    refine RL.q (Yld.move rfl) rfl ?_
    refine RL.q (Yld.loadW (c := 105) Tryz.underlying25 rfl sz25 rfl rfl (by first | exact single_self _ _ | exact pset_self _ _ _ | assumption) rfl) rfl ?_
    refine RL.e (Eff.call ent10 [150, 151, 1] [150, 151, 1, 161] (.cons rfl (.cons rfl .nil)) (mnext_ct b x G hx (by omega) (by omega) z H hz (by omega) (by omega) (by omega)) rfl rfl rfl rfl (by rintro _ _ ⟨_, _, _, _, _, rfl⟩; rfl)) rfl ?_
    rintro _ _ ⟨_, ⟨u, Hu, rfl, hu, hgu, rfl⟩, rfl⟩
    refine RL.q (Yld.move rfl) rfl ?_
    refine RL.q (Yld.extract rfl rfl) rfl ?_
    refine RL.q (Yld.extract rfl rfl) rfl ?_
    refine RL.e (Eff.alloc 110 zc25) rfl ?_
    rintro _ _ ⟨b10, rfl, rfl⟩
    refine RL.e0 (Eff.storeS (c := 110) _ sz25 rfl rfl rfl rfl rfl rfl rfl (by (try simp only [putAt, List.take, List.drop, List.nil_append, List.cons_append, List.append_nil, List.length_cons, List.length_nil, Nat.add_zero, Nat.zero_add, Nat.reduceAdd]); rfl)) ?_
    rintro _ _ rfl
    refine RL.q (Yld.assign rfl) rfl ?_
    refine RL.nil ?_
    refine N.next ?_
    refine W.keep (.cons (k := 5) rfl (.cons (k := 8) rfl (.cons (k := 9) rfl (.cons (k := 10) rfl (.cons (k := 11) rfl .nil))))) (.cons (k := 0) rfl (.cons (k := 1) rfl (.cons (k := 105) rfl (.cons (k := 108) rfl (.cons (k := 110) rfl (.cons (k := 150) rfl (.cons (k := 151) rfl (.cons (k := 152) rfl (.cons (k := 161) rfl .nil))))))))) ?_
    refine W.seq ?_
    refine W.region ?_
    refine RL.q (Yld.loadW (c := 108) Tryz.underlying31 rfl sz31 rfl rfl (by first | exact single_self _ _ | exact pset_self _ _ _ | assumption) rfl) rfl ?_
    refine RL.q (Yld.loadW (c := 105) Tryz.underlying25 rfl sz25 rfl rfl (by first | exact single_self _ _ | exact pset_self _ _ _ | assumption) rfl) rfl ?_
    refine RL.e (Eff.call ent11 [152, 1] [152, 1] (.cons rfl (.cons rfl .nil)) (rnext_ct w H2 hw (by omega) (by omega) z H hz (by omega) (by omega) (by omega)) rfl rfl rfl rfl (by rintro _ _ ⟨_, _, _, _, _, _, rfl⟩; rfl)) rfl ?_
    rintro _ _ ⟨_, ⟨t, H', rfl, ht, hgt, hext, rfl⟩, rfl⟩
    rw [hgw] at hgt ⊢
    have hut : u.o = t.o ∧ u.n = t.n ∧ u.l = t.l := by have := hgu.trans hgt.symm; simpa [gl] using this
    refine RL.q (Yld.move rfl) rfl ?_
    refine RL.q (Yld.extract rfl rfl) rfl ?_
    refine RL.q (Yld.extract rfl rfl) rfl ?_
    refine RL.e (Eff.alloc 112 zc25) rfl ?_
    rintro _ _ ⟨b12, rfl, rfl⟩
    refine RL.e0 (Eff.storeS (c := 112) _ sz25 rfl rfl rfl rfl rfl rfl rfl (by (try simp only [putAt, List.take, List.drop, List.nil_append, List.cons_append, List.append_nil, List.length_cons, List.length_nil, Nat.add_zero, Nat.zero_add, Nat.reduceAdd]); rfl)) ?_
    rintro _ _ rfl
    refine RL.q (Yld.assign rfl) rfl ?_
    refine RL.nil ?_
    refine N.next ?_
    refine W.keep (.cons (k := 9) rfl (.cons (k := 10) rfl (.cons (k := 11) rfl (.cons (k := 12) rfl (.cons (k := 13) rfl .nil))))) (.cons (k := 0) rfl (.cons (k := 1) rfl (.cons (k := 105) rfl (.cons (k := 108) rfl (.cons (k := 110) rfl (.cons (k := 112) rfl (.cons (k := 150) rfl (.cons (k := 151) rfl (.cons (k := 152) rfl (.cons (k := 161) rfl .nil)))))))))) ?_
    refine W.seq ?_
    refine W.region ?_
    refine RL.q (Yld.move rfl) rfl ?_
    refine RL.q (Yld.move rfl) rfl ?_
    first | refine RL.as (t := 49) rfl (boolT (by first | assumption | omega | (simp; done))) ?_ | refine RL.as (t := 49) (v := .bool true) rfl rfl ?_
    refine RL.gq rfl rfl (Yld.move rfl) rfl ?_
    refine RL.gq rfl rfl (Yld.move rfl) rfl ?_
    refine RL.gq rfl rfl (Yld.eq (v' := .bool true) (Yld.bin rfl rfl (BinV.eqlB Tryz.underlying4)) (by simp)) rfl ?_
    refine RL.q (by first | exact Yld.pickT rfl rfl | exact Yld.pickF rfl rfl) rfl ?_
    refine RL.q (Yld.move rfl) rfl ?_
    first | refine RL.as (t := 54) rfl (boolT (by first | assumption | omega | (simp; done))) ?_ | refine RL.as (t := 54) (v := .bool true) rfl rfl ?_
    refine RL.gq rfl rfl (Yld.loadW (c := 110) Tryz.underlying25 rfl sz25 rfl rfl (by first | exact single_self _ _ | exact pset_self _ _ _ | assumption) rfl) rfl ?_
    refine RL.gq rfl rfl (Yld.loadW (c := 112) Tryz.underlying25 rfl sz25 rfl rfl (by first | exact single_self _ _ | exact pset_self _ _ _ | assumption) rfl) rfl ?_
    refine RL.ge rfl rfl (Eff.call ent12 [161, 1] [161, 1] (.cons rfl (.cons rfl .nil)) (rsame_ct u Hu hu t H' ht) rfl rfl rfl rfl (by rintro _ _ ⟨_, rfl⟩; rfl)) rfl ?_
    rintro _ _ ⟨_, ⟨rfl, rfl⟩, rfl⟩
    rw [decide_eq_true hut]
    refine RL.q (by first | exact Yld.pickT rfl rfl | exact Yld.pickF rfl rfl) rfl ?_
    refine RL.q (Yld.assign rfl) rfl ?_
    refine RL.nil ?_
    refine N.next ?_
    refine W.keep (.cons (k := 6) rfl .nil) (.cons (k := 0) rfl (.cons (k := 1) rfl (.cons (k := 105) rfl (.cons (k := 108) rfl (.cons (k := 110) rfl (.cons (k := 112) rfl (.cons (k := 150) rfl (.cons (k := 151) rfl (.cons (k := 152) rfl (.cons (k := 161) rfl .nil)))))))))) ?_
    refine W.ret ?_
    refine N.imp (Imp.sub (c := 1) (G := H) rfl hext) ?_
    exact N.retBy [1] (.cons (.tmp rfl) .nil) rfl rfl rfl rfl ⟨rfl, rfl⟩

end Go.Proofs.YtdjmdfnhnlijiaaGreatDoor
