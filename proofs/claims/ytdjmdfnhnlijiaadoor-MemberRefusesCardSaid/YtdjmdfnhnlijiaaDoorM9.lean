/- MemberRefuses. Written by program (walk2.py). -/
import Derived.Test.YtdjmdfnhnlijiaaDoorM8
namespace Go.Proofs.YtdjmdfnhnlijiaaDoor
open SL Cfg Memb
set_option linter.unusedVariables false
set_option linter.unusedSimpArgs false
theorem zc37 : zc Tryd.prog 37 [.int .i64 0, .int .i64 0, .slice none 0 0, .slice none 0 0] := (by kernel_rfl : ((Tryd.prog.info? 37).bind (·.zero)).map (fun v => v.cells.toList) = some [.int .i64 0, .int .i64 0, .slice none 0 0, .slice none 0 0])
set_option maxRecDepth 100000 in
set_option maxHeartbeats 6400000 in
theorem refuses_ct (vs : List Int) (H : PH) (p : Option Addr) (e : Nat) (hv : Sl H p e 1 (iz vs)) (hvi : ∀ z ∈ vs, -9223372036854775808 ≤ z ∧ z ≤ 9223372036854775807) (l : List Ch) (q : Option Addr) (d : Nat) (hS : Sl H q d 4 (l.map Ch.cells)) (hC : ∀ c ∈ l, c.In H) (hR : ∀ c ∈ l, c.Ri) (u : Ch) (hu : u.In H) (huR : u.Ri) (hT : TabH H) : Ct Tryd.prog 5 [.slice p vs.length e, .slice q l.length d, .agg [.int .i64 u.k, .int .i64 u.m, .slice u.pf u.f.length u.cf, .slice u.pt u.t.length u.ct].toArray] [H] (fun v Hs => v = .bool true ∧ Hs = [H]) := by
  refine Ct.body Tryd.func5 rfl Tryd.ntmps5 rfl ?_
  intro E F
  have hml := hS.len_le
  simp only [List.length_map, maxLen] at hml
  have hmv := hv.len_le
  simp only [iz_len, maxLen] at hmv
  refine W.seq ?_
  refine W.region ?_
  refine RL.e (Eff.box 105 _ rfl rfl) rfl ?_
  rintro _ _ ⟨b5, rfl, rfl⟩
  refine RL.q (Yld.assign rfl) rfl ?_
  refine RL.nil ?_
  refine N.next ?_
  refine W.seq ?_
  refine W.seq ?_
  refine W.region ?_
  refine RL.e (Eff.call ent6 [1] [1] .nil (awake_ct H hT) rfl rfl rfl rfl (by rintro _ _ ⟨_, rfl⟩; rfl)) rfl ?_
  rintro _ _ ⟨_, ⟨rfl, rfl⟩, rfl⟩
  refine RL.q (by first | exact Yld.notD rfl | exact Yld.not rfl) rfl ?_
  refine RL.nil ?_
  refine N.next ?_
  first | (refine W.as (t := 17) rfl (boolF (by first | assumption | omega | (simp; done))) ?_; refine W.condF rfl ?_) | refine W.condF rfl ?_
  refine W.skip ?_
  refine N.next ?_
  refine W.keep (.cons (k := 0) rfl (.cons (k := 1) rfl (.cons (k := 5) rfl .nil))) (.cons (k := 0) rfl (.cons (k := 1) rfl (.cons (k := 105) rfl .nil))) ?_
  refine W.seq ?_
  refine W.seq ?_
  refine W.region ?_
  refine RL.q (Yld.move rfl) rfl ?_
  refine RL.e (Eff.call ent7 [1] [1] (.cons rfl (.cons rfl .nil)) (few_ct l q d H hS 16) rfl rfl rfl rfl (by rintro _ _ ⟨_, rfl⟩; rfl)) rfl ?_
  rintro _ _ ⟨_, ⟨rfl, rfl⟩, rfl⟩
  refine RL.q (by first | exact Yld.notD rfl | exact Yld.not rfl) rfl ?_
  refine RL.q (Yld.move rfl) rfl ?_
  refine' RL.or (t := 21) (d := 25) 4 rfl (.cons (k := 0) rfl (.cons (k := 1) rfl (.cons (k := 5) rfl (.cons (k := 18) rfl (.cons (k := 19) rfl (.cons (k := 20) rfl .nil)))))) (.cons (k := 0) rfl (.cons (k := 1) rfl (.cons (k := 105) rfl .nil))) ?_ ?_ ?_
  rotate_left 1
  ·
    intro hg21
    refine RL.gq rfl rfl (Yld.move rfl) rfl ?_
    refine RL.gq rfl rfl (Yld.lenSl Tryd.underlying22 rfl) rfl ?_
    refine RL.gq rfl rfl (Yld.bin rfl rfl BinV.gtr) rfl ?_
    refine RL.q (by first | exact Yld.pickT rfl rfl | exact Yld.pickF rfl rfl) rfl ?_
    exact RL.nil (N.meet (.cons rfl (.cons rfl (.cons rfl (.cons rfl (.cons rfl (.cons rfl (.cons rfl .nil))))))) (.cons rfl (.cons rfl (.cons rfl .nil))))
  ·
    intro hg21
    refine RL.gskip rfl rfl rfl rfl ?_
    refine RL.gskip rfl rfl rfl rfl ?_
    refine RL.gskip rfl rfl rfl rfl ?_
    refine RL.q (by first | exact Yld.pickT rfl rfl | exact Yld.pickF rfl rfl) rfl ?_
    exact RL.nil (N.meet (.cons rfl (.cons rfl (.cons rfl (.cons rfl (.cons rfl (.cons rfl (.cons rfl .nil))))))) (.cons rfl (.cons rfl (.cons rfl .nil))))
  refine RL.q (Yld.move rfl) rfl ?_
  refine' RL.or (t := 26) (d := 31) 5 rfl (.cons (k := 0) rfl (.cons (k := 1) rfl (.cons (k := 5) rfl (.cons (k := 18) rfl (.cons (k := 19) rfl (.cons (k := 20) rfl (.cons (k := 25) rfl .nil))))))) (.cons (k := 0) rfl (.cons (k := 1) rfl (.cons (k := 105) rfl .nil))) ?_ ?_ ?_
  rotate_left 1
  ·
    intro hg26
    refine RL.gq rfl rfl (Yld.loadW (c := 105) Tryd.underlying37 rfl sz37 rfl rfl (by first | exact single_self _ _ | exact pset_self _ _ _ | assumption) rfl) rfl ?_
    refine RL.ge rfl rfl (Eff.buildSlice 128 Tryd.underlying23 sz37 zc37 rfl rfl (.cons rfl rfl .nil) rfl) rfl ?_
    rintro _ _ ⟨b28, rfl, rfl⟩
    refine RL.ge rfl rfl (Eff.call ent7 [128] [128] (.cons rfl (.cons rfl .nil)) (few_ct [u] (some ⟨b28, 0, none⟩) 1 _ (Own.one (l := [.int .i64 u.k, .int .i64 u.m, .slice u.pf u.f.length u.cf, .slice u.pt u.t.length u.ct]) (n := 4) rfl (by simp [Value.oneCell']) rfl).sl 1) rfl rfl rfl rfl (by rintro _ _ ⟨_, rfl⟩; rfl)) rfl ?_
    rintro _ _ ⟨_, ⟨rfl, rfl⟩, rfl⟩
    refine RL.gq rfl rfl (by first | exact Yld.notD rfl | exact Yld.not rfl) rfl ?_
    refine RL.q (by first | exact Yld.pickT rfl rfl | exact Yld.pickF rfl rfl) rfl ?_
    exact RL.nil (N.meet (.cons rfl (.cons rfl (.cons rfl (.cons rfl (.cons rfl (.cons rfl (.cons rfl (.cons rfl .nil)))))))) (.cons rfl (.cons rfl (.cons rfl .nil))))
  ·
    intro hg26
    refine RL.gskip rfl rfl rfl rfl ?_
    refine RL.gskip rfl rfl rfl rfl ?_
    refine RL.gskip rfl rfl rfl rfl ?_
    refine RL.gskip rfl rfl rfl rfl ?_
    refine RL.q (by first | exact Yld.pickT rfl rfl | exact Yld.pickF rfl rfl) rfl ?_
    exact RL.nil (N.meet (.cons rfl (.cons rfl (.cons rfl (.cons rfl (.cons rfl (.cons rfl (.cons rfl (.cons rfl .nil)))))))) (.cons rfl (.cons rfl (.cons rfl .nil))))
  refine RL.nil ?_
  refine N.next ?_
  refine W.keep (.cons (k := 0) rfl (.cons (k := 1) rfl (.cons (k := 5) rfl (.cons (k := 31) rfl .nil)))) (.cons (k := 0) rfl (.cons (k := 1) rfl (.cons (k := 105) rfl .nil))) ?_
  refine W.cond rfl (fun hc31 => ?_) (fun hc31 => ?_)
  ·
    refine W.seq ?_
    refine W.region ?_
    refine RL.q (Yld.assign rfl) rfl ?_
    refine RL.nil ?_
    refine N.next ?_
    refine W.keep (.cons (k := 6) rfl .nil) (.cons (k := 0) rfl (.cons (k := 1) rfl (.cons (k := 105) rfl .nil))) ?_
    refine W.ret ?_
    refine N.then_ret ?_
    exact N.retBy [1] (.cons (.tmp rfl) .nil) rfl rfl rfl rfl ⟨rfl, rfl⟩
  ·
    simp only [Bool.or_eq_false_iff, Bool.not_eq_false', decide_eq_true_eq, decide_eq_false_iff_not, Classical.not_not] at hc31
    obtain ⟨⟨⟨hf8, hl20⟩, hv8⟩, hu8⟩ := hc31
    have hv8 : vs.length ≤ 8 := by omega
    have hI : ∀ c ∈ l, c.Sm := fun c h => ⟨(hf8 c h).1, (hf8 c h).2, hR c h⟩
    have hus : u.Sm := ⟨(hu8.1 u (by simp)).1, (hu8.1 u (by simp)).2, huR⟩
    have hu1 := hus.1
    have hu2 := hus.2.1
    refine W.skip ?_
    refine N.next ?_
    refine W.seq ?_
    refine W.region ?_
    refine RL.q (Yld.move rfl) rfl ?_
    refine RL.q (Yld.move rfl) rfl ?_
    refine RL.e (Eff.call ent8 [1] [1, 150, 151, 152] (.cons rfl (.cons rfl .nil)) (run_ct vs H p e hv hvi l q d hS hC hI hv8 (by omega)) rfl rfl rfl rfl (by rintro _ _ ⟨_, _, _, _, _, _, _, _, _, _, rfl⟩; rfl)) rfl ?_
    rintro _ _ ⟨_, ⟨b, x, G, w, H2, rfl, hx, hw, hgl, hgw, rfl⟩, rfl⟩
    have hgk : GOK l.length (gl x) := hgl ▸ runG_OK hv8 hvi hI
    have g1 := hgk.bo
    have g2 := hgk.bn
    have g3 := hgk.bl
    replace g1 : x.o.length ≤ 8 := g1
    replace g2 : x.n.length ≤ l.length := g2
    replace g3 : x.l.length ≤ 8 + l.length := g3
    refine RL.q (Yld.move rfl) rfl ?_
    refine RL.q (Yld.extract rfl rfl) rfl ?_
    refine RL.q (Yld.extract rfl rfl) rfl ?_
    refine RL.q (Yld.extract rfl rfl) rfl ?_
    refine RL.e (Eff.alloc 108 zc28) rfl ?_
    rintro _ _ ⟨b8, rfl, rfl⟩
    refine RL.q (Yld.assign rfl) rfl ?_
    refine RL.e0 (Eff.storeS (c := 108) _ sz28 rfl rfl rfl rfl rfl rfl rfl (by (try simp only [putAt, List.take, List.drop, List.nil_append, List.cons_append, List.append_nil, List.length_cons, List.length_nil, Nat.add_zero, Nat.zero_add, Nat.reduceAdd]); rfl)) ?_
    rintro _ _ rfl
    refine RL.q (Yld.assign rfl) rfl ?_
    refine RL.nil ?_
    refine N.next ?_
    refine W.keep (.cons (k := 5) rfl (.cons (k := 7) rfl (.cons (k := 9) rfl .nil))) (.cons (k := 0) rfl (.cons (k := 1) rfl (.cons (k := 105) rfl (.cons (k := 108) rfl (.cons (k := 150) rfl (.cons (k := 151) rfl (.cons (k := 152) rfl .nil))))))) ?_
    refine W.seq ?_
    refine W.seq ?_
    refine W.region ?_
    refine RL.q (Yld.move rfl) rfl ?_
    refine RL.q (by first | exact Yld.notD rfl | exact Yld.not rfl) rfl ?_
    refine RL.nil ?_
    refine N.next ?_
    first | (refine W.as (t := 40) rfl (boolF (by first | assumption | omega | (simp; done))) ?_; refine W.condF rfl ?_) | refine W.condF rfl ?_
    refine W.skip ?_
    refine N.next ?_
    refine W.seq ?_
    refine W.region ?_
    refine RL.q (Yld.move rfl) rfl ?_
    refine RL.e (Eff.call ent16 [150, 151] [150, 151] (.cons rfl .nil) (msave_ct b x G hx (sms (k := l.length) (by omega) hgk)) rfl rfl rfl rfl (by rintro _ _ ⟨_, rfl⟩; rfl)) rfl ?_
    rintro _ _ ⟨_, ⟨rfl, rfl⟩, rfl⟩
    refine RL.q (Yld.move rfl) rfl ?_
    refine RL.e (Eff.call ent14 [150, 151] [150, 151, 160] (.cons rfl .nil) (mvot_ct b x G hx (by omega)) rfl rfl rfl rfl (by rintro _ _ ⟨_, _, _, _, _, rfl⟩; rfl)) rfl ?_
    rintro _ _ ⟨_, ⟨Ha, pa, ca, rfl, hOa, rfl⟩, rfl⟩
    refine RL.q (Yld.move rfl) rfl ?_
    refine RL.e (Eff.call ent15 [150, 151] [150, 151, 161] (.cons rfl .nil) (mlea_ct b x G hx (by omega)) rfl rfl rfl rfl (by rintro _ _ ⟨_, _, _, _, _, rfl⟩; rfl)) rfl ?_
    rintro _ _ ⟨_, ⟨Hb, pb, cb, rfl, hOb, rfl⟩, rfl⟩
    refine RL.q (Yld.assign rfl) rfl ?_
    refine RL.q (Yld.assign rfl) rfl ?_
    refine RL.q (Yld.assign rfl) rfl ?_
    refine RL.nil ?_
    refine N.next ?_
    refine W.keep (.cons (k := 5) rfl (.cons (k := 7) rfl (.cons (k := 10) rfl (.cons (k := 11) rfl (.cons (k := 12) rfl .nil))))) (.cons (k := 0) rfl (.cons (k := 1) rfl (.cons (k := 105) rfl (.cons (k := 108) rfl (.cons (k := 150) rfl (.cons (k := 151) rfl (.cons (k := 152) rfl (.cons (k := 160) rfl (.cons (k := 161) rfl .nil))))))))) ?_
    refine W.seq ?_
    refine W.seq ?_
    refine W.region ?_
    refine RL.q (Yld.move rfl) rfl ?_
    refine RL.q (Yld.loadW (c := 105) Tryd.underlying37 rfl sz37 rfl rfl (by first | exact single_self _ _ | exact pset_self _ _ _ | assumption) rfl) rfl ?_
    refine RL.e (Eff.call ent11 [150, 151, 1] [150, 151, 1] (.cons rfl (.cons rfl .nil)) (admit_ct b x G hx u H hu l.length (by omega) hgk hus) rfl rfl rfl rfl (by rintro _ _ ⟨_, _, _, _, _, rfl⟩; rfl)) rfl ?_
    rintro _ _ ⟨_, ⟨x2, G2, rfl, hx2, hgx2, rfl⟩, rfl⟩
    have hgk2 : GOK (l.length + 1) (gl x2) := hgx2 ▸ hgk.adm hus
    have q1 := hgk2.bo
    have q2 := hgk2.bn
    have q3 := hgk2.bl
    replace q1 : x2.o.length ≤ 8 := q1
    replace q2 : x2.n.length ≤ l.length + 1 := q2
    replace q3 : x2.l.length ≤ 8 + (l.length + 1) := q3
    refine RL.q (Yld.assign rfl) rfl ?_
    refine RL.nil ?_
    refine N.next ?_
    refine W.seq ?_
    refine W.region ?_
    refine RL.q (Yld.move rfl) rfl ?_
    refine RL.q (Yld.bin rfl rfl BinV.neq) rfl ?_
    refine RL.nil ?_
    refine N.next ?_
    refine W.keep (.cons (k := 5) rfl (.cons (k := 7) rfl (.cons (k := 10) rfl (.cons (k := 11) rfl (.cons (k := 12) rfl (.cons (k := 51) rfl .nil)))))) (.cons (k := 0) rfl (.cons (k := 1) rfl (.cons (k := 105) rfl (.cons (k := 108) rfl (.cons (k := 150) rfl (.cons (k := 151) rfl (.cons (k := 152) rfl (.cons (k := 160) rfl (.cons (k := 161) rfl .nil))))))))) ?_
    first | refine W.condD rfl (fun hc51 => ?_) (fun hc51 => ?_) | (refine W.cond rfl (fun hc51 => ?_) (fun hc51 => ?_) <;> try simp only [Bool.or_eq_true, Bool.and_eq_true, Bool.not_eq_true', Bool.not_eq_false', decide_eq_true_eq, Bool.or_eq_false_iff, Bool.and_eq_false_iff, decide_eq_false_iff_not, beq_iff_eq, beq_eq_false_iff_ne, ne_eq, Decidable.not_not] at hc51)
    ·
      have hsame : gl x2 = gl x := by rw [hgx2, adm_ref hc51]
      have h3 : x2.o = x.o ∧ x2.n = x.n ∧ x2.l = x.l := by simpa [gl] using hsame
      refine W.seq ?_
      refine W.region ?_
      refine RL.q (Yld.move rfl) rfl ?_
      refine RL.e (Eff.call ent16 [150, 151] [150, 151] (.cons rfl .nil) (msave_ct b x2 G2 hx2 (sms (k := l.length + 1) (by omega) hgk2)) rfl rfl rfl rfl (by rintro _ _ ⟨_, rfl⟩; rfl)) rfl ?_
      rintro _ _ ⟨_, ⟨rfl, rfl⟩, rfl⟩
      refine RL.q (Yld.move rfl) rfl ?_
      refine RL.q (Yld.eq (v' := .bool true) (Yld.bin rfl rfl BinV.eqlS) (by rw [h3.1, h3.2.1, h3.2.2]; simp)) rfl ?_
      refine RL.q (Yld.assign rfl) rfl ?_
      refine RL.nil ?_
      refine N.next ?_
      refine W.keep (.cons (k := 6) rfl .nil) (.cons (k := 0) rfl (.cons (k := 1) rfl (.cons (k := 105) rfl (.cons (k := 108) rfl (.cons (k := 150) rfl (.cons (k := 151) rfl (.cons (k := 152) rfl (.cons (k := 160) rfl (.cons (k := 161) rfl .nil))))))))) ?_
      refine W.ret ?_
      refine N.then_ret ?_
      exact N.retBy [1] (.cons (.tmp rfl) .nil) rfl rfl rfl rfl ⟨rfl, rfl⟩
    ·
      have he : err (gl x) u = 0 := by first | exact hc51 | exact Decidable.not_not.1 hc51
      rw [adm_ok he] at hgx2
      refine W.skip ?_
      refine N.next ?_
      refine W.seq ?_
      refine W.seq ?_
      refine W.region ?_
      refine RL.q (Yld.fieldAddr fo37_0 rfl) rfl ?_
      refine RL.q (Yld.load1 (c := 105) Tryd.underlying3 rfl rfl rfl (by first | exact single_self _ _ | exact pset_self _ _ _ | assumption) rfl) rfl ?_
      refine RL.nil ?_
      refine N.next ?_
      refine W.block ?_
      refine W.seq ?_
      refine W.region ?_
      refine RL.q (Yld.bin rfl rfl BinV.eql) rfl ?_
      refine RL.q (Yld.assign rfl) rfl ?_
      refine RL.nil ?_
      refine N.next ?_
      refine W.keep (.cons (k := 5) rfl (.cons (k := 7) rfl (.cons (k := 11) rfl (.cons (k := 12) rfl (.cons (k := 57) rfl (.cons (k := 58) rfl .nil)))))) (.cons (k := 0) rfl (.cons (k := 1) rfl (.cons (k := 105) rfl (.cons (k := 108) rfl (.cons (k := 150) rfl (.cons (k := 151) rfl (.cons (k := 152) rfl (.cons (k := 160) rfl (.cons (k := 161) rfl .nil))))))))) ?_
      first | refine W.condD rfl (fun hc58 => ?_) (fun hc58 => ?_) | (refine W.cond rfl (fun hc58 => ?_) (fun hc58 => ?_) <;> try simp only [Bool.or_eq_true, Bool.and_eq_true, Bool.not_eq_true', Bool.not_eq_false', decide_eq_true_eq, Bool.or_eq_false_iff, Bool.and_eq_false_iff, decide_eq_false_iff_not, beq_iff_eq, beq_eq_false_iff_ne, ne_eq, Decidable.not_not] at hc58)
      ·
        have hk0 : u.k = 0 := hc58
        have hmk : x2.o = x.o ∧ x2.n = setL (x.n ++ [u.m]) ∧ x2.l = setL (x.l ++ [u.m]) := by unfold mkG at hgx2; rw [if_pos hk0] at hgx2; simpa [gl] using hgx2
        obtain ⟨e1, e2, -⟩ := hmk
        have hh := (err0 hk0).1 he
        have hnn : u.m ∉ x.n := fun h => hh.2 (hgk.nl _ h)
        have hln : x2.n.length = x.n.length + 1 := by rw [e2]; exact set1_len hgk.n hh.1 hnn
        have e3 : u.m ∈ x2.n := by rw [e2]; exact (mem_set1 hgk.n).2 (.inr ⟨rfl, hh.1⟩)
        refine W.seq ?_
        refine W.draw (.q 0 (.q 2 (.one 1 (.one 3 (.q 4 (.q 5 (.q 8 (.q 9 (.q 10 (.one 6 (.q 7 (.q 11 (.q 12 (.q 13 (.q 14 (.q 16 (.q 17 (.one 15 (.one 18 (.q 19 (.q 20 .done))))))))))))))))))))) (.cons (k := 0) rfl (.cons (k := 1) rfl (.cons (k := 105) rfl (.cons (k := 108) rfl (.cons (k := 150) rfl (.cons (k := 151) rfl (.cons (k := 152) rfl (.cons (k := 160) rfl (.cons (k := 161) rfl .nil))))))))) mix (by kernel_rfl) (by kernel_rfl) ?_
        refine DL.q rfl (Yld.move rfl) rfl ?_
        refine DL.q rfl (Yld.move rfl) rfl ?_
        refine DL.one rfl (Eff.call ent14 [150, 151] [150, 151, 170] (.cons rfl .nil) (mvot_ct b x2 G2 hx2 (by omega)) rfl rfl rfl rfl (by rintro _ _ ⟨_, _, _, _, _, rfl⟩; rfl)) rfl (by rintro _ _ ⟨_, ⟨Hd, pd, cd, rfl, hOd, rfl⟩, rfl⟩; repeat (first | exact .nil | refine .cons rfl ?_)) ?_
        rintro _ _ ⟨_, ⟨Hd, pd, cd, rfl, hOd, rfl⟩, rfl⟩
        refine DL.one rfl (Eff.call ent17 [170, 160] [170, 160] (.cons rfl (.cons rfl .nil)) (ints_ct x2.o _ _ _ hOd.sl x.o _ _ _ hOa.sl) rfl rfl rfl rfl (by rintro _ _ ⟨_, rfl⟩; rfl)) rfl (by rintro _ _ ⟨_, ⟨rfl, rfl⟩, rfl⟩; repeat (first | exact .nil | refine .cons rfl ?_)) ?_
        rintro _ _ ⟨_, ⟨rfl, rfl⟩, rfl⟩
        rw [decide_eq_true e1]
        refine DL.q rfl (Yld.move rfl) rfl ?_
        first | refine DL.as (t := 64) rfl (boolT (by first | assumption | omega | (simp; done))) ?_ | refine DL.as (t := 64) (v := .bool true) rfl rfl ?_
        refine DL.gq rfl rfl rfl (Yld.move rfl) rfl ?_
        refine DL.gq rfl rfl rfl (Yld.move rfl) rfl ?_
        refine DL.gq rfl rfl rfl (Yld.lenSl Tryd.underlying22 rfl) rfl ?_
        refine DL.gq rfl rfl rfl (Yld.bin rfl rfl (by first | exact BinV.add (by omega) (by omega) | exact BinV.addW)) rfl ?_
        refine DL.gone rfl rfl rfl (Eff.call ent15 [150, 151] [150, 151, 171] (.cons rfl .nil) (mlea_ct b x2 G2 hx2 (by omega)) rfl rfl rfl rfl (by rintro _ _ ⟨_, _, _, _, _, rfl⟩; rfl)) rfl (by rintro _ _ ⟨_, ⟨Hf, pf, cf, rfl, hOf, rfl⟩, rfl⟩; repeat (first | exact .nil | refine .cons rfl ?_)) ?_
        rintro _ _ ⟨_, ⟨Hf, pf, cf, rfl, hOf, rfl⟩, rfl⟩
        refine DL.gq rfl rfl rfl (Yld.lenSl Tryd.underlying22 rfl) rfl ?_
        refine DL.gq rfl rfl rfl (Yld.eq (v' := .bool true) (Yld.bin rfl rfl BinV.eql) (by rw [decide_eq_true (by omega)])) rfl ?_
        refine DL.q rfl (by first | exact Yld.pickT rfl rfl | exact Yld.pickF rfl rfl) rfl ?_
        refine DL.q rfl (Yld.move rfl) rfl ?_
        first | refine DL.as (t := 73) rfl (boolT (by first | assumption | omega | (simp; done))) ?_ | refine DL.as (t := 73) (v := .bool true) rfl rfl ?_
        refine DL.gq rfl rfl rfl (Yld.move rfl) rfl ?_
        refine DL.gq rfl rfl rfl (Yld.fieldAddr fo37_1 rfl) rfl ?_
        refine DL.gq rfl rfl rfl (Yld.load1 (c := 105) Tryd.underlying3 rfl rfl rfl (by first | exact single_self _ _ | exact pset_self _ _ _ | assumption) rfl) rfl ?_
        refine DL.gone rfl rfl rfl (Eff.call ent15 [150, 151] [150, 151, 172] (.cons rfl .nil) (mlea_ct b x2 G2 hx2 (by omega)) rfl rfl rfl rfl (by rintro _ _ ⟨_, _, _, _, _, rfl⟩; rfl)) rfl (by rintro _ _ ⟨_, ⟨Hg, pg, cg, rfl, hOg, rfl⟩, rfl⟩; repeat (first | exact .nil | refine .cons rfl ?_)) ?_
        rintro _ _ ⟨_, ⟨Hg, pg, cg, rfl, hOg, rfl⟩, rfl⟩
        refine DL.gone rfl rfl rfl (Eff.call ent12 [172] [172] (.cons rfl (.cons rfl .nil)) (has_ct x2.n _ _ _ hOg.sl u.m) rfl rfl rfl rfl (by rintro _ _ ⟨_, rfl⟩; rfl)) rfl (by rintro _ _ ⟨_, ⟨rfl, rfl⟩, rfl⟩; repeat (first | exact .nil | refine .cons rfl ?_)) ?_
        rintro _ _ ⟨_, ⟨rfl, rfl⟩, rfl⟩
        rw [decide_eq_true e3]
        refine DL.q rfl (by first | exact Yld.pickT rfl rfl | exact Yld.pickF rfl rfl) rfl ?_
        refine DL.q rfl (Yld.assign rfl) rfl ?_
        refine DL.done ?_
        refine N.next ?_
        refine W.keep (.cons (k := 6) rfl .nil) (.cons (k := 0) rfl (.cons (k := 1) rfl (.cons (k := 105) rfl (.cons (k := 108) rfl (.cons (k := 150) rfl (.cons (k := 151) rfl (.cons (k := 152) rfl (.cons (k := 160) rfl (.cons (k := 161) rfl (.cons (k := 170) rfl (.cons (k := 171) rfl (.cons (k := 172) rfl .nil)))))))))))) ?_
        refine W.ret ?_
        refine N.block_ret ?_
        refine N.then_ret ?_
        exact N.retBy [1] (.cons (.tmp rfl) .nil) rfl rfl rfl rfl ⟨rfl, rfl⟩
      ·
        have hk0 : ¬ u.k = 0 := hc58
        refine W.seq ?_
        refine W.region ?_
        refine RL.q (Yld.bin rfl rfl BinV.eql) rfl ?_
        refine RL.q (Yld.assign rfl) rfl ?_
        refine RL.nil ?_
        refine N.next ?_
        first | refine W.condD rfl (fun hc80 => ?_) (fun hc80 => ?_) | (refine W.cond rfl (fun hc80 => ?_) (fun hc80 => ?_) <;> try simp only [Bool.or_eq_true, Bool.and_eq_true, Bool.not_eq_true', Bool.not_eq_false', decide_eq_true_eq, Bool.or_eq_false_iff, Bool.and_eq_false_iff, decide_eq_false_iff_not, beq_iff_eq, beq_eq_false_iff_ne, ne_eq, Decidable.not_not] at hc80)
        ·
          have hk1 : u.k = 1 := hc80
          have hmk : x2.o = x.o ∧ x2.n = minusL x.n [u.m] ∧ x2.l = x.l := by unfold mkG at hgx2; rw [if_neg hk0, if_pos hk1] at hgx2; simpa [gl] using hgx2
          obtain ⟨e1, e2, -⟩ := hmk
          have hh : u.m ∈ x.n := (err1 hk1).1 he
          have hln : x2.n.length + 1 = x.n.length := by rw [e2]; exact minus1_len hgk.n hh
          have e3 : u.m ∉ x2.n := by rw [e2, mem_minus]; simp
          refine W.seq ?_
          refine W.draw (.q 0 (.q 2 (.one 1 (.one 3 (.q 4 (.q 5 (.q 8 (.q 9 (.q 10 (.one 6 (.q 7 (.q 11 (.q 12 (.q 13 (.q 14 (.q 16 (.q 17 (.one 15 (.one 18 (.q 19 (.q 20 (.q 21 .done)))))))))))))))))))))) (.cons (k := 0) rfl (.cons (k := 1) rfl (.cons (k := 105) rfl (.cons (k := 108) rfl (.cons (k := 150) rfl (.cons (k := 151) rfl (.cons (k := 152) rfl (.cons (k := 160) rfl (.cons (k := 161) rfl .nil))))))))) mix (by kernel_rfl) (by kernel_rfl) ?_
          refine DL.q rfl (Yld.move rfl) rfl ?_
          refine DL.q rfl (Yld.move rfl) rfl ?_
          refine DL.one rfl (Eff.call ent14 [150, 151] [150, 151, 170] (.cons rfl .nil) (mvot_ct b x2 G2 hx2 (by omega)) rfl rfl rfl rfl (by rintro _ _ ⟨_, _, _, _, _, rfl⟩; rfl)) rfl (by rintro _ _ ⟨_, ⟨Hd, pd, cd, rfl, hOd, rfl⟩, rfl⟩; repeat (first | exact .nil | refine .cons rfl ?_)) ?_
          rintro _ _ ⟨_, ⟨Hd, pd, cd, rfl, hOd, rfl⟩, rfl⟩
          refine DL.one rfl (Eff.call ent17 [170, 160] [170, 160] (.cons rfl (.cons rfl .nil)) (ints_ct x2.o _ _ _ hOd.sl x.o _ _ _ hOa.sl) rfl rfl rfl rfl (by rintro _ _ ⟨_, rfl⟩; rfl)) rfl (by rintro _ _ ⟨_, ⟨rfl, rfl⟩, rfl⟩; repeat (first | exact .nil | refine .cons rfl ?_)) ?_
          rintro _ _ ⟨_, ⟨rfl, rfl⟩, rfl⟩
          rw [decide_eq_true e1]
          refine DL.q rfl (Yld.move rfl) rfl ?_
          first | refine DL.as (t := 86) rfl (boolT (by first | assumption | omega | (simp; done))) ?_ | refine DL.as (t := 86) (v := .bool true) rfl rfl ?_
          refine DL.gq rfl rfl rfl (Yld.move rfl) rfl ?_
          refine DL.gq rfl rfl rfl (Yld.move rfl) rfl ?_
          refine DL.gq rfl rfl rfl (Yld.lenSl Tryd.underlying22 rfl) rfl ?_
          refine DL.gq rfl rfl rfl (Yld.bin rfl rfl (by first | exact BinV.sub (by omega) (by omega) | exact BinV.subW)) rfl ?_
          refine DL.gone rfl rfl rfl (Eff.call ent15 [150, 151] [150, 151, 171] (.cons rfl .nil) (mlea_ct b x2 G2 hx2 (by omega)) rfl rfl rfl rfl (by rintro _ _ ⟨_, _, _, _, _, rfl⟩; rfl)) rfl (by rintro _ _ ⟨_, ⟨Hf, pf, cf, rfl, hOf, rfl⟩, rfl⟩; repeat (first | exact .nil | refine .cons rfl ?_)) ?_
          rintro _ _ ⟨_, ⟨Hf, pf, cf, rfl, hOf, rfl⟩, rfl⟩
          refine DL.gq rfl rfl rfl (Yld.lenSl Tryd.underlying22 rfl) rfl ?_
          refine DL.gq rfl rfl rfl (Yld.eq (v' := .bool true) (Yld.bin rfl rfl BinV.eql) (by rw [decide_eq_true (by omega)])) rfl ?_
          refine DL.q rfl (by first | exact Yld.pickT rfl rfl | exact Yld.pickF rfl rfl) rfl ?_
          refine DL.q rfl (Yld.move rfl) rfl ?_
          first | refine DL.as (t := 95) rfl (boolT (by first | assumption | omega | (simp; done))) ?_ | refine DL.as (t := 95) (v := .bool true) rfl rfl ?_
          refine DL.gq rfl rfl rfl (Yld.move rfl) rfl ?_
          refine DL.gq rfl rfl rfl (Yld.fieldAddr fo37_1 rfl) rfl ?_
          refine DL.gq rfl rfl rfl (Yld.load1 (c := 105) Tryd.underlying3 rfl rfl rfl (by first | exact single_self _ _ | exact pset_self _ _ _ | assumption) rfl) rfl ?_
          refine DL.gone rfl rfl rfl (Eff.call ent15 [150, 151] [150, 151, 172] (.cons rfl .nil) (mlea_ct b x2 G2 hx2 (by omega)) rfl rfl rfl rfl (by rintro _ _ ⟨_, _, _, _, _, rfl⟩; rfl)) rfl (by rintro _ _ ⟨_, ⟨Hg, pg, cg, rfl, hOg, rfl⟩, rfl⟩; repeat (first | exact .nil | refine .cons rfl ?_)) ?_
          rintro _ _ ⟨_, ⟨Hg, pg, cg, rfl, hOg, rfl⟩, rfl⟩
          refine DL.gone rfl rfl rfl (Eff.call ent12 [172] [172] (.cons rfl (.cons rfl .nil)) (has_ct x2.n _ _ _ hOg.sl u.m) rfl rfl rfl rfl (by rintro _ _ ⟨_, rfl⟩; rfl)) rfl (by rintro _ _ ⟨_, ⟨rfl, rfl⟩, rfl⟩; repeat (first | exact .nil | refine .cons rfl ?_)) ?_
          rintro _ _ ⟨_, ⟨rfl, rfl⟩, rfl⟩
          rw [decide_eq_false e3]
          refine DL.gq rfl rfl rfl (by first | exact Yld.notD rfl | exact Yld.not rfl) rfl ?_
          refine DL.q rfl (by first | exact Yld.pickT rfl rfl | exact Yld.pickF rfl rfl) rfl ?_
          refine DL.q rfl (Yld.assign rfl) rfl ?_
          refine DL.done ?_
          refine N.next ?_
          refine W.keep (.cons (k := 6) rfl .nil) (.cons (k := 0) rfl (.cons (k := 1) rfl (.cons (k := 105) rfl (.cons (k := 108) rfl (.cons (k := 150) rfl (.cons (k := 151) rfl (.cons (k := 152) rfl (.cons (k := 160) rfl (.cons (k := 161) rfl (.cons (k := 170) rfl (.cons (k := 171) rfl (.cons (k := 172) rfl .nil)))))))))))) ?_
          refine W.ret ?_
          refine N.block_ret ?_
          refine N.then_ret ?_
          exact N.retBy [1] (.cons (.tmp rfl) .nil) rfl rfl rfl rfl ⟨rfl, rfl⟩
        ·
          have hk1 : ¬ u.k = 1 := hc80
          have hk2 : u.k = 2 := ((err_k he).resolve_left hk0).resolve_left hk1
          have hmk : x2.o = u.t ∧ x2.n = minusL x.n u.t ∧ x2.l = x.l := by unfold mkG at hgx2; rw [if_neg hk0, if_neg hk1] at hgx2; simpa [gl] using hgx2
          obtain ⟨f2, e2, -⟩ := hmk
          have hh := (err2 hk2).1 he
          have f1 : setL u.f = x.o := hh.1
          have hsf := setL_len u.f
          obtain ⟨hb1, hb7⟩ := And.intro hh.2.1 hh.2.2.1
          refine W.skip ?_
          refine N.block_normal ?_
          refine N.next ?_
          refine W.keep (.cons (k := 5) rfl (.cons (k := 7) rfl (.cons (k := 11) rfl (.cons (k := 12) rfl .nil)))) (.cons (k := 0) rfl (.cons (k := 1) rfl (.cons (k := 105) rfl (.cons (k := 108) rfl (.cons (k := 150) rfl (.cons (k := 151) rfl (.cons (k := 152) rfl (.cons (k := 160) rfl (.cons (k := 161) rfl .nil))))))))) ?_
          refine W.seq ?_
          refine W.seq ?_
          refine W.draw (.q 0 (.q 1 (.q 2 (.q 3 (.q 4 (.q 5 (.q 7 (.one 6 (.one 8 (.q 9 (.q 10 (.q 11 (.q 12 (.q 14 (.q 15 (.one 13 (.one 16 (.q 17 (.q 18 .done))))))))))))))))))) (.cons (k := 0) rfl (.cons (k := 1) rfl (.cons (k := 105) rfl (.cons (k := 108) rfl (.cons (k := 150) rfl (.cons (k := 151) rfl (.cons (k := 152) rfl (.cons (k := 160) rfl (.cons (k := 161) rfl .nil))))))))) mix (by kernel_rfl) (by kernel_rfl) ?_
          refine DL.q rfl (Yld.fieldAddr fo37_0 rfl) rfl ?_
          refine DL.q rfl (Yld.load1 (c := 105) Tryd.underlying3 rfl rfl rfl (by first | exact single_self _ _ | exact pset_self _ _ _ | assumption) rfl) rfl ?_
          refine DL.q rfl (Yld.eq (v' := .bool false) (Yld.bin rfl rfl BinV.neq) (by simp [hk2])) rfl ?_
          refine DL.q rfl (Yld.move rfl) rfl ?_
          first | refine DL.as (t := 106) rfl (boolF (by first | assumption | omega | (simp; done))) ?_ | refine DL.as (t := 106) (v := .bool false) rfl rfl ?_
          refine DL.gq rfl rfl rfl (Yld.fieldAddr fo37_2 rfl) rfl ?_
          refine DL.gq rfl rfl rfl (Yld.load1 (c := 105) Tryd.underlying22 rfl rfl rfl (by first | exact single_self _ _ | exact pset_self _ _ _ | assumption) rfl) rfl ?_
          refine DL.gq rfl rfl rfl (Yld.move rfl) rfl ?_
          refine DL.gone rfl rfl rfl (Eff.call ent18 [1] [1, 180] (.cons rfl .nil) (rset_ct u.f _ _ _ hu.1 (by omega)) rfl rfl rfl rfl (by rintro _ _ ⟨_, _, _, _, _, rfl⟩; rfl)) rfl (by rintro _ _ ⟨_, ⟨Hh, ph, ch, rfl, hOh, rfl⟩, rfl⟩; repeat (first | exact .nil | refine .cons rfl ?_)) ?_
          rintro _ _ ⟨_, ⟨Hh, ph, ch, rfl, hOh, rfl⟩, rfl⟩
          refine DL.gone rfl rfl rfl (Eff.call ent17 [180, 160] [180, 160] (.cons rfl (.cons rfl .nil)) (ints_ct (setL u.f) _ _ _ hOh.sl x.o _ _ _ hOa.sl) rfl rfl rfl rfl (by rintro _ _ ⟨_, rfl⟩; rfl)) rfl (by rintro _ _ ⟨_, ⟨rfl, rfl⟩, rfl⟩; repeat (first | exact .nil | refine .cons rfl ?_)) ?_
          rintro _ _ ⟨_, ⟨rfl, rfl⟩, rfl⟩
          rw [decide_eq_true f1]
          refine DL.gq rfl rfl rfl (by first | exact Yld.notD rfl | exact Yld.not rfl) rfl ?_
          refine DL.q rfl (by first | exact Yld.pickT rfl rfl | exact Yld.pickF rfl rfl) rfl ?_
          refine DL.q rfl (Yld.move rfl) rfl ?_
          first | refine DL.as (t := 114) rfl (boolF (by first | assumption | omega | (simp; done))) ?_ | refine DL.as (t := 114) (v := .bool false) rfl rfl ?_
          refine DL.gq rfl rfl rfl (Yld.move rfl) rfl ?_
          refine DL.gq rfl rfl rfl (Yld.fieldAddr fo37_3 rfl) rfl ?_
          refine DL.gq rfl rfl rfl (Yld.load1 (c := 105) Tryd.underlying22 rfl rfl rfl (by first | exact single_self _ _ | exact pset_self _ _ _ | assumption) rfl) rfl ?_
          refine DL.gone rfl rfl rfl (Eff.call ent14 [150, 151] [150, 151, 181] (.cons rfl .nil) (mvot_ct b x2 G2 hx2 (by omega)) rfl rfl rfl rfl (by rintro _ _ ⟨_, _, _, _, _, rfl⟩; rfl)) rfl (by rintro _ _ ⟨_, ⟨Hi, pi, ci, rfl, hOi, rfl⟩, rfl⟩; repeat (first | exact .nil | refine .cons rfl ?_)) ?_
          rintro _ _ ⟨_, ⟨Hi, pi, ci, rfl, hOi, rfl⟩, rfl⟩
          refine DL.gone rfl rfl rfl (Eff.call ent17 [181, 1] [181, 1] (.cons rfl (.cons rfl .nil)) (ints_ct x2.o _ _ _ hOi.sl u.t _ _ _ hu.2) rfl rfl rfl rfl (by rintro _ _ ⟨_, rfl⟩; rfl)) rfl (by rintro _ _ ⟨_, ⟨rfl, rfl⟩, rfl⟩; repeat (first | exact .nil | refine .cons rfl ?_)) ?_
          rintro _ _ ⟨_, ⟨rfl, rfl⟩, rfl⟩
          rw [decide_eq_true f2]
          refine DL.gq rfl rfl rfl (by first | exact Yld.notD rfl | exact Yld.not rfl) rfl ?_
          refine DL.q rfl (by first | exact Yld.pickT rfl rfl | exact Yld.pickF rfl rfl) rfl ?_
          refine DL.done ?_
          refine N.next ?_
          refine W.keep (.cons (k := 5) rfl (.cons (k := 7) rfl (.cons (k := 11) rfl (.cons (k := 12) rfl (.cons (k := 121) rfl .nil))))) (.cons (k := 0) rfl (.cons (k := 1) rfl (.cons (k := 105) rfl (.cons (k := 108) rfl (.cons (k := 150) rfl (.cons (k := 151) rfl (.cons (k := 152) rfl (.cons (k := 160) rfl (.cons (k := 161) rfl (.cons (k := 180) rfl (.cons (k := 181) rfl .nil))))))))))) ?_
          first | (refine W.as (t := 121) rfl (boolF (by first | assumption | omega | (simp; done))) ?_; refine W.condF rfl ?_) | refine W.condF rfl ?_
          refine W.skip ?_
          refine N.next ?_
          refine W.seq ?_
          refine W.seq ?_
          refine W.region ?_
          refine RL.q (Yld.fieldAddr fo37_3 rfl) rfl ?_
          refine RL.q (Yld.load1 (c := 105) Tryd.underlying22 rfl rfl rfl (by first | exact single_self _ _ | exact pset_self _ _ _ | assumption) rfl) rfl ?_
          refine RL.q (Yld.lenSl Tryd.underlying22 rfl) rfl ?_
          refine RL.q (Yld.move rfl) rfl ?_
          refine RL.nil ?_
          refine N.next ?_
          refine W.block ?_
          refine W.loopK (ι := Nat) (fun i => (i ≤ u.t.length)) (fun i => [(125, .int .i64 (i : Nat))]) (fun i => []) (fun i => u.t.length - i) (.cons (k := 5) rfl (.cons (k := 7) rfl (.cons (k := 11) rfl (.cons (k := 12) rfl (.cons (k := 123) rfl (.cons (k := 124) rfl .nil)))))) (.cons (k := 0) rfl (.cons (k := 1) rfl (.cons (k := 105) rfl (.cons (k := 108) rfl (.cons (k := 150) rfl (.cons (k := 151) rfl (.cons (k := 152) rfl (.cons (k := 160) rfl (.cons (k := 161) rfl (.cons (k := 180) rfl (.cons (k := 181) rfl .nil))))))))))) 0 ?_ ?_ ?_ ?_
          · exact Nat.zero_le _
          · exact (.as rfl (by first | rfl | (simp; done) | (congr 1; simp; done) | (congr 1; omega)) .nil)
          · exact .nil
          rintro i hi
          refine W.keep (.cons (k := 125) rfl (.cons (k := 5) rfl (.cons (k := 7) rfl (.cons (k := 11) rfl (.cons (k := 12) rfl (.cons (k := 123) rfl (.cons (k := 124) rfl .nil))))))) (.cons (k := 0) rfl (.cons (k := 1) rfl (.cons (k := 105) rfl (.cons (k := 108) rfl (.cons (k := 150) rfl (.cons (k := 151) rfl (.cons (k := 152) rfl (.cons (k := 160) rfl (.cons (k := 161) rfl (.cons (k := 180) rfl (.cons (k := 181) rfl .nil))))))))))) ?_
          refine W.seq ?_
          refine W.region ?_
          refine RL.q (Yld.bin rfl rfl BinV.lss) rfl ?_
          refine RL.nil ?_
          refine N.next ?_
          refine W.seq ?_
          first | refine W.condD rfl (fun hc126 => ?_) (fun hc126 => ?_) | (refine W.cond rfl (fun hc126 => ?_) (fun hc126 => ?_) <;> try simp only [Bool.or_eq_true, Bool.and_eq_true, Bool.not_eq_true', Bool.not_eq_false', decide_eq_true_eq, Bool.or_eq_false_iff, Bool.and_eq_false_iff, decide_eq_false_iff_not, beq_iff_eq, beq_eq_false_iff_ne, ne_eq, Decidable.not_not] at hc126)
          ·
            obtain ⟨z, hz, hlz⟩ := iz_at (show i < u.t.length by omega)
            have hut := hu.2
            have hzt := List.mem_of_getElem? hz
            have hz1 : z ∈ x.o ∨ z ∈ x.n := hh.2.2.2.2 z hzt
            have hz2 : z ∉ x2.n := by rw [e2, mem_minus]; exact fun h => h.2 hzt
            refine W.skip ?_
            refine N.next ?_
            refine W.seq ?_
            refine W.block ?_
            refine W.seq ?_
            refine W.region ?_
            refine RL.q (Yld.indexRow Tryd.underlying22 sz3 rfl rfl (by first | assumption | exact Own.sl (by assumption)) (by first | rfl | omega | (simp; done) | (simp; omega)) (by omega) (by first | omega | (simp; done) | (simp; omega))) rfl ?_
            refine RL.q (by first | exact (by first | exact Yld.loadRow1 (cl := 1) Tryd.underlying3 rfl rfl rfl (by first | assumption | exact Own.sl (by assumption)) (by assumption) | exact Yld.loadRow1 (cl := 105) Tryd.underlying3 rfl rfl rfl (by first | assumption | exact Own.sl (by assumption)) (by assumption) | exact Yld.loadRow1 (cl := 108) Tryd.underlying3 rfl rfl rfl (by first | assumption | exact Own.sl (by assumption)) (by assumption) | exact Yld.loadRow1 (cl := 150) Tryd.underlying3 rfl rfl rfl (by first | assumption | exact Own.sl (by assumption)) (by assumption) | exact Yld.loadRow1 (cl := 151) Tryd.underlying3 rfl rfl rfl (by first | assumption | exact Own.sl (by assumption)) (by assumption) | exact Yld.loadRow1 (cl := 152) Tryd.underlying3 rfl rfl rfl (by first | assumption | exact Own.sl (by assumption)) (by assumption) | exact Yld.loadRow1 (cl := 160) Tryd.underlying3 rfl rfl rfl (by first | assumption | exact Own.sl (by assumption)) (by assumption) | exact Yld.loadRow1 (cl := 161) Tryd.underlying3 rfl rfl rfl (by first | assumption | exact Own.sl (by assumption)) (by assumption) | exact Yld.loadRow1 (cl := 180) Tryd.underlying3 rfl rfl rfl (by first | assumption | exact Own.sl (by assumption)) (by assumption) | exact Yld.loadRow1 (cl := 181) Tryd.underlying3 rfl rfl rfl (by first | assumption | exact Own.sl (by assumption)) (by assumption)) | exact (by first | exact Yld.loadRowF (cl := 1) (j := 0) Tryd.underlying3 rfl rfl rfl (by first | assumption | exact Own.sl (by assumption)) (by assumption) rfl | exact Yld.loadRowF (cl := 105) (j := 0) Tryd.underlying3 rfl rfl rfl (by first | assumption | exact Own.sl (by assumption)) (by assumption) rfl | exact Yld.loadRowF (cl := 108) (j := 0) Tryd.underlying3 rfl rfl rfl (by first | assumption | exact Own.sl (by assumption)) (by assumption) rfl | exact Yld.loadRowF (cl := 150) (j := 0) Tryd.underlying3 rfl rfl rfl (by first | assumption | exact Own.sl (by assumption)) (by assumption) rfl | exact Yld.loadRowF (cl := 151) (j := 0) Tryd.underlying3 rfl rfl rfl (by first | assumption | exact Own.sl (by assumption)) (by assumption) rfl | exact Yld.loadRowF (cl := 152) (j := 0) Tryd.underlying3 rfl rfl rfl (by first | assumption | exact Own.sl (by assumption)) (by assumption) rfl | exact Yld.loadRowF (cl := 160) (j := 0) Tryd.underlying3 rfl rfl rfl (by first | assumption | exact Own.sl (by assumption)) (by assumption) rfl | exact Yld.loadRowF (cl := 161) (j := 0) Tryd.underlying3 rfl rfl rfl (by first | assumption | exact Own.sl (by assumption)) (by assumption) rfl | exact Yld.loadRowF (cl := 180) (j := 0) Tryd.underlying3 rfl rfl rfl (by first | assumption | exact Own.sl (by assumption)) (by assumption) rfl | exact Yld.loadRowF (cl := 181) (j := 0) Tryd.underlying3 rfl rfl rfl (by first | assumption | exact Own.sl (by assumption)) (by assumption) rfl)) rfl ?_
            refine RL.q (Yld.assign rfl) rfl ?_
            refine RL.nil ?_
            refine N.next ?_
            refine W.seq ?_
            refine W.region ?_
            refine RL.q (Yld.move rfl) rfl ?_
            refine RL.q (Yld.move rfl) rfl ?_
            refine RL.e (Eff.call ent12 [160] [160] (.cons rfl (.cons rfl .nil)) (has_ct x.o _ _ _ hOa.sl z) rfl rfl rfl rfl (by rintro _ _ ⟨_, rfl⟩; rfl)) rfl ?_
            rintro _ _ ⟨_, ⟨rfl, rfl⟩, rfl⟩
            refine RL.q (by first | exact Yld.notD rfl | exact Yld.not rfl) rfl ?_
            refine RL.q (Yld.move rfl) rfl ?_
            refine' RL.and (t := 133) (d := 138) 5 rfl (.cons (k := 5) rfl (.cons (k := 7) rfl (.cons (k := 11) rfl (.cons (k := 12) rfl (.cons (k := 15) rfl (.cons (k := 123) rfl (.cons (k := 124) rfl (.cons (k := 125) rfl (.cons (k := 126) rfl (.cons (k := 127) rfl (.cons (k := 128) rfl (.cons (k := 129) rfl (.cons (k := 130) rfl (.cons (k := 131) rfl (.cons (k := 132) rfl .nil))))))))))))))) (.cons (k := 0) rfl (.cons (k := 1) rfl (.cons (k := 105) rfl (.cons (k := 108) rfl (.cons (k := 150) rfl (.cons (k := 151) rfl (.cons (k := 152) rfl (.cons (k := 160) rfl (.cons (k := 161) rfl (.cons (k := 180) rfl (.cons (k := 181) rfl .nil))))))))))) ?_ ?_ ?_
            rotate_left 1
            ·
              intro hg133
              refine RL.gq rfl rfl (Yld.move rfl) rfl ?_
              refine RL.gq rfl rfl (Yld.move rfl) rfl ?_
              refine RL.ge rfl rfl (Eff.call ent12 [161] [161] (.cons rfl (.cons rfl .nil)) (has_ct x.n _ _ _ hOb.sl z) rfl rfl rfl rfl (by rintro _ _ ⟨_, rfl⟩; rfl)) rfl ?_
              rintro _ _ ⟨_, ⟨rfl, rfl⟩, rfl⟩
              refine RL.gq rfl rfl (by first | exact Yld.notD rfl | exact Yld.not rfl) rfl ?_
              refine RL.q (by first | exact Yld.pickT rfl rfl | exact Yld.pickF rfl rfl) rfl ?_
              exact RL.nil (N.meet (.cons rfl (.cons rfl (.cons rfl (.cons rfl (.cons rfl (.cons rfl (.cons rfl (.cons rfl (.cons rfl (.cons rfl (.cons rfl (.cons rfl (.cons rfl (.cons rfl (.cons rfl (.cons rfl .nil)))))))))))))))) (.cons rfl (.cons rfl (.cons rfl (.cons rfl (.cons rfl (.cons rfl (.cons rfl (.cons rfl (.cons rfl (.cons rfl (.cons rfl .nil))))))))))))
            ·
              intro hg133
              refine RL.gskip rfl rfl rfl rfl ?_
              refine RL.gskip rfl rfl rfl rfl ?_
              refine RL.gskip rfl rfl rfl rfl ?_
              refine RL.gskip rfl rfl rfl rfl ?_
              refine RL.q (by first | exact Yld.pickT rfl rfl | exact Yld.pickF rfl rfl) rfl ?_
              exact RL.nil (N.meet (.cons rfl (.cons rfl (.cons rfl (.cons rfl (.cons rfl (.cons rfl (.cons rfl (.cons rfl (.cons rfl (.cons rfl (.cons rfl (.cons rfl (.cons rfl (.cons rfl (.cons rfl (.cons rfl .nil)))))))))))))))) (.cons rfl (.cons rfl (.cons rfl (.cons rfl (.cons rfl (.cons rfl (.cons rfl (.cons rfl (.cons rfl (.cons rfl (.cons rfl .nil))))))))))))
            refine RL.q (Yld.move rfl) rfl ?_
            refine' RL.or (t := 139) (d := 144) 5 rfl (.cons (k := 5) rfl (.cons (k := 7) rfl (.cons (k := 11) rfl (.cons (k := 12) rfl (.cons (k := 15) rfl (.cons (k := 123) rfl (.cons (k := 124) rfl (.cons (k := 125) rfl (.cons (k := 126) rfl (.cons (k := 127) rfl (.cons (k := 128) rfl (.cons (k := 129) rfl (.cons (k := 130) rfl (.cons (k := 131) rfl (.cons (k := 132) rfl (.cons (k := 138) rfl .nil)))))))))))))))) (.cons (k := 0) rfl (.cons (k := 1) rfl (.cons (k := 105) rfl (.cons (k := 108) rfl (.cons (k := 150) rfl (.cons (k := 151) rfl (.cons (k := 152) rfl (.cons (k := 160) rfl (.cons (k := 161) rfl (.cons (k := 180) rfl (.cons (k := 181) rfl .nil))))))))))) ?_ ?_ ?_
            rotate_left 1
            ·
              intro hg139
              refine RL.gq rfl rfl (Yld.move rfl) rfl ?_
              refine RL.ge rfl rfl (Eff.call ent15 [150, 151] [150, 151, 182] (.cons rfl .nil) (mlea_ct b x2 G2 hx2 (by omega)) rfl rfl rfl rfl (by rintro _ _ ⟨_, _, _, _, _, rfl⟩; rfl)) rfl ?_
              rintro _ _ ⟨_, ⟨Hk, pk, ck, rfl, hOk, rfl⟩, rfl⟩
              refine RL.gq rfl rfl (Yld.move rfl) rfl ?_
              refine RL.ge rfl rfl (Eff.call ent12 [182] [182] (.cons rfl (.cons rfl .nil)) (has_ct x2.n _ _ _ hOk.sl z) rfl rfl rfl rfl (by rintro _ _ ⟨_, rfl⟩; rfl)) rfl ?_
              rintro _ _ ⟨_, ⟨rfl, rfl⟩, rfl⟩
              refine RL.q (by first | exact Yld.pickT rfl rfl | exact Yld.pickF rfl rfl) rfl ?_
              exact RL.nil (N.meet (.cons rfl (.cons rfl (.cons rfl (.cons rfl (.cons rfl (.cons rfl (.cons rfl (.cons rfl (.cons rfl (.cons rfl (.cons rfl (.cons rfl (.cons rfl (.cons rfl (.cons rfl (.cons rfl (.cons rfl .nil))))))))))))))))) (.cons rfl (.cons rfl (.cons rfl (.cons rfl (.cons rfl (.cons rfl (.cons rfl (.cons rfl (.cons rfl (.cons rfl (.cons rfl .nil))))))))))))
            ·
              intro hg139
              refine RL.gskip rfl rfl rfl rfl ?_
              refine RL.gskip rfl rfl rfl rfl ?_
              refine RL.gskip rfl rfl rfl rfl ?_
              refine RL.gskip rfl rfl rfl rfl ?_
              refine RL.q (by first | exact Yld.pickT rfl rfl | exact Yld.pickF rfl rfl) rfl ?_
              exact RL.nil (N.meet (.cons rfl (.cons rfl (.cons rfl (.cons rfl (.cons rfl (.cons rfl (.cons rfl (.cons rfl (.cons rfl (.cons rfl (.cons rfl (.cons rfl (.cons rfl (.cons rfl (.cons rfl (.cons rfl (.cons rfl .nil))))))))))))))))) (.cons rfl (.cons rfl (.cons rfl (.cons rfl (.cons rfl (.cons rfl (.cons rfl (.cons rfl (.cons rfl (.cons rfl (.cons rfl .nil))))))))))))
            refine RL.nil ?_
            refine N.next ?_
            refine W.keep (.cons (k := 5) rfl (.cons (k := 7) rfl (.cons (k := 11) rfl (.cons (k := 12) rfl (.cons (k := 123) rfl (.cons (k := 124) rfl (.cons (k := 125) rfl (.cons (k := 144) rfl .nil)))))))) (.cons (k := 0) rfl (.cons (k := 1) rfl (.cons (k := 105) rfl (.cons (k := 108) rfl (.cons (k := 150) rfl (.cons (k := 151) rfl (.cons (k := 152) rfl (.cons (k := 160) rfl (.cons (k := 161) rfl (.cons (k := 180) rfl (.cons (k := 181) rfl .nil))))))))))) ?_
            refine W.cond rfl (fun hc144 => ?_) (fun hc144 => ?_)
            ·
              exfalso
              simp only [Bool.or_eq_true, Bool.and_eq_true, decide_eq_true_eq] at hc144
              rcases hc144 with ⟨h1, h2⟩ | h
              · exact hz1.elim h1 h2
              · exact hz2 h --stop
            ·
              refine W.skip ?_
              refine N.block_normal ?_
              refine N.next ?_
              refine W.region ?_
              refine RL.q (Yld.bin rfl rfl (by first | exact BinV.add (by omega) (by omega) | exact BinV.addW)) rfl ?_
              refine RL.q (Yld.move rfl) rfl ?_
              refine RL.nil ?_
              exact N.famK (i + 1) ⟨by omega, by omega⟩ (.as rfl (by first | rfl | (simp; done) | (congr 1; simp; done) | (congr 1; omega)) .nil) (.cons rfl (.cons rfl (.cons rfl (.cons rfl (.cons rfl (.cons rfl .nil)))))) .nil (.cons rfl (.cons rfl (.cons rfl (.cons rfl (.cons rfl (.cons rfl (.cons rfl (.cons rfl (.cons rfl (.cons rfl (.cons rfl .nil)))))))))))
          ·
            refine W.exit ?_
            refine N.then_exit ?_
            refine N.then_exit ?_
            refine N.block_eq ?_
            refine N.next ?_
            refine W.keep (.cons (k := 5) rfl .nil) (.cons (k := 0) rfl (.cons (k := 1) rfl (.cons (k := 105) rfl (.cons (k := 108) rfl (.cons (k := 150) rfl (.cons (k := 151) rfl (.cons (k := 152) rfl (.cons (k := 160) rfl (.cons (k := 161) rfl (.cons (k := 180) rfl (.cons (k := 181) rfl .nil))))))))))) ?_
            refine W.seq ?_
            refine W.region ?_
            refine RL.q (Yld.fieldAddr fo37_3 rfl) rfl ?_
            refine RL.q (Yld.load1 (c := 105) Tryd.underlying22 rfl rfl rfl (by first | exact single_self _ _ | exact pset_self _ _ _ | assumption) rfl) rfl ?_
            refine RL.q (Yld.lenSl Tryd.underlying22 rfl) rfl ?_
            refine RL.q (Yld.eq (v' := .bool true) (Yld.bin rfl rfl BinV.geq) (by rw [decide_eq_true (by omega)])) rfl ?_
            refine RL.q (Yld.move rfl) rfl ?_
            first | refine RL.as (t := 150) rfl (boolT (by first | assumption | omega | (simp; done))) ?_ | refine RL.as (t := 150) (v := .bool true) rfl rfl ?_
            refine RL.gq rfl rfl (Yld.fieldAddr fo37_3 rfl) rfl ?_
            refine RL.gq rfl rfl (Yld.load1 (c := 105) Tryd.underlying22 rfl rfl rfl (by first | exact single_self _ _ | exact pset_self _ _ _ | assumption) rfl) rfl ?_
            refine RL.gq rfl rfl (Yld.lenSl Tryd.underlying22 rfl) rfl ?_
            refine RL.gq rfl rfl (Yld.eq (v' := .bool true) (Yld.bin rfl rfl BinV.leq) (by rw [decide_eq_true (by omega)])) rfl ?_
            refine RL.q (by first | exact Yld.pickT rfl rfl | exact Yld.pickF rfl rfl) rfl ?_
            refine RL.q (Yld.assign rfl) rfl ?_
            refine RL.nil ?_
            refine N.next ?_
            refine W.keep (.cons (k := 6) rfl .nil) (.cons (k := 0) rfl (.cons (k := 1) rfl (.cons (k := 105) rfl (.cons (k := 108) rfl (.cons (k := 150) rfl (.cons (k := 151) rfl (.cons (k := 152) rfl (.cons (k := 160) rfl (.cons (k := 161) rfl (.cons (k := 180) rfl (.cons (k := 181) rfl .nil))))))))))) ?_
            refine W.ret ?_
            exact N.retBy [1] (.cons (.tmp rfl) .nil) rfl rfl rfl rfl ⟨rfl, rfl⟩

end Go.Proofs.YtdjmdfnhnlijiaaDoor
