/- SnapshotPacks. Written by program (walk2.py). -/
import Derived.Test.YtelmdoobgilhoaaR3
import Derived.Test.YtelmdoobgilhoaaN6
namespace Go.Proofs.Ytelmdoobgilhoaa
open SL Cfg
set_option linter.unusedVariables false
set_option linter.unusedSimpArgs false
theorem ent12 : Ent Try.prog 12 := ⟨_, _, Try.func12, by kernel_rfl, rfl⟩
theorem ent14 : Ent Try.prog 14 := ⟨_, _, Try.func14, by kernel_rfl, rfl⟩
theorem ent16 : Ent Try.prog 16 := ⟨_, _, Try.func16, by kernel_rfl, rfl⟩
theorem ent17 : Ent Try.prog 17 := ⟨_, _, Try.func17, by kernel_rfl, rfl⟩
theorem ent18 : Ent Try.prog 18 := ⟨_, _, Try.func18, by kernel_rfl, rfl⟩
set_option maxRecDepth 100000 in
set_option maxHeartbeats 800000 in
theorem packs_ct (a b g : ByteArray) (x : Cf) (H1 : PH) (hx : x.In H1) (hio : AllI x.o) (hin : AllI x.n) (hil : AllI x.l) : Ct Try.prog 4 [.string a, .string b, .string g, .agg [.slice x.po x.o.length x.co, .slice x.pn x.n.length x.cn, .slice x.pl x.l.length x.cl].toArray] [H1] (fun v Hs => v = .bool true ∧ Hs = [H1]) := by
  refine Ct.body Try.func4 rfl Try.ntmps4 rfl ?_
  intro E F
  refine W.seq ?_
  refine W.region ?_
  refine RL.e (Eff.box 107 _ rfl rfl) rfl ?_
  rintro _ _ ⟨b7, rfl, rfl⟩
  refine RL.q (Yld.assign rfl) rfl ?_
  refine RL.nil ?_
  refine N.next ?_
  refine W.seq ?_
  refine W.seq ?_
  refine W.region ?_
  refine RL.e (Eff.call ent9 [] [] .nil awake_ct rfl rfl rfl rfl (by rintro _ _ ⟨_, rfl⟩; rfl)) rfl ?_
  rintro _ _ ⟨_, ⟨rfl, rfl⟩, rfl⟩
  refine RL.q (by first | exact Yld.notD rfl | exact Yld.not rfl) rfl ?_
  refine RL.nil ?_
  refine N.next ?_
  first | (refine W.as (t := 16) rfl (boolF (by first | assumption | omega | (simp; done))) ?_; refine W.condF rfl ?_) | refine W.condF rfl ?_
  refine W.skip ?_
  refine N.next ?_
  refine W.keep (.cons (k := 0) rfl (.cons (k := 1) rfl (.cons (k := 2) rfl (.cons (k := 7) rfl .nil)))) (.cons (k := 0) rfl (.cons (k := 1) rfl (.cons (k := 107) rfl .nil))) ?_
  refine W.seq ?_
  refine W.seq ?_
  refine W.region ?_
  refine RL.q (Yld.move rfl) rfl ?_
  refine RL.q (Yld.lenS Try.underlying9 rfl) rfl ?_
  refine RL.q (Yld.bin rfl rfl BinV.gtr) rfl ?_
  refine RL.q (Yld.move rfl) rfl ?_
  refine' RL.or (t := 20) (d := 24) 4 rfl (.cons (k := 0) rfl (.cons (k := 1) rfl (.cons (k := 2) rfl (.cons (k := 7) rfl (.cons (k := 17) rfl (.cons (k := 18) rfl (.cons (k := 19) rfl .nil))))))) (.cons (k := 0) rfl (.cons (k := 1) rfl (.cons (k := 107) rfl .nil))) ?_ ?_ ?_
  rotate_left 1
  ·
    intro hg20
    refine RL.gq rfl rfl (Yld.move rfl) rfl ?_
    refine RL.gq rfl rfl (Yld.lenS Try.underlying9 rfl) rfl ?_
    refine RL.gq rfl rfl (Yld.bin rfl rfl BinV.gtr) rfl ?_
    refine RL.q (by first | exact Yld.pickT rfl rfl | exact Yld.pickF rfl rfl) rfl ?_
    exact RL.nil (N.meet (.cons rfl (.cons rfl (.cons rfl (.cons rfl (.cons rfl (.cons rfl (.cons rfl (.cons rfl .nil)))))))) (.cons rfl (.cons rfl (.cons rfl .nil))))
  ·
    intro hg20
    refine RL.gskip rfl rfl rfl rfl ?_
    refine RL.gskip rfl rfl rfl rfl ?_
    refine RL.gskip rfl rfl rfl rfl ?_
    refine RL.q (by first | exact Yld.pickT rfl rfl | exact Yld.pickF rfl rfl) rfl ?_
    exact RL.nil (N.meet (.cons rfl (.cons rfl (.cons rfl (.cons rfl (.cons rfl (.cons rfl (.cons rfl (.cons rfl .nil)))))))) (.cons rfl (.cons rfl (.cons rfl .nil))))
  refine RL.q (Yld.move rfl) rfl ?_
  refine' RL.or (t := 25) (d := 29) 4 rfl (.cons (k := 0) rfl (.cons (k := 1) rfl (.cons (k := 2) rfl (.cons (k := 7) rfl (.cons (k := 17) rfl (.cons (k := 18) rfl (.cons (k := 19) rfl (.cons (k := 24) rfl .nil)))))))) (.cons (k := 0) rfl (.cons (k := 1) rfl (.cons (k := 107) rfl .nil))) ?_ ?_ ?_
  rotate_left 1
  ·
    intro hg25
    refine RL.gq rfl rfl (Yld.move rfl) rfl ?_
    refine RL.gq rfl rfl (Yld.lenS Try.underlying9 rfl) rfl ?_
    refine RL.gq rfl rfl (Yld.bin rfl rfl BinV.gtr) rfl ?_
    refine RL.q (by first | exact Yld.pickT rfl rfl | exact Yld.pickF rfl rfl) rfl ?_
    exact RL.nil (N.meet (.cons rfl (.cons rfl (.cons rfl (.cons rfl (.cons rfl (.cons rfl (.cons rfl (.cons rfl (.cons rfl .nil))))))))) (.cons rfl (.cons rfl (.cons rfl .nil))))
  ·
    intro hg25
    refine RL.gskip rfl rfl rfl rfl ?_
    refine RL.gskip rfl rfl rfl rfl ?_
    refine RL.gskip rfl rfl rfl rfl ?_
    refine RL.q (by first | exact Yld.pickT rfl rfl | exact Yld.pickF rfl rfl) rfl ?_
    exact RL.nil (N.meet (.cons rfl (.cons rfl (.cons rfl (.cons rfl (.cons rfl (.cons rfl (.cons rfl (.cons rfl (.cons rfl .nil))))))))) (.cons rfl (.cons rfl (.cons rfl .nil))))
  refine RL.q (Yld.move rfl) rfl ?_
  refine' RL.or (t := 30) (d := 34) 4 rfl (.cons (k := 0) rfl (.cons (k := 1) rfl (.cons (k := 2) rfl (.cons (k := 7) rfl (.cons (k := 17) rfl (.cons (k := 18) rfl (.cons (k := 19) rfl (.cons (k := 24) rfl (.cons (k := 29) rfl .nil))))))))) (.cons (k := 0) rfl (.cons (k := 1) rfl (.cons (k := 107) rfl .nil))) ?_ ?_ ?_
  rotate_left 1
  ·
    intro hg30
    refine RL.gq rfl rfl (Yld.loadW (c := 107) Try.underlying29 rfl sz29 rfl rfl (by first | exact single_self _ _ | exact pset_self _ _ _ | assumption) rfl) rfl ?_
    refine RL.ge rfl rfl (Eff.call ent12 [1] [1] (.cons rfl (.cons rfl .nil)) (cfew_ct x H1 hx 8) rfl rfl rfl rfl (by rintro _ _ ⟨_, rfl⟩; rfl)) rfl ?_
    rintro _ _ ⟨_, ⟨rfl, rfl⟩, rfl⟩
    refine RL.gq rfl rfl (by first | exact Yld.notD rfl | exact Yld.not rfl) rfl ?_
    refine RL.q (by first | exact Yld.pickT rfl rfl | exact Yld.pickF rfl rfl) rfl ?_
    exact RL.nil (N.meet (.cons rfl (.cons rfl (.cons rfl (.cons rfl (.cons rfl (.cons rfl (.cons rfl (.cons rfl (.cons rfl (.cons rfl .nil)))))))))) (.cons rfl (.cons rfl (.cons rfl .nil))))
  ·
    intro hg30
    refine RL.gskip rfl rfl rfl rfl ?_
    refine RL.gskip rfl rfl rfl rfl ?_
    refine RL.gskip rfl rfl rfl rfl ?_
    refine RL.q (by first | exact Yld.pickT rfl rfl | exact Yld.pickF rfl rfl) rfl ?_
    exact RL.nil (N.meet (.cons rfl (.cons rfl (.cons rfl (.cons rfl (.cons rfl (.cons rfl (.cons rfl (.cons rfl (.cons rfl (.cons rfl .nil)))))))))) (.cons rfl (.cons rfl (.cons rfl .nil))))
  refine RL.nil ?_
  refine N.next ?_
  refine W.keep (.cons (k := 0) rfl (.cons (k := 1) rfl (.cons (k := 2) rfl (.cons (k := 7) rfl (.cons (k := 34) rfl .nil))))) (.cons (k := 0) rfl (.cons (k := 1) rfl (.cons (k := 107) rfl .nil))) ?_
  refine W.cond rfl (fun hc34 => ?_) (fun hc34 => ?_)
  ·
    refine W.seq ?_
    refine W.region ?_
    refine RL.q (Yld.assign rfl) rfl ?_
    refine RL.nil ?_
    refine N.next ?_
    refine W.keep (.cons (k := 8) rfl .nil) (.cons (k := 0) rfl (.cons (k := 1) rfl (.cons (k := 107) rfl .nil))) ?_
    refine W.ret ?_
    refine N.then_ret ?_
    exact N.retBy [1] (.cons (.tmp rfl) .nil) rfl rfl rfl rfl ⟨rfl, rfl⟩
  ·
    have hf : a.size ≤ 60 ∧ b.size ≤ 60 ∧ g.size ≤ 60 ∧ (x.o.length : Int) ≤ 8 ∧ (x.n.length : Int) ≤ 8 ∧ (x.l.length : Int) ≤ 8 := by simp at hc34; omega
    obtain ⟨ha, hb, hg, h1, h2, h3⟩ := hf
    have hsm : x.Sm := ⟨hio, hin, hil, by omega, by omega, by omega⟩
    have hle := hsm.le
    refine W.skip ?_
    refine N.next ?_
    refine W.seq ?_
    refine W.region ?_
    refine RL.q (Yld.move rfl) rfl ?_
    refine RL.q (Yld.move rfl) rfl ?_
    refine RL.q (Yld.move rfl) rfl ?_
    refine RL.q (Yld.loadW (c := 107) Try.underlying29 rfl sz29 rfl rfl (by first | exact single_self _ _ | exact pset_self _ _ _ | assumption) rfl) rfl ?_
    refine RL.e (Eff.call ent13 [1] [1] (.cons rfl (.cons rfl (.cons rfl (.cons rfl .nil)))) (pack_ct a b g (by omega) (by omega) (by omega) x H1 hx hsm) rfl rfl rfl rfl (by rintro _ _ ⟨_, rfl⟩; rfl)) rfl ?_
    rintro _ _ ⟨_, ⟨rfl, rfl⟩, rfl⟩
    refine RL.q (Yld.assign rfl) rfl ?_
    refine RL.nil ?_
    refine N.next ?_
    refine W.keep (.cons (k := 0) rfl (.cons (k := 1) rfl (.cons (k := 2) rfl (.cons (k := 7) rfl (.cons (k := 9) rfl .nil))))) (.cons (k := 0) rfl (.cons (k := 1) rfl (.cons (k := 107) rfl .nil))) ?_
    refine W.seq ?_
    refine W.seq ?_
    refine W.region ?_
    refine RL.q (Yld.move rfl) rfl ?_
    refine RL.q (Yld.move rfl) rfl ?_
    refine RL.q (Yld.move rfl) rfl ?_
    refine RL.q (Yld.move rfl) rfl ?_
    refine RL.q (Yld.loadW (c := 107) Try.underlying29 rfl sz29 rfl rfl (by first | exact single_self _ _ | exact pset_self _ _ _ | assumption) rfl) rfl ?_
    refine RL.e (Eff.call ent14 [1] [1] (.cons rfl (.cons rfl (.cons rfl (.cons rfl .nil)))) (rpack_ct a b g (by omega) (by omega) (by omega) x H1 hx hsm) rfl rfl rfl rfl (by rintro _ _ ⟨_, rfl⟩; rfl)) rfl ?_
    rintro _ _ ⟨_, ⟨rfl, rfl⟩, rfl⟩
    obtain ⟨pk, hpk⟩ : ∃ pk, packL (nums a) (nums b) (nums g) x.enc = pk := ⟨_, rfl⟩
    rw [hpk]
    have hpb : Byt pk := by rw [← hpk]; exact packL_byt (nums_byt _) (nums_byt _) (nums_byt _) hsm.byt (by rw [nums_len]; omega) (by rw [nums_len]; omega) (by rw [nums_len]; omega) (by omega)
    have hpl : (strOfNums pk).size ≤ 400000 := by rw [strOfNums_size, ← hpk]; unfold packL; simp only [List.length_append]; have := encT_len (s := a) (by omega); have := encT_len (s := b) (by omega); have := encT_len (s := g) (by omega); have := encT_len (s := strOfNums x.enc) (by rw [strOfNums_size]; omega); rw [nums_str hsm.byt, strOfNums_size] at this; omega
    refine RL.q (Yld.bin rfl rfl BinV.neqS) rfl ?_
    refine RL.nil ?_
    refine N.next ?_
    refine W.keep (.cons (k := 0) rfl (.cons (k := 1) rfl (.cons (k := 2) rfl (.cons (k := 7) rfl (.cons (k := 9) rfl (.cons (k := 46) rfl .nil)))))) (.cons (k := 0) rfl (.cons (k := 1) rfl (.cons (k := 107) rfl .nil))) ?_
    first | refine W.condD rfl (fun hc46 => ?_) (fun hc46 => ?_) | (refine W.cond rfl (fun hc46 => ?_) (fun hc46 => ?_) <;> try simp only [Bool.or_eq_true, Bool.and_eq_true, Bool.not_eq_true', Bool.not_eq_false', decide_eq_true_eq, Bool.or_eq_false_iff, Bool.and_eq_false_iff, decide_eq_false_iff_not, beq_iff_eq, beq_eq_false_iff_ne, ne_eq, Decidable.not_not] at hc46)
    ·
      exact absurd rfl hc46
    ·
      refine W.skip ?_
      refine N.next ?_
      refine W.seq ?_
      refine W.region ?_
      refine RL.q (Yld.move rfl) rfl ?_
      refine RL.e (Eff.call ent15 [] [160] (.cons rfl .nil) (unpack_ct (strOfNums pk) hpl) rfl rfl rfl rfl (by rintro _ _ ⟨_, _, _, _, _, _, _, _, _, rfl⟩; rfl)) rfl ?_
      rintro _ _ ⟨_, ⟨a', b', g', y, code, H2, rfl, hyI, hyR, rfl⟩, rfl⟩
      rw [nums_str hpb, ← hpk] at hyR
      have hup := unp_pack (by rw [nums_len]; omega) (by rw [nums_len]; omega) (by rw [nums_len]; omega) hsm hyR
      refine RL.q (Yld.move rfl) rfl ?_
      refine RL.q (Yld.extract rfl rfl) rfl ?_
      refine RL.q (Yld.extract rfl rfl) rfl ?_
      refine RL.q (Yld.extract rfl rfl) rfl ?_
      refine RL.q (Yld.extract rfl rfl) rfl ?_
      refine RL.q (Yld.extract rfl rfl) rfl ?_
      refine RL.e (Eff.alloc 113 zc29) rfl ?_
      rintro _ _ ⟨b13, rfl, rfl⟩
      refine RL.q (Yld.assign rfl) rfl ?_
      refine RL.q (Yld.assign rfl) rfl ?_
      refine RL.q (Yld.assign rfl) rfl ?_
      refine RL.e0 (Eff.storeS (c := 113) _ sz29 rfl rfl rfl rfl rfl rfl rfl (by (try simp only [putAt, List.take, List.drop, List.nil_append, List.cons_append, List.append_nil, List.length_cons, List.length_nil, Nat.add_zero, Nat.zero_add, Nat.reduceAdd]); rfl)) ?_
      rintro _ _ rfl
      refine RL.q (Yld.assign rfl) rfl ?_
      refine RL.nil ?_
      refine N.next ?_
      refine W.keep (.cons (k := 0) rfl (.cons (k := 1) rfl (.cons (k := 2) rfl (.cons (k := 7) rfl (.cons (k := 10) rfl (.cons (k := 11) rfl (.cons (k := 12) rfl (.cons (k := 13) rfl (.cons (k := 14) rfl .nil))))))))) (.cons (k := 0) rfl (.cons (k := 1) rfl (.cons (k := 107) rfl (.cons (k := 113) rfl (.cons (k := 160) rfl .nil))))) ?_
      refine W.seq ?_
      refine W.seq ?_
      refine W.region ?_
      refine RL.q (Yld.loadW (c := 107) Try.underlying29 rfl sz29 rfl rfl (by first | exact single_self _ _ | exact pset_self _ _ _ | assumption) rfl) rfl ?_
      refine RL.e (Eff.call ent16 [1] [1] (.cons rfl .nil) (rcvalid_ct x H1 hx (by omega) (by omega) (by omega)) rfl rfl rfl rfl (by rintro _ _ ⟨_, rfl⟩; rfl)) rfl ?_
      rintro _ _ ⟨_, ⟨rfl, rfl⟩, rfl⟩
      refine RL.q (Yld.move rfl) rfl ?_
      refine' RL.or (t := 57) (d := 60) 3 rfl (.cons (k := 0) rfl (.cons (k := 1) rfl (.cons (k := 2) rfl (.cons (k := 7) rfl (.cons (k := 10) rfl (.cons (k := 11) rfl (.cons (k := 12) rfl (.cons (k := 13) rfl (.cons (k := 14) rfl (.cons (k := 55) rfl (.cons (k := 56) rfl .nil))))))))))) (.cons (k := 0) rfl (.cons (k := 1) rfl (.cons (k := 107) rfl (.cons (k := 113) rfl (.cons (k := 160) rfl .nil))))) ?_ ?_ ?_
      rotate_left 1
      ·
        intro hg57
        refine RL.gq rfl rfl (Yld.loadW (c := 107) Try.underlying29 rfl sz29 rfl rfl (by first | exact single_self _ _ | exact pset_self _ _ _ | assumption) rfl) rfl ?_
        refine RL.ge rfl rfl (Eff.call ent17 [1] [1] (.cons rfl .nil) (rblank_ct x H1 hx (by omega) (by omega) (by omega)) rfl rfl rfl rfl (by rintro _ _ ⟨_, rfl⟩; rfl)) rfl ?_
        rintro _ _ ⟨_, ⟨rfl, rfl⟩, rfl⟩
        refine RL.q (by first | exact Yld.pickT rfl rfl | exact Yld.pickF rfl rfl) rfl ?_
        exact RL.nil (N.meet (.cons rfl (.cons rfl (.cons rfl (.cons rfl (.cons rfl (.cons rfl (.cons rfl (.cons rfl (.cons rfl (.cons rfl (.cons rfl (.cons rfl .nil)))))))))))) (.cons rfl (.cons rfl (.cons rfl (.cons rfl (.cons rfl .nil))))))
      ·
        intro hg57
        refine RL.gskip rfl rfl rfl rfl ?_
        refine RL.gskip rfl rfl rfl rfl ?_
        refine RL.q (by first | exact Yld.pickT rfl rfl | exact Yld.pickF rfl rfl) rfl ?_
        exact RL.nil (N.meet (.cons rfl (.cons rfl (.cons rfl (.cons rfl (.cons rfl (.cons rfl (.cons rfl (.cons rfl (.cons rfl (.cons rfl (.cons rfl (.cons rfl .nil)))))))))))) (.cons rfl (.cons rfl (.cons rfl (.cons rfl (.cons rfl .nil))))))
      refine RL.nil ?_
      refine N.next ?_
      refine W.cond rfl (fun hc60 => ?_) (fun hc60 => ?_)
      ·
        obtain ⟨rfl, rfl, rfl, rfl, hy3⟩ := hup.1 (by simpa [Cf.blank] using hc60)
        simp only [Prod.mk.injEq] at hy3
        refine W.seq ?_
        refine W.region ?_
        refine RL.q (Yld.move rfl) rfl ?_
        refine RL.q (Yld.bin rfl rfl BinV.eql) rfl ?_
        refine RL.q (Yld.move rfl) rfl ?_
        refine' RL.and (t := 63) (d := 67) 4 rfl (.cons (k := 0) rfl (.cons (k := 1) rfl (.cons (k := 2) rfl (.cons (k := 7) rfl (.cons (k := 10) rfl (.cons (k := 11) rfl (.cons (k := 12) rfl (.cons (k := 13) rfl (.cons (k := 14) rfl (.cons (k := 55) rfl (.cons (k := 56) rfl (.cons (k := 60) rfl (.cons (k := 61) rfl (.cons (k := 62) rfl .nil)))))))))))))) (.cons (k := 0) rfl (.cons (k := 1) rfl (.cons (k := 107) rfl (.cons (k := 113) rfl (.cons (k := 160) rfl .nil))))) ?_ ?_ ?_
        rotate_left 1
        ·
          intro hg63
          refine RL.gq rfl rfl (Yld.move rfl) rfl ?_
          refine RL.gq rfl rfl (Yld.move rfl) rfl ?_
          refine RL.gq rfl rfl (Yld.bin rfl rfl BinV.eqlS) rfl ?_
          refine RL.q (by first | exact Yld.pickT rfl rfl | exact Yld.pickF rfl rfl) rfl ?_
          exact RL.nil (N.meet (.cons rfl (.cons rfl (.cons rfl (.cons rfl (.cons rfl (.cons rfl (.cons rfl (.cons rfl (.cons rfl (.cons rfl (.cons rfl (.cons rfl (.cons rfl (.cons rfl (.cons rfl .nil))))))))))))))) (.cons rfl (.cons rfl (.cons rfl (.cons rfl (.cons rfl .nil))))))
        ·
          intro hg63
          refine RL.gskip rfl rfl rfl rfl ?_
          refine RL.gskip rfl rfl rfl rfl ?_
          refine RL.gskip rfl rfl rfl rfl ?_
          refine RL.q (by first | exact Yld.pickT rfl rfl | exact Yld.pickF rfl rfl) rfl ?_
          exact RL.nil (N.meet (.cons rfl (.cons rfl (.cons rfl (.cons rfl (.cons rfl (.cons rfl (.cons rfl (.cons rfl (.cons rfl (.cons rfl (.cons rfl (.cons rfl (.cons rfl (.cons rfl (.cons rfl .nil))))))))))))))) (.cons rfl (.cons rfl (.cons rfl (.cons rfl (.cons rfl .nil))))))
        refine RL.q (Yld.move rfl) rfl ?_
        refine' RL.and (t := 68) (d := 72) 4 rfl (.cons (k := 0) rfl (.cons (k := 1) rfl (.cons (k := 2) rfl (.cons (k := 7) rfl (.cons (k := 10) rfl (.cons (k := 11) rfl (.cons (k := 12) rfl (.cons (k := 13) rfl (.cons (k := 14) rfl (.cons (k := 55) rfl (.cons (k := 56) rfl (.cons (k := 60) rfl (.cons (k := 61) rfl (.cons (k := 62) rfl (.cons (k := 67) rfl .nil))))))))))))))) (.cons (k := 0) rfl (.cons (k := 1) rfl (.cons (k := 107) rfl (.cons (k := 113) rfl (.cons (k := 160) rfl .nil))))) ?_ ?_ ?_
        rotate_left 1
        ·
          intro hg68
          refine RL.gq rfl rfl (Yld.move rfl) rfl ?_
          refine RL.gq rfl rfl (Yld.move rfl) rfl ?_
          refine RL.gq rfl rfl (Yld.bin rfl rfl BinV.eqlS) rfl ?_
          refine RL.q (by first | exact Yld.pickT rfl rfl | exact Yld.pickF rfl rfl) rfl ?_
          exact RL.nil (N.meet (.cons rfl (.cons rfl (.cons rfl (.cons rfl (.cons rfl (.cons rfl (.cons rfl (.cons rfl (.cons rfl (.cons rfl (.cons rfl (.cons rfl (.cons rfl (.cons rfl (.cons rfl (.cons rfl .nil)))))))))))))))) (.cons rfl (.cons rfl (.cons rfl (.cons rfl (.cons rfl .nil))))))
        ·
          intro hg68
          refine RL.gskip rfl rfl rfl rfl ?_
          refine RL.gskip rfl rfl rfl rfl ?_
          refine RL.gskip rfl rfl rfl rfl ?_
          refine RL.q (by first | exact Yld.pickT rfl rfl | exact Yld.pickF rfl rfl) rfl ?_
          exact RL.nil (N.meet (.cons rfl (.cons rfl (.cons rfl (.cons rfl (.cons rfl (.cons rfl (.cons rfl (.cons rfl (.cons rfl (.cons rfl (.cons rfl (.cons rfl (.cons rfl (.cons rfl (.cons rfl (.cons rfl .nil)))))))))))))))) (.cons rfl (.cons rfl (.cons rfl (.cons rfl (.cons rfl .nil))))))
        refine RL.q (Yld.move rfl) rfl ?_
        refine' RL.and (t := 73) (d := 77) 4 rfl (.cons (k := 0) rfl (.cons (k := 1) rfl (.cons (k := 2) rfl (.cons (k := 7) rfl (.cons (k := 10) rfl (.cons (k := 11) rfl (.cons (k := 12) rfl (.cons (k := 13) rfl (.cons (k := 14) rfl (.cons (k := 55) rfl (.cons (k := 56) rfl (.cons (k := 60) rfl (.cons (k := 61) rfl (.cons (k := 62) rfl (.cons (k := 67) rfl (.cons (k := 72) rfl .nil)))))))))))))))) (.cons (k := 0) rfl (.cons (k := 1) rfl (.cons (k := 107) rfl (.cons (k := 113) rfl (.cons (k := 160) rfl .nil))))) ?_ ?_ ?_
        rotate_left 1
        ·
          intro hg73
          refine RL.gq rfl rfl (Yld.move rfl) rfl ?_
          refine RL.gq rfl rfl (Yld.move rfl) rfl ?_
          refine RL.gq rfl rfl (Yld.bin rfl rfl BinV.eqlS) rfl ?_
          refine RL.q (by first | exact Yld.pickT rfl rfl | exact Yld.pickF rfl rfl) rfl ?_
          exact RL.nil (N.meet (.cons rfl (.cons rfl (.cons rfl (.cons rfl (.cons rfl (.cons rfl (.cons rfl (.cons rfl (.cons rfl (.cons rfl (.cons rfl (.cons rfl (.cons rfl (.cons rfl (.cons rfl (.cons rfl (.cons rfl .nil))))))))))))))))) (.cons rfl (.cons rfl (.cons rfl (.cons rfl (.cons rfl .nil))))))
        ·
          intro hg73
          refine RL.gskip rfl rfl rfl rfl ?_
          refine RL.gskip rfl rfl rfl rfl ?_
          refine RL.gskip rfl rfl rfl rfl ?_
          refine RL.q (by first | exact Yld.pickT rfl rfl | exact Yld.pickF rfl rfl) rfl ?_
          exact RL.nil (N.meet (.cons rfl (.cons rfl (.cons rfl (.cons rfl (.cons rfl (.cons rfl (.cons rfl (.cons rfl (.cons rfl (.cons rfl (.cons rfl (.cons rfl (.cons rfl (.cons rfl (.cons rfl (.cons rfl (.cons rfl .nil))))))))))))))))) (.cons rfl (.cons rfl (.cons rfl (.cons rfl (.cons rfl .nil))))))
        refine RL.q (Yld.move rfl) rfl ?_
        refine' RL.and (t := 78) (d := 82) 4 rfl (.cons (k := 0) rfl (.cons (k := 1) rfl (.cons (k := 2) rfl (.cons (k := 7) rfl (.cons (k := 10) rfl (.cons (k := 11) rfl (.cons (k := 12) rfl (.cons (k := 13) rfl (.cons (k := 14) rfl (.cons (k := 55) rfl (.cons (k := 56) rfl (.cons (k := 60) rfl (.cons (k := 61) rfl (.cons (k := 62) rfl (.cons (k := 67) rfl (.cons (k := 72) rfl (.cons (k := 77) rfl .nil))))))))))))))))) (.cons (k := 0) rfl (.cons (k := 1) rfl (.cons (k := 107) rfl (.cons (k := 113) rfl (.cons (k := 160) rfl .nil))))) ?_ ?_ ?_
        rotate_left 1
        ·
          intro hg78
          refine RL.gq rfl rfl (Yld.loadW (c := 113) Try.underlying29 rfl sz29 rfl rfl (by first | exact single_self _ _ | exact pset_self _ _ _ | assumption) rfl) rfl ?_
          refine RL.gq rfl rfl (Yld.loadW (c := 107) Try.underlying29 rfl sz29 rfl rfl (by first | exact single_self _ _ | exact pset_self _ _ _ | assumption) rfl) rfl ?_
          refine RL.ge rfl rfl (Eff.call ent18 [160, 1] [160, 1] (.cons rfl (.cons rfl .nil)) (rsame_ct y H2 hyI x H1 hx) rfl rfl rfl rfl (by rintro _ _ ⟨_, rfl⟩; rfl)) rfl ?_
          rintro _ _ ⟨_, ⟨rfl, rfl⟩, rfl⟩
          refine RL.q (by first | exact Yld.pickT rfl rfl | exact Yld.pickF rfl rfl) rfl ?_
          exact RL.nil (N.meet (.cons rfl (.cons rfl (.cons rfl (.cons rfl (.cons rfl (.cons rfl (.cons rfl (.cons rfl (.cons rfl (.cons rfl (.cons rfl (.cons rfl (.cons rfl (.cons rfl (.cons rfl (.cons rfl (.cons rfl (.cons rfl .nil)))))))))))))))))) (.cons rfl (.cons rfl (.cons rfl (.cons rfl (.cons rfl .nil))))))
        ·
          intro hg78
          refine RL.gskip rfl rfl rfl rfl ?_
          refine RL.gskip rfl rfl rfl rfl ?_
          refine RL.gskip rfl rfl rfl rfl ?_
          refine RL.q (by first | exact Yld.pickT rfl rfl | exact Yld.pickF rfl rfl) rfl ?_
          exact RL.nil (N.meet (.cons rfl (.cons rfl (.cons rfl (.cons rfl (.cons rfl (.cons rfl (.cons rfl (.cons rfl (.cons rfl (.cons rfl (.cons rfl (.cons rfl (.cons rfl (.cons rfl (.cons rfl (.cons rfl (.cons rfl (.cons rfl .nil)))))))))))))))))) (.cons rfl (.cons rfl (.cons rfl (.cons rfl (.cons rfl .nil))))))
        refine RL.q (Yld.assign rfl) rfl ?_
        refine RL.nil ?_
        refine N.next ?_
        refine W.keep (.cons (k := 8) rfl .nil) (.cons (k := 0) rfl (.cons (k := 1) rfl (.cons (k := 107) rfl (.cons (k := 113) rfl (.cons (k := 160) rfl .nil))))) ?_
        refine W.ret ?_
        refine N.then_ret ?_
        exact N.retBy [1] (.cons (.tmp rfl) .nil) rfl rfl rfl rfl ⟨by show Value.bool _ = _; simp [str_nums, hy3], rfl⟩
      ·
        obtain ⟨rfl, rfl, rfl, rfl, rfl⟩ := hup.2 (fun h => by rw [Bool.or_eq_false_iff, decide_eq_false_iff_not, decide_eq_false_iff_not] at hc60; exact h.elim hc60.1 hc60.2)
        refine W.skip ?_
        refine N.next ?_
        refine W.keep (.cons (k := 10) rfl (.cons (k := 11) rfl (.cons (k := 12) rfl (.cons (k := 13) rfl (.cons (k := 14) rfl .nil))))) (.cons (k := 0) rfl (.cons (k := 1) rfl (.cons (k := 107) rfl (.cons (k := 113) rfl (.cons (k := 160) rfl .nil))))) ?_
        refine W.seq ?_
        refine W.region ?_
        refine RL.q (Yld.move rfl) rfl ?_
        refine RL.q (Yld.bin rfl rfl BinV.eql) rfl ?_
        refine RL.q (Yld.move rfl) rfl ?_
        refine' RL.and (t := 85) (d := 88) 3 rfl (.cons (k := 10) rfl (.cons (k := 11) rfl (.cons (k := 12) rfl (.cons (k := 13) rfl (.cons (k := 14) rfl (.cons (k := 83) rfl (.cons (k := 84) rfl .nil))))))) (.cons (k := 0) rfl (.cons (k := 1) rfl (.cons (k := 107) rfl (.cons (k := 113) rfl (.cons (k := 160) rfl .nil))))) ?_ ?_ ?_
        rotate_left 1
        ·
          intro hg85
          refine RL.gq rfl rfl (Yld.move rfl) rfl ?_
          refine RL.gq rfl rfl (Yld.bin rfl rfl BinV.eqlS) rfl ?_
          refine RL.q (by first | exact Yld.pickT rfl rfl | exact Yld.pickF rfl rfl) rfl ?_
          exact RL.nil (N.meet (.cons rfl (.cons rfl (.cons rfl (.cons rfl (.cons rfl (.cons rfl (.cons rfl (.cons rfl .nil)))))))) (.cons rfl (.cons rfl (.cons rfl (.cons rfl (.cons rfl .nil))))))
        ·
          intro hg85
          refine RL.gskip rfl rfl rfl rfl ?_
          refine RL.gskip rfl rfl rfl rfl ?_
          refine RL.q (by first | exact Yld.pickT rfl rfl | exact Yld.pickF rfl rfl) rfl ?_
          exact RL.nil (N.meet (.cons rfl (.cons rfl (.cons rfl (.cons rfl (.cons rfl (.cons rfl (.cons rfl (.cons rfl .nil)))))))) (.cons rfl (.cons rfl (.cons rfl (.cons rfl (.cons rfl .nil))))))
        refine RL.q (Yld.move rfl) rfl ?_
        refine' RL.and (t := 89) (d := 92) 3 rfl (.cons (k := 10) rfl (.cons (k := 11) rfl (.cons (k := 12) rfl (.cons (k := 13) rfl (.cons (k := 14) rfl (.cons (k := 83) rfl (.cons (k := 84) rfl (.cons (k := 88) rfl .nil)))))))) (.cons (k := 0) rfl (.cons (k := 1) rfl (.cons (k := 107) rfl (.cons (k := 113) rfl (.cons (k := 160) rfl .nil))))) ?_ ?_ ?_
        rotate_left 1
        ·
          intro hg89
          refine RL.gq rfl rfl (Yld.move rfl) rfl ?_
          refine RL.gq rfl rfl (Yld.bin rfl rfl BinV.eqlS) rfl ?_
          refine RL.q (by first | exact Yld.pickT rfl rfl | exact Yld.pickF rfl rfl) rfl ?_
          exact RL.nil (N.meet (.cons rfl (.cons rfl (.cons rfl (.cons rfl (.cons rfl (.cons rfl (.cons rfl (.cons rfl (.cons rfl .nil))))))))) (.cons rfl (.cons rfl (.cons rfl (.cons rfl (.cons rfl .nil))))))
        ·
          intro hg89
          refine RL.gskip rfl rfl rfl rfl ?_
          refine RL.gskip rfl rfl rfl rfl ?_
          refine RL.q (by first | exact Yld.pickT rfl rfl | exact Yld.pickF rfl rfl) rfl ?_
          exact RL.nil (N.meet (.cons rfl (.cons rfl (.cons rfl (.cons rfl (.cons rfl (.cons rfl (.cons rfl (.cons rfl (.cons rfl .nil))))))))) (.cons rfl (.cons rfl (.cons rfl (.cons rfl (.cons rfl .nil))))))
        refine RL.q (Yld.move rfl) rfl ?_
        refine' RL.and (t := 93) (d := 96) 3 rfl (.cons (k := 10) rfl (.cons (k := 11) rfl (.cons (k := 12) rfl (.cons (k := 13) rfl (.cons (k := 14) rfl (.cons (k := 83) rfl (.cons (k := 84) rfl (.cons (k := 88) rfl (.cons (k := 92) rfl .nil))))))))) (.cons (k := 0) rfl (.cons (k := 1) rfl (.cons (k := 107) rfl (.cons (k := 113) rfl (.cons (k := 160) rfl .nil))))) ?_ ?_ ?_
        rotate_left 1
        ·
          intro hg93
          refine RL.gq rfl rfl (Yld.move rfl) rfl ?_
          refine RL.gq rfl rfl (Yld.bin rfl rfl BinV.eqlS) rfl ?_
          refine RL.q (by first | exact Yld.pickT rfl rfl | exact Yld.pickF rfl rfl) rfl ?_
          exact RL.nil (N.meet (.cons rfl (.cons rfl (.cons rfl (.cons rfl (.cons rfl (.cons rfl (.cons rfl (.cons rfl (.cons rfl (.cons rfl .nil)))))))))) (.cons rfl (.cons rfl (.cons rfl (.cons rfl (.cons rfl .nil))))))
        ·
          intro hg93
          refine RL.gskip rfl rfl rfl rfl ?_
          refine RL.gskip rfl rfl rfl rfl ?_
          refine RL.q (by first | exact Yld.pickT rfl rfl | exact Yld.pickF rfl rfl) rfl ?_
          exact RL.nil (N.meet (.cons rfl (.cons rfl (.cons rfl (.cons rfl (.cons rfl (.cons rfl (.cons rfl (.cons rfl (.cons rfl (.cons rfl .nil)))))))))) (.cons rfl (.cons rfl (.cons rfl (.cons rfl (.cons rfl .nil))))))
        refine RL.q (Yld.move rfl) rfl ?_
        refine' RL.and (t := 97) (d := 100) 3 rfl (.cons (k := 10) rfl (.cons (k := 11) rfl (.cons (k := 12) rfl (.cons (k := 13) rfl (.cons (k := 14) rfl (.cons (k := 83) rfl (.cons (k := 84) rfl (.cons (k := 88) rfl (.cons (k := 92) rfl (.cons (k := 96) rfl .nil)))))))))) (.cons (k := 0) rfl (.cons (k := 1) rfl (.cons (k := 107) rfl (.cons (k := 113) rfl (.cons (k := 160) rfl .nil))))) ?_ ?_ ?_
        rotate_left 1
        ·
          intro hg97
          refine RL.gq rfl rfl (Yld.loadW (c := 113) Try.underlying29 rfl sz29 rfl rfl (by first | exact single_self _ _ | exact pset_self _ _ _ | assumption) rfl) rfl ?_
          refine RL.ge rfl rfl (Eff.call ent17 [160] [160] (.cons rfl .nil) (rblank_ct cf0 H2 hyI (by decide) (by decide) (by decide)) rfl rfl rfl rfl (by rintro _ _ ⟨_, rfl⟩; rfl)) rfl ?_
          rintro _ _ ⟨_, ⟨rfl, rfl⟩, rfl⟩
          refine RL.q (by first | exact Yld.pickT rfl rfl | exact Yld.pickF rfl rfl) rfl ?_
          exact RL.nil (N.meet (.cons rfl (.cons rfl (.cons rfl (.cons rfl (.cons rfl (.cons rfl (.cons rfl (.cons rfl (.cons rfl (.cons rfl (.cons rfl .nil))))))))))) (.cons rfl (.cons rfl (.cons rfl (.cons rfl (.cons rfl .nil))))))
        ·
          intro hg97
          refine RL.gskip rfl rfl rfl rfl ?_
          refine RL.gskip rfl rfl rfl rfl ?_
          refine RL.q (by first | exact Yld.pickT rfl rfl | exact Yld.pickF rfl rfl) rfl ?_
          exact RL.nil (N.meet (.cons rfl (.cons rfl (.cons rfl (.cons rfl (.cons rfl (.cons rfl (.cons rfl (.cons rfl (.cons rfl (.cons rfl (.cons rfl .nil))))))))))) (.cons rfl (.cons rfl (.cons rfl (.cons rfl (.cons rfl .nil))))))
        refine RL.q (Yld.assign rfl) rfl ?_
        refine RL.nil ?_
        refine N.next ?_
        refine W.keep (.cons (k := 8) rfl .nil) (.cons (k := 0) rfl (.cons (k := 1) rfl (.cons (k := 107) rfl (.cons (k := 113) rfl (.cons (k := 160) rfl .nil))))) ?_
        refine W.ret ?_
        exact N.retBy [1] (.cons (.tmp rfl) .nil) rfl rfl rfl rfl ⟨by show Value.bool _ = _; simp [cf0, tv, strOfNums], rfl⟩

end Go.Proofs.Ytelmdoobgilhoaa
