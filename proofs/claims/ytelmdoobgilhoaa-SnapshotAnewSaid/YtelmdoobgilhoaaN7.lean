/- SnapshotAnew. Written by program (walk2.py). -/
import Derived.Test.YtelmdoobgilhoaaN6
namespace Go.Proofs.Ytelmdoobgilhoaa
open SL Cfg
set_option linter.unusedVariables false
set_option linter.unusedSimpArgs false

set_option maxRecDepth 100000 in
set_option maxHeartbeats 1600000 in
theorem anew_ct (ps : List Pc) (H1 : PH) (q : Option Addr) (c : Nat) (hl : Sl H1 q c 5 (ps.map Pc.c')) (g : Pc) : Ct Try.prog 8 [.slice q ps.length c, .agg [.int .i64 g.ix, .int .i64 g.tm, .int .i64 g.off, .string g.d, .bool g.dn].toArray] [H1] (fun v Hs => v = .bool true ∧ Hs = [H1]) := by
  refine Ct.body Try.func8 rfl Try.ntmps8 rfl ?_
  intro E F
  have hmx := hl.len_le
  simp only [List.length_map, maxLen] at hmx
  refine W.seq ?_
  refine W.region ?_
  refine RL.e (Eff.box 103 _ rfl rfl) rfl ?_
  rintro _ _ ⟨b3, rfl, rfl⟩
  refine RL.q (Yld.assign rfl) rfl ?_
  refine RL.nil ?_
  refine N.next ?_
  refine W.seq ?_
  refine W.seq ?_
  refine W.region ?_
  refine RL.e (Eff.call ent9 [] [] .nil awake_ct rfl rfl rfl rfl (by rintro _ _ ⟨_, rfl⟩; rfl)) rfl ?_
  rintro _ _ ⟨_, ⟨rfl, rfl⟩, rfl⟩
  refine RL.q (by first | exact Yld.notD rfl | exact Yld.not rfl) rfl ?_
  refine RL.nil ?_
  refine N.next ?_
  first | (refine W.as (t := 17) rfl (boolF (by first | assumption | omega | (simp; done))) ?_; refine W.condF rfl ?_) | refine W.condF rfl ?_
  refine W.skip ?_
  refine N.next ?_
  refine W.keep (.cons (k := 0) rfl (.cons (k := 3) rfl .nil)) (.cons (k := 0) rfl (.cons (k := 1) rfl (.cons (k := 103) rfl .nil))) ?_
  refine W.seq ?_
  refine W.seq ?_
  refine W.region ?_
  refine RL.q (Yld.move rfl) rfl ?_
  refine RL.e (Eff.call ent20 [1] [1] (.cons rfl (.cons rfl .nil)) (few41_ct ps H1 q c hl 20) rfl rfl rfl rfl (by rintro _ _ ⟨_, rfl⟩; rfl)) rfl ?_
  rintro _ _ ⟨_, ⟨rfl, rfl⟩, rfl⟩
  refine RL.q (by first | exact Yld.notD rfl | exact Yld.not rfl) rfl ?_
  refine RL.q (Yld.move rfl) rfl ?_
  refine' RL.or (t := 21) (d := 26) 5 rfl (.cons (k := 0) rfl (.cons (k := 3) rfl (.cons (k := 18) rfl (.cons (k := 19) rfl (.cons (k := 20) rfl .nil))))) (.cons (k := 0) rfl (.cons (k := 1) rfl (.cons (k := 103) rfl .nil))) ?_ ?_ ?_
  rotate_left 1
  ·
    intro hg21
    refine RL.gq rfl rfl (Yld.loadW (c := 103) Try.underlying47 rfl sz47 rfl rfl (by first | exact single_self _ _ | exact pset_self _ _ _ | assumption) rfl) rfl ?_
    refine RL.ge rfl rfl (Eff.buildSlice 123 Try.underlying40 sz47 zc47 rfl rfl (.cons rfl rfl .nil) rfl) rfl ?_
    rintro _ _ ⟨b23, rfl, rfl⟩
    refine RL.ge rfl rfl (Eff.call ent20 [123] [123] (.cons rfl (.cons rfl .nil)) (few41_ct [g] _ _ _ (Own.one (l := [.int .i64 g.ix, .int .i64 g.tm, .int .i64 g.off, .string g.d, .bool g.dn]) rfl (by simp [Value.oneCell']) rfl).sl 1) rfl rfl rfl rfl (by rintro _ _ ⟨_, rfl⟩; rfl)) rfl ?_
    rintro _ _ ⟨_, ⟨rfl, rfl⟩, rfl⟩
    refine RL.gq rfl rfl (by first | exact Yld.notD rfl | exact Yld.not rfl) rfl ?_
    refine RL.q (by first | exact Yld.pickT rfl rfl | exact Yld.pickF rfl rfl) rfl ?_
    exact RL.nil (N.meet (.cons rfl (.cons rfl (.cons rfl (.cons rfl (.cons rfl (.cons rfl .nil)))))) (.cons rfl (.cons rfl (.cons rfl .nil))))
  ·
    intro hg21
    refine RL.gskip rfl rfl rfl rfl ?_
    refine RL.gskip rfl rfl rfl rfl ?_
    refine RL.gskip rfl rfl rfl rfl ?_
    refine RL.gskip rfl rfl rfl rfl ?_
    refine RL.q (by first | exact Yld.pickT rfl rfl | exact Yld.pickF rfl rfl) rfl ?_
    exact RL.nil (N.meet (.cons rfl (.cons rfl (.cons rfl (.cons rfl (.cons rfl (.cons rfl .nil)))))) (.cons rfl (.cons rfl (.cons rfl .nil))))
  refine RL.nil ?_
  refine N.next ?_
  refine W.cond rfl (fun hc26 => ?_) (fun hc26 => ?_)
  ·
    refine W.seq ?_
    refine W.region ?_
    refine RL.q (Yld.assign rfl) rfl ?_
    refine RL.nil ?_
    refine N.next ?_
    refine W.keep (.cons (k := 4) rfl .nil) (.cons (k := 0) rfl (.cons (k := 1) rfl (.cons (k := 103) rfl .nil))) ?_
    refine W.ret ?_
    refine N.then_ret ?_
    exact N.retBy [1] (.cons (.tmp rfl) .nil) rfl rfl rfl rfl ⟨rfl, rfl⟩
  ·
    have hsg : (∀ p ∈ ps, p.d.size ≤ 30) ∧ (ps.length : Int) ≤ 20 ∧ g.d.size ≤ 30 := by
      simp only [Bool.or_eq_false_iff, Bool.not_eq_false'] at hc26
      obtain ⟨h1, h2⟩ := fewB_true hc26.1
      exact ⟨h1, h2, (fewB_true hc26.2).1 g (by simp)⟩
    obtain ⟨hsm, hn, hgz⟩ := hsg
    refine W.skip ?_
    refine N.next ?_
    refine W.keep (.cons (k := 0) rfl (.cons (k := 3) rfl .nil)) (.cons (k := 0) rfl (.cons (k := 1) rfl (.cons (k := 103) rfl .nil))) ?_
    refine W.seq ?_
    refine W.region ?_
    refine RL.e (Eff.call ent21 [] [150] .nil newRc_ct rfl rfl rfl rfl (by rintro _ _ ⟨_, _, rfl⟩; rfl)) rfl ?_
    rintro _ _ ⟨_, ⟨b, rfl, rfl⟩, rfl⟩
    refine RL.q (Yld.assign rfl) rfl ?_
    refine RL.nil ?_
    refine N.next ?_
    refine W.seq ?_
    refine W.seq ?_
    refine W.imp (Imp.empty _ 151) ?_
    refine W.region ?_
    refine RL.q (Yld.move rfl) rfl ?_
    refine RL.q (Yld.lenSl Try.underlying40 rfl) rfl ?_
    refine RL.q (Yld.move rfl) rfl ?_
    refine RL.nil ?_
    refine N.next ?_
    refine W.block ?_
    refine W.loopK (ι := RcD × Nat) (fun y => (y.2 ≤ ps.length ∧ OwnF y.1.D y.1.x.p y.1.x.c 5 y.1.x.l ∧ Byt y.1.x.l ∧ y.1.x.l.length ≤ 30 * y.2)) (fun y => [(30, .int .i64 (y.2 : Nat))]) (fun y => [(150, single b (.cells [Value.int .i64 y.1.x.ix, Value.int .i64 y.1.x.tm, Value.pointer (adr b y.1.x.u), Value.slice y.1.x.p y.1.x.l.length y.1.x.c].toArray 88 (0, 0))), (151, y.1.D)]) (fun y => ps.length - y.2) (.cons (k := 3) rfl (.cons (k := 5) rfl (.cons (k := 28) rfl (.cons (k := 29) rfl .nil)))) (.cons (k := 0) rfl (.cons (k := 1) rfl (.cons (k := 103) rfl .nil))) (⟨⟨0, 0, false, none, 0, []⟩, emp⟩, 0) ?_ ?_ ?_ ?_
    · exact ⟨Nat.zero_le _, OwnF.nil _, .nil, Nat.zero_le _⟩
    · exact (.as rfl (by first | rfl | (simp; done) | (congr 1; simp; done) | (congr 1; omega)) .nil)
    · exact (.cons rfl (.cons rfl .nil))
    rintro y ⟨hj, hO, hbt, hlen⟩
    refine W.keep (.cons (k := 30) rfl (.cons (k := 3) rfl (.cons (k := 5) rfl (.cons (k := 28) rfl (.cons (k := 29) rfl .nil))))) (.cons (k := 150) rfl (.cons (k := 151) rfl (.cons (k := 0) rfl (.cons (k := 1) rfl (.cons (k := 103) rfl .nil))))) ?_
    obtain ⟨j, hjd⟩ : ∃ j, y.2 = j := ⟨_, rfl⟩
    rw [hjd] at hj hlen ⊢
    refine W.seq ?_
    refine W.region ?_
    refine RL.q (Yld.bin rfl rfl BinV.lss) rfl ?_
    refine RL.nil ?_
    refine N.next ?_
    refine W.seq ?_
    first | refine W.condD rfl (fun hc31 => ?_) (fun hc31 => ?_) | (refine W.cond rfl (fun hc31 => ?_) (fun hc31 => ?_) <;> try simp only [Bool.or_eq_true, Bool.and_eq_true, Bool.not_eq_true', Bool.not_eq_false', decide_eq_true_eq, Bool.or_eq_false_iff, Bool.and_eq_false_iff, decide_eq_false_iff_not, beq_iff_eq, beq_eq_false_iff_ne, ne_eq, Decidable.not_not] at hc31)
    ·
      obtain ⟨p, hp, hlp⟩ := row_at (f := Pc.c') (show j < ps.length by omega)
      have hlp : (ps.map Pc.c')[j]? = some [.int .i64 p.ix, .int .i64 p.tm, .int .i64 p.off, .string p.d, .bool p.dn] := hlp
      have hpz := hsm p (List.mem_of_getElem? hp)
      refine W.skip ?_
      refine N.next ?_
      refine W.seq ?_
      refine W.block ?_
      refine W.seq ?_
      refine W.region ?_
      refine RL.q (Yld.indexRow Try.underlying40 sz47 rfl rfl (by first | assumption | exact Own.sl (by assumption)) (by first | rfl | omega | (simp; done) | (simp; omega)) (by omega) (by first | omega | (simp; done) | (simp; omega))) rfl ?_
      refine RL.q (by first | exact Yld.loadRow (cl := 1) Try.underlying47 rfl sz47 rfl rfl (by first | assumption | exact Own.sl (by assumption)) (by assumption) | exact Yld.loadRow (cl := 103) Try.underlying47 rfl sz47 rfl rfl (by first | assumption | exact Own.sl (by assumption)) (by assumption) | exact Yld.loadRow (cl := 150) Try.underlying47 rfl sz47 rfl rfl (by first | assumption | exact Own.sl (by assumption)) (by assumption) | exact Yld.loadRow (cl := 151) Try.underlying47 rfl sz47 rfl rfl (by first | assumption | exact Own.sl (by assumption)) (by assumption)) rfl ?_
      refine RL.e (Eff.alloc 107 zc47) rfl ?_
      rintro _ _ ⟨b7, rfl, rfl⟩
      refine RL.e0 (Eff.storeS (c := 107) _ sz47 rfl rfl rfl rfl rfl rfl rfl (by (try simp only [putAt, List.take, List.drop, List.nil_append, List.cons_append, List.append_nil, List.length_cons, List.length_nil, Nat.add_zero, Nat.zero_add, Nat.reduceAdd]); rfl)) ?_
      rintro _ _ rfl
      refine RL.nil ?_
      refine N.next ?_
      refine W.region ?_
      refine RL.q (Yld.move rfl) rfl ?_
      refine RL.q (Yld.fieldAddr fo47_0 rfl) rfl ?_
      refine RL.q (Yld.load1 (c := 107) Try.underlying3 rfl rfl rfl (by first | exact single_self _ _ | exact pset_self _ _ _ | assumption) rfl) rfl ?_
      refine RL.q (Yld.fieldAddr fo47_1 rfl) rfl ?_
      refine RL.q (Yld.load1 (c := 107) Try.underlying3 rfl rfl rfl (by first | exact single_self _ _ | exact pset_self _ _ _ | assumption) rfl) rfl ?_
      refine RL.q (Yld.fieldAddr fo47_2 rfl) rfl ?_
      refine RL.q (Yld.load1 (c := 107) Try.underlying3 rfl rfl rfl (by first | exact single_self _ _ | exact pset_self _ _ _ | assumption) rfl) rfl ?_
      refine RL.q (Yld.fieldAddr fo47_3 rfl) rfl ?_
      refine RL.q (Yld.load1 (c := 107) Try.underlying9 rfl rfl rfl (by first | exact single_self _ _ | exact pset_self _ _ _ | assumption) rfl) rfl ?_
      refine RL.q (Yld.fieldAddr fo47_4 rfl) rfl ?_
      refine RL.q (Yld.load1 (c := 107) Try.underlying4 rfl rfl rfl (by first | exact single_self _ _ | exact pset_self _ _ _ | assumption) rfl) rfl ?_
      refine RL.e (Eff.call ent22 [150, 151] [150, 151] (.cons rfl (.cons rfl (.cons rfl (.cons rfl (.cons rfl (.cons rfl .nil)))))) (take41_ct b y.1.x y.1.D hO hbt p.ix p.tm p.off p.d p.dn (by omega)) rfl rfl rfl rfl (by rintro _ _ ⟨_, _, _, _, _, _, rfl⟩; rfl)) rfl ?_
      rintro _ _ ⟨_, ⟨z, D2, hO2, hb2, hst, rfl, rfl⟩, rfl⟩
      obtain ⟨T, hT⟩ : ∃ T, takeP y.1.x.st p.ix p.tm p.off (nums p.d) = T := ⟨_, rfl⟩
      have hTl := takeP_len y.1.x.st p.ix p.tm p.off (nums p.d)
      rw [hT] at hst hTl ⊢
      obtain ⟨T1, ok⟩ := T
      dsimp only at hst hTl ⊢
      subst hst
      have hzl : z.l.length ≤ y.1.x.l.length + p.d.size := by rw [← nums_len]; exact hTl
      refine RL.nil ?_
      refine N.block_normal ?_
      refine N.next ?_
      refine W.keep (.cons (k := 3) rfl (.cons (k := 5) rfl (.cons (k := 28) rfl (.cons (k := 29) rfl (.cons (k := 30) rfl .nil))))) (.cons (k := 0) rfl (.cons (k := 1) rfl (.cons (k := 103) rfl (.cons (k := 107) rfl (.cons (k := 150) rfl (.cons (k := 151) rfl .nil)))))) ?_
      refine W.region ?_
      refine RL.q (Yld.bin rfl rfl (by first | exact BinV.add (by omega) (by omega) | exact BinV.addW)) rfl ?_
      refine RL.q (Yld.move rfl) rfl ?_
      refine RL.nil ?_
      exact N.famK (⟨z, D2⟩, j + 1) ⟨⟨by omega, hO2, hb2, by dsimp only; omega⟩, by omega⟩ (.as rfl (by first | rfl | (simp; done) | (congr 1; simp; done) | (congr 1; omega)) .nil) (.cons rfl (.cons rfl (.cons rfl (.cons rfl .nil)))) (.cons rfl (.cons rfl .nil)) (.cons rfl (.cons rfl (.cons rfl .nil)))
    ·
      refine W.exit ?_
      refine N.then_exit ?_
      refine N.then_exit ?_
      refine N.block_eq ?_
      refine N.next ?_
      refine W.keep (.cons (k := 3) rfl (.cons (k := 5) rfl .nil)) (.cons (k := 0) rfl (.cons (k := 1) rfl (.cons (k := 103) rfl (.cons (k := 150) rfl (.cons (k := 151) rfl .nil))))) ?_
      refine W.seq ?_
      refine W.region ?_
      refine RL.q (Yld.move rfl) rfl ?_
      refine RL.e (Eff.call ent24 [150, 151] [150, 151] (.cons rfl .nil) (snap_ct b y.1.x y.1.D hO hbt) rfl rfl rfl rfl (by rintro _ _ ⟨_, _, _, rfl⟩; rfl)) rfl ?_
      rintro _ _ ⟨_, ⟨D3, rfl, hO3, rfl⟩, rfl⟩
      refine RL.q (Yld.move rfl) rfl ?_
      refine RL.q (Yld.extract rfl rfl) rfl ?_
      refine RL.q (Yld.extract rfl rfl) rfl ?_
      refine RL.q (Yld.extract rfl rfl) rfl ?_
      refine RL.q (Yld.assign rfl) rfl ?_
      refine RL.q (Yld.assign rfl) rfl ?_
      refine RL.q (Yld.assign rfl) rfl ?_
      refine RL.nil ?_
      refine N.next ?_
      refine W.keep (.cons (k := 3) rfl (.cons (k := 5) rfl (.cons (k := 8) rfl (.cons (k := 9) rfl (.cons (k := 10) rfl .nil))))) (.cons (k := 0) rfl (.cons (k := 1) rfl (.cons (k := 103) rfl (.cons (k := 150) rfl (.cons (k := 151) rfl .nil))))) ?_
      refine W.seq ?_
      refine W.region ?_
      refine RL.q (Yld.move rfl) rfl ?_
      refine RL.q (Yld.fieldAddr fo47_0 rfl) rfl ?_
      refine RL.q (Yld.load1 (c := 103) Try.underlying3 rfl rfl rfl (by first | exact single_self _ _ | exact pset_self _ _ _ | assumption) rfl) rfl ?_
      refine RL.q (Yld.fieldAddr fo47_1 rfl) rfl ?_
      refine RL.q (Yld.load1 (c := 103) Try.underlying3 rfl rfl rfl (by first | exact single_self _ _ | exact pset_self _ _ _ | assumption) rfl) rfl ?_
      refine RL.q (Yld.fieldAddr fo47_2 rfl) rfl ?_
      refine RL.q (Yld.load1 (c := 103) Try.underlying3 rfl rfl rfl (by first | exact single_self _ _ | exact pset_self _ _ _ | assumption) rfl) rfl ?_
      refine RL.q (Yld.fieldAddr fo47_3 rfl) rfl ?_
      refine RL.q (Yld.load1 (c := 103) Try.underlying9 rfl rfl rfl (by first | exact single_self _ _ | exact pset_self _ _ _ | assumption) rfl) rfl ?_
      refine RL.q (Yld.fieldAddr fo47_4 rfl) rfl ?_
      refine RL.q (Yld.load1 (c := 103) Try.underlying4 rfl rfl rfl (by first | exact single_self _ _ | exact pset_self _ _ _ | assumption) rfl) rfl ?_
      refine RL.e (Eff.call ent22 [150, 151] [150, 151] (.cons rfl (.cons rfl (.cons rfl (.cons rfl (.cons rfl (.cons rfl .nil)))))) (take41_ct b y.1.x D3 hO3 hbt g.ix g.tm g.off g.d g.dn (by omega)) rfl rfl rfl rfl (by rintro _ _ ⟨_, _, _, _, _, _, rfl⟩; rfl)) rfl ?_
      rintro _ _ ⟨_, ⟨z, D2, hO2, hb2, hst, rfl, rfl⟩, rfl⟩
      obtain ⟨T, hT⟩ : ∃ T, takeP y.1.x.st g.ix g.tm g.off (nums g.d) = T := ⟨_, rfl⟩
      have hTl := takeP_len y.1.x.st g.ix g.tm g.off (nums g.d)
      rw [hT] at hst hTl ⊢
      obtain ⟨T1, ok⟩ := T
      dsimp only at hst hTl ⊢
      subst hst
      have hzl : z.l.length ≤ y.1.x.l.length + g.d.size := by rw [← nums_len]; exact hTl
      refine RL.q (Yld.move rfl) rfl ?_
      refine RL.q (Yld.extract rfl rfl) rfl ?_
      refine RL.q (Yld.extract rfl rfl) rfl ?_
      refine RL.q (Yld.assign rfl) rfl ?_
      refine RL.q (Yld.assign rfl) rfl ?_
      refine RL.nil ?_
      refine N.next ?_
      refine W.keep (.cons (k := 3) rfl (.cons (k := 5) rfl (.cons (k := 8) rfl (.cons (k := 9) rfl (.cons (k := 10) rfl (.cons (k := 11) rfl (.cons (k := 12) rfl .nil))))))) (.cons (k := 0) rfl (.cons (k := 1) rfl (.cons (k := 103) rfl (.cons (k := 150) rfl (.cons (k := 151) rfl .nil))))) ?_
      refine W.seq ?_
      refine W.region ?_
      refine RL.q (Yld.move rfl) rfl ?_
      refine RL.e (Eff.call ent24 [150, 151] [150, 151] (.cons rfl .nil) (snap_ct b z D2 hO2 hb2) rfl rfl rfl rfl (by rintro _ _ ⟨_, _, _, rfl⟩; rfl)) rfl ?_
      rintro _ _ ⟨_, ⟨D3, rfl, hO3, rfl⟩, rfl⟩
      refine RL.q (Yld.move rfl) rfl ?_
      refine RL.q (Yld.extract rfl rfl) rfl ?_
      refine RL.q (Yld.extract rfl rfl) rfl ?_
      refine RL.q (Yld.extract rfl rfl) rfl ?_
      refine RL.q (Yld.assign rfl) rfl ?_
      refine RL.q (Yld.assign rfl) rfl ?_
      refine RL.q (Yld.assign rfl) rfl ?_
      refine RL.nil ?_
      refine N.next ?_
      refine W.keep (.cons (k := 3) rfl (.cons (k := 8) rfl (.cons (k := 9) rfl (.cons (k := 10) rfl (.cons (k := 11) rfl (.cons (k := 12) rfl (.cons (k := 13) rfl (.cons (k := 14) rfl (.cons (k := 15) rfl .nil))))))))) (.cons (k := 0) rfl (.cons (k := 1) rfl (.cons (k := 103) rfl (.cons (k := 150) rfl (.cons (k := 151) rfl .nil))))) ?_
      refine W.seq ?_
      refine W.seq ?_
      refine W.region ?_
      refine RL.q (Yld.move rfl) rfl ?_
      refine RL.q (Yld.fieldAddr fo47_0 rfl) rfl ?_
      refine RL.q (Yld.load1 (c := 103) Try.underlying3 rfl rfl rfl (by first | exact single_self _ _ | exact pset_self _ _ _ | assumption) rfl) rfl ?_
      refine RL.q (Yld.bin rfl rfl BinV.neq) rfl ?_
      refine RL.q (Yld.move rfl) rfl ?_
      refine' RL.or (t := 78) (d := 83) 5 rfl (.cons (k := 3) rfl (.cons (k := 8) rfl (.cons (k := 9) rfl (.cons (k := 10) rfl (.cons (k := 11) rfl (.cons (k := 12) rfl (.cons (k := 13) rfl (.cons (k := 14) rfl (.cons (k := 15) rfl (.cons (k := 74) rfl (.cons (k := 75) rfl (.cons (k := 76) rfl (.cons (k := 77) rfl .nil))))))))))))) (.cons (k := 0) rfl (.cons (k := 1) rfl (.cons (k := 103) rfl (.cons (k := 150) rfl (.cons (k := 151) rfl .nil))))) ?_ ?_ ?_
      rotate_left 1
      ·
        intro hg78
        refine RL.gq rfl rfl (Yld.move rfl) rfl ?_
        refine RL.gq rfl rfl (Yld.fieldAddr fo47_1 rfl) rfl ?_
        refine RL.gq rfl rfl (Yld.load1 (c := 103) Try.underlying3 rfl rfl rfl (by first | exact single_self _ _ | exact pset_self _ _ _ | assumption) rfl) rfl ?_
        refine RL.gq rfl rfl (Yld.bin rfl rfl BinV.neq) rfl ?_
        refine RL.q (by first | exact Yld.pickT rfl rfl | exact Yld.pickF rfl rfl) rfl ?_
        exact RL.nil (N.meet (.cons rfl (.cons rfl (.cons rfl (.cons rfl (.cons rfl (.cons rfl (.cons rfl (.cons rfl (.cons rfl (.cons rfl (.cons rfl (.cons rfl (.cons rfl (.cons rfl .nil)))))))))))))) (.cons rfl (.cons rfl (.cons rfl (.cons rfl (.cons rfl .nil))))))
      ·
        intro hg78
        refine RL.gskip rfl rfl rfl rfl ?_
        refine RL.gskip rfl rfl rfl rfl ?_
        refine RL.gskip rfl rfl rfl rfl ?_
        refine RL.gskip rfl rfl rfl rfl ?_
        refine RL.q (by first | exact Yld.pickT rfl rfl | exact Yld.pickF rfl rfl) rfl ?_
        exact RL.nil (N.meet (.cons rfl (.cons rfl (.cons rfl (.cons rfl (.cons rfl (.cons rfl (.cons rfl (.cons rfl (.cons rfl (.cons rfl (.cons rfl (.cons rfl (.cons rfl (.cons rfl .nil)))))))))))))) (.cons rfl (.cons rfl (.cons rfl (.cons rfl (.cons rfl .nil))))))
      refine RL.q (Yld.move rfl) rfl ?_
      refine' RL.or (t := 84) (d := 89) 5 rfl (.cons (k := 3) rfl (.cons (k := 8) rfl (.cons (k := 9) rfl (.cons (k := 10) rfl (.cons (k := 11) rfl (.cons (k := 12) rfl (.cons (k := 13) rfl (.cons (k := 14) rfl (.cons (k := 15) rfl (.cons (k := 74) rfl (.cons (k := 75) rfl (.cons (k := 76) rfl (.cons (k := 77) rfl (.cons (k := 83) rfl .nil)))))))))))))) (.cons (k := 0) rfl (.cons (k := 1) rfl (.cons (k := 103) rfl (.cons (k := 150) rfl (.cons (k := 151) rfl .nil))))) ?_ ?_ ?_
      rotate_left 1
      ·
        intro hg84
        refine RL.gq rfl rfl (Yld.move rfl) rfl ?_
        refine RL.gq rfl rfl (Yld.move rfl) rfl ?_
        refine RL.gq rfl rfl (Yld.lenS Try.underlying9 rfl) rfl ?_
        refine RL.gq rfl rfl (Yld.bin rfl rfl BinV.neq) rfl ?_
        refine RL.q (by first | exact Yld.pickT rfl rfl | exact Yld.pickF rfl rfl) rfl ?_
        exact RL.nil (N.meet (.cons rfl (.cons rfl (.cons rfl (.cons rfl (.cons rfl (.cons rfl (.cons rfl (.cons rfl (.cons rfl (.cons rfl (.cons rfl (.cons rfl (.cons rfl (.cons rfl (.cons rfl .nil))))))))))))))) (.cons rfl (.cons rfl (.cons rfl (.cons rfl (.cons rfl .nil))))))
      ·
        intro hg84
        refine RL.gskip rfl rfl rfl rfl ?_
        refine RL.gskip rfl rfl rfl rfl ?_
        refine RL.gskip rfl rfl rfl rfl ?_
        refine RL.gskip rfl rfl rfl rfl ?_
        refine RL.q (by first | exact Yld.pickT rfl rfl | exact Yld.pickF rfl rfl) rfl ?_
        exact RL.nil (N.meet (.cons rfl (.cons rfl (.cons rfl (.cons rfl (.cons rfl (.cons rfl (.cons rfl (.cons rfl (.cons rfl (.cons rfl (.cons rfl (.cons rfl (.cons rfl (.cons rfl (.cons rfl .nil))))))))))))))) (.cons rfl (.cons rfl (.cons rfl (.cons rfl (.cons rfl .nil))))))
      refine RL.nil ?_
      refine N.next ?_
      refine W.keep (.cons (k := 3) rfl (.cons (k := 8) rfl (.cons (k := 9) rfl (.cons (k := 10) rfl (.cons (k := 12) rfl (.cons (k := 15) rfl (.cons (k := 89) rfl .nil))))))) (.cons (k := 0) rfl (.cons (k := 1) rfl (.cons (k := 103) rfl (.cons (k := 150) rfl (.cons (k := 151) rfl .nil))))) ?_
      refine W.cond rfl (fun hc89 => ?_) (fun hc89 => ?_)
      ·
        simp at hc89
        have hat := takeP_at y.1.x.st g.ix g.tm g.off (nums g.d)
        rw [hT] at hat
        exact (hc89.elim (fun h => h.elim (fun h => h hat.1) (fun h => h hat.2)) (fun h => h (by rw [strOfNums_size]))).elim
      ·
        refine W.skip ?_
        refine N.next ?_
        refine W.cutK (ι := Unit) (fun _u => True) (fun _u => [(10, .string (strOfNums (newP y.1.x.st g.ix g.tm).2.2))]) (fun _u => []) (.cons (k := 3) rfl (.cons (k := 12) rfl (.cons (k := 15) rfl .nil))) (.cons (k := 0) rfl (.cons (k := 1) rfl (.cons (k := 103) rfl (.cons (k := 150) rfl (.cons (k := 151) rfl .nil))))) ?_ ?_
        ·
          refine W.seq ?_
          refine W.region ?_
          refine RL.q (Yld.move rfl) rfl ?_
          refine RL.q (Yld.fieldAddr fo47_0 rfl) rfl ?_
          refine RL.q (Yld.load1 (c := 103) Try.underlying3 rfl rfl rfl (by first | exact single_self _ _ | exact pset_self _ _ _ | assumption) rfl) rfl ?_
          refine RL.q (Yld.bin rfl rfl BinV.neq) rfl ?_
          refine RL.q (Yld.move rfl) rfl ?_
          refine' RL.or (t := 94) (d := 99) 5 rfl (.cons (k := 3) rfl (.cons (k := 8) rfl (.cons (k := 9) rfl (.cons (k := 10) rfl (.cons (k := 12) rfl (.cons (k := 15) rfl (.cons (k := 89) rfl (.cons (k := 90) rfl (.cons (k := 91) rfl (.cons (k := 92) rfl (.cons (k := 93) rfl .nil))))))))))) (.cons (k := 0) rfl (.cons (k := 1) rfl (.cons (k := 103) rfl (.cons (k := 150) rfl (.cons (k := 151) rfl .nil))))) ?_ ?_ ?_
          rotate_left 1
          ·
            intro hg94
            refine RL.gq rfl rfl (Yld.move rfl) rfl ?_
            refine RL.gq rfl rfl (Yld.fieldAddr fo47_1 rfl) rfl ?_
            refine RL.gq rfl rfl (Yld.load1 (c := 103) Try.underlying3 rfl rfl rfl (by first | exact single_self _ _ | exact pset_self _ _ _ | assumption) rfl) rfl ?_
            refine RL.gq rfl rfl (Yld.bin rfl rfl BinV.neq) rfl ?_
            refine RL.q (by first | exact Yld.pickT rfl rfl | exact Yld.pickF rfl rfl) rfl ?_
            exact RL.nil (N.meet (.cons rfl (.cons rfl (.cons rfl (.cons rfl (.cons rfl (.cons rfl (.cons rfl (.cons rfl (.cons rfl (.cons rfl (.cons rfl (.cons rfl .nil)))))))))))) (.cons rfl (.cons rfl (.cons rfl (.cons rfl (.cons rfl .nil))))))
          ·
            intro hg94
            refine RL.gskip rfl rfl rfl rfl ?_
            refine RL.gskip rfl rfl rfl rfl ?_
            refine RL.gskip rfl rfl rfl rfl ?_
            refine RL.gskip rfl rfl rfl rfl ?_
            refine RL.q (by first | exact Yld.pickT rfl rfl | exact Yld.pickF rfl rfl) rfl ?_
            exact RL.nil (N.meet (.cons rfl (.cons rfl (.cons rfl (.cons rfl (.cons rfl (.cons rfl (.cons rfl (.cons rfl (.cons rfl (.cons rfl (.cons rfl (.cons rfl .nil)))))))))))) (.cons rfl (.cons rfl (.cons rfl (.cons rfl (.cons rfl .nil))))))
          refine RL.nil ?_
          refine N.next ?_
          refine W.keep (.cons (k := 3) rfl (.cons (k := 10) rfl (.cons (k := 12) rfl (.cons (k := 15) rfl (.cons (k := 99) rfl .nil))))) (.cons (k := 0) rfl (.cons (k := 1) rfl (.cons (k := 103) rfl (.cons (k := 150) rfl (.cons (k := 151) rfl .nil))))) ?_
          refine W.cond rfl (fun hc99 => ?_) (fun hc99 => ?_)
          ·
            have hne : ¬ (y.1.x.ix = g.ix ∧ y.1.x.tm = g.tm) := fun h => by simp [h.1, h.2] at hc99
            refine W.region ?_
            refine RL.q (Yld.assign rfl) rfl ?_
            refine RL.nil ?_
            have hnw : newP y.1.x.st g.ix g.tm = (g.ix, g.tm, []) := if_neg hne
            exact N.famK () trivial (.as rfl (by show Value.string _ = Value.string _; rw [hnw]; rfl) .nil) (.cons rfl (.cons rfl (.cons rfl .nil))) .nil (.cons rfl (.cons rfl (.cons rfl (.cons rfl (.cons rfl .nil)))))
          ·
            have heq : y.1.x.ix = g.ix ∧ y.1.x.tm = g.tm := by simp at hc99; exact hc99
            refine W.skip ?_
            have hnw : newP y.1.x.st g.ix g.tm = y.1.x.st := if_pos heq
            exact N.famK () trivial (.as rfl (by show Value.string _ = Value.string _; rw [hnw]; rfl) .nil) (.cons rfl (.cons rfl (.cons rfl .nil))) .nil (.cons rfl (.cons rfl (.cons rfl (.cons rfl (.cons rfl .nil)))))
        rintro _u -
        refine W.keep (.cons (k := 10) rfl (.cons (k := 3) rfl (.cons (k := 12) rfl (.cons (k := 15) rfl .nil)))) (.cons (k := 0) rfl (.cons (k := 1) rfl (.cons (k := 103) rfl (.cons (k := 150) rfl (.cons (k := 151) rfl .nil))))) ?_
        have hnl : (newP y.1.x.st g.ix g.tm).2.2.length ≤ y.1.x.l.length := by unfold newP; split <;> simp [Rc.st]
        have hsz := strOfNums_size (newP y.1.x.st g.ix g.tm).2.2
        refine W.seq ?_
        refine W.seq ?_
        refine W.region ?_
        refine RL.q (Yld.fieldAddr fo47_2 rfl) rfl ?_
        refine RL.q (Yld.load1 (c := 103) Try.underlying3 rfl rfl rfl (by first | exact single_self _ _ | exact pset_self _ _ _ | assumption) rfl) rfl ?_
        refine RL.q (Yld.move rfl) rfl ?_
        refine RL.q (Yld.lenS Try.underlying9 rfl) rfl ?_
        refine RL.q (Yld.bin rfl rfl BinV.eql) rfl ?_
        refine RL.nil ?_
        refine N.next ?_
        refine W.keep (.cons (k := 3) rfl (.cons (k := 10) rfl (.cons (k := 12) rfl (.cons (k := 15) rfl (.cons (k := 104) rfl .nil))))) (.cons (k := 0) rfl (.cons (k := 1) rfl (.cons (k := 103) rfl (.cons (k := 150) rfl (.cons (k := 151) rfl .nil))))) ?_
        first | refine W.condD rfl (fun hc104 => ?_) (fun hc104 => ?_) | (refine W.cond rfl (fun hc104 => ?_) (fun hc104 => ?_) <;> try simp only [Bool.or_eq_true, Bool.and_eq_true, Bool.not_eq_true', Bool.not_eq_false', decide_eq_true_eq, Bool.or_eq_false_iff, Bool.and_eq_false_iff, decide_eq_false_iff_not, beq_iff_eq, beq_eq_false_iff_ne, ne_eq, Decidable.not_not] at hc104)
        ·
          have h1 := takeP_pos (d := nums g.d) (off := g.off) (rfl : newP y.1.x.st g.ix g.tm = newP y.1.x.st g.ix g.tm) (by rw [← hsz]; exact hc104)
          rw [hT] at h1
          obtain ⟨h2, h3⟩ := Prod.mk.inj h1
          have h4 : z.l = (newP y.1.x.st g.ix g.tm).2.2 ++ nums g.d := congrArg (fun s => s.2.2) h2
          refine W.seq ?_
          refine W.region ?_
          refine RL.q (Yld.move rfl) rfl ?_
          refine RL.q (Yld.move rfl) rfl ?_
          refine RL.q (Yld.fieldAddr fo47_3 rfl) rfl ?_
          refine RL.q (Yld.load1 (c := 103) Try.underlying9 rfl rfl rfl (by first | exact single_self _ _ | exact pset_self _ _ _ | assumption) rfl) rfl ?_
          refine RL.q (Yld.bin rfl rfl (BinV.addS (by rw [hsz]; omega))) rfl ?_
          refine RL.q (Yld.bin rfl rfl BinV.eqlS) rfl ?_
          refine RL.q (Yld.move rfl) rfl ?_
          refine' RL.and (t := 111) (d := 116) 5 rfl (.cons (k := 3) rfl (.cons (k := 10) rfl (.cons (k := 12) rfl (.cons (k := 15) rfl (.cons (k := 104) rfl (.cons (k := 105) rfl (.cons (k := 106) rfl (.cons (k := 107) rfl (.cons (k := 108) rfl (.cons (k := 109) rfl (.cons (k := 110) rfl .nil))))))))))) (.cons (k := 0) rfl (.cons (k := 1) rfl (.cons (k := 103) rfl (.cons (k := 150) rfl (.cons (k := 151) rfl .nil))))) ?_ ?_ ?_
          rotate_left 1
          ·
            intro hg111
            refine RL.gq rfl rfl (Yld.move rfl) rfl ?_
            refine RL.gq rfl rfl (Yld.fieldAddr fo47_4 rfl) rfl ?_
            refine RL.gq rfl rfl (Yld.load1 (c := 103) Try.underlying4 rfl rfl rfl (by first | exact single_self _ _ | exact pset_self _ _ _ | assumption) rfl) rfl ?_
            refine RL.gq rfl rfl (Yld.bin rfl rfl (BinV.eqlB Try.underlying4)) rfl ?_
            refine RL.q (by first | exact Yld.pickT rfl rfl | exact Yld.pickF rfl rfl) rfl ?_
            exact RL.nil (N.meet (.cons rfl (.cons rfl (.cons rfl (.cons rfl (.cons rfl (.cons rfl (.cons rfl (.cons rfl (.cons rfl (.cons rfl (.cons rfl (.cons rfl .nil)))))))))))) (.cons rfl (.cons rfl (.cons rfl (.cons rfl (.cons rfl .nil))))))
          ·
            intro hg111
            refine RL.gskip rfl rfl rfl rfl ?_
            refine RL.gskip rfl rfl rfl rfl ?_
            refine RL.gskip rfl rfl rfl rfl ?_
            refine RL.gskip rfl rfl rfl rfl ?_
            refine RL.q (by first | exact Yld.pickT rfl rfl | exact Yld.pickF rfl rfl) rfl ?_
            exact RL.nil (N.meet (.cons rfl (.cons rfl (.cons rfl (.cons rfl (.cons rfl (.cons rfl (.cons rfl (.cons rfl (.cons rfl (.cons rfl (.cons rfl (.cons rfl .nil)))))))))))) (.cons rfl (.cons rfl (.cons rfl (.cons rfl (.cons rfl .nil))))))
          refine RL.q (Yld.assign rfl) rfl ?_
          refine RL.nil ?_
          refine N.next ?_
          refine W.keep (.cons (k := 4) rfl .nil) (.cons (k := 0) rfl (.cons (k := 1) rfl (.cons (k := 103) rfl (.cons (k := 150) rfl (.cons (k := 151) rfl .nil))))) ?_
          refine W.ret ?_
          refine N.then_ret ?_
          exact N.retBy [1] (.cons (.tmp rfl) .nil) rfl rfl rfl rfl ⟨by show Value.bool _ = _; rw [h4, h3, str_app]; simp, rfl⟩
        ·
          have h1 := takeP_neg (d := nums g.d) (rfl : newP y.1.x.st g.ix g.tm = newP y.1.x.st g.ix g.tm) (off := g.off) (fun h => hc104 (by rw [h, hsz]))
          rw [hT] at h1
          obtain ⟨h2, h3⟩ := Prod.mk.inj h1
          have h4 : z.l = (newP y.1.x.st g.ix g.tm).2.2 := congrArg (fun s => s.2.2) h2
          refine W.skip ?_
          refine N.next ?_
          refine W.seq ?_
          refine W.region ?_
          refine RL.q (Yld.move rfl) rfl ?_
          refine RL.q (Yld.move rfl) rfl ?_
          refine RL.q (Yld.bin rfl rfl BinV.eqlS) rfl ?_
          refine RL.q (Yld.move rfl) rfl ?_
          refine' RL.and (t := 120) (d := 123) 3 rfl (.cons (k := 3) rfl (.cons (k := 10) rfl (.cons (k := 12) rfl (.cons (k := 15) rfl (.cons (k := 104) rfl (.cons (k := 117) rfl (.cons (k := 118) rfl (.cons (k := 119) rfl .nil)))))))) (.cons (k := 0) rfl (.cons (k := 1) rfl (.cons (k := 103) rfl (.cons (k := 150) rfl (.cons (k := 151) rfl .nil))))) ?_ ?_ ?_
          rotate_left 1
          ·
            intro hg120
            refine RL.gq rfl rfl (Yld.move rfl) rfl ?_
            refine RL.gq rfl rfl (by first | exact Yld.notD rfl | exact Yld.not rfl) rfl ?_
            refine RL.q (by first | exact Yld.pickT rfl rfl | exact Yld.pickF rfl rfl) rfl ?_
            exact RL.nil (N.meet (.cons rfl (.cons rfl (.cons rfl (.cons rfl (.cons rfl (.cons rfl (.cons rfl (.cons rfl (.cons rfl .nil))))))))) (.cons rfl (.cons rfl (.cons rfl (.cons rfl (.cons rfl .nil))))))
          ·
            intro hg120
            refine RL.gskip rfl rfl rfl rfl ?_
            refine RL.gskip rfl rfl rfl rfl ?_
            refine RL.q (by first | exact Yld.pickT rfl rfl | exact Yld.pickF rfl rfl) rfl ?_
            exact RL.nil (N.meet (.cons rfl (.cons rfl (.cons rfl (.cons rfl (.cons rfl (.cons rfl (.cons rfl (.cons rfl (.cons rfl .nil))))))))) (.cons rfl (.cons rfl (.cons rfl (.cons rfl (.cons rfl .nil))))))
          refine RL.q (Yld.assign rfl) rfl ?_
          refine RL.nil ?_
          refine N.next ?_
          refine W.keep (.cons (k := 4) rfl .nil) (.cons (k := 0) rfl (.cons (k := 1) rfl (.cons (k := 103) rfl (.cons (k := 150) rfl (.cons (k := 151) rfl .nil))))) ?_
          refine W.ret ?_
          exact N.retBy [1] (.cons (.tmp rfl) .nil) rfl rfl rfl rfl ⟨by show Value.bool _ = _; rw [h4, h3]; simp, rfl⟩

end Go.Proofs.Ytelmdoobgilhoaa
