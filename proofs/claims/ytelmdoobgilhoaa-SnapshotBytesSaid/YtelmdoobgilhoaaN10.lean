/- SnapshotBytes. Written by program (walk2.py). -/
import Derived.Test.YtelmdoobgilhoaaR7
import Derived.Test.YtelmdoobgilhoaaN9
namespace Go.Proofs.Ytelmdoobgilhoaa
open SL Cfg
set_option linter.unusedVariables false
set_option linter.unusedSimpArgs false
theorem ent19 : Ent Try.prog 19 := ⟨_, _, Try.func19, by kernel_rfl, rfl⟩
theorem Cfg.unp_bytes {l a b g e : List Int} {y : Cf} (hb : Byt l) (hl : l.length ≤ 1000) (h1 : rdE (rdTs 4 (l, 0)).2 = 0) (h2 : (rdTs 4 (l, 0)).1 = [a, b, g, e]) (h3 : decR e y 0) :
    packL a b g y.enc = l ∧ y.Sm ∧ (Byt a ∧ Byt b ∧ Byt g) ∧ a.length ≤ 1000 ∧ b.length ≤ 1000 ∧ g.length ≤ 1000 := by
  have q4 : (rdT (rdTs 3 (l, 0)).2).2 = ([], 0) := rdE_zero h1
  have k4 := rdT_keep q4 (rdTs_byt (s := (l, 0)) hb 3).1
  have q3 : (rdT (rdTs 2 (l, 0)).2).2 = (encT (rdT (rdTs 3 (l, 0)).2).1 ++ [], 0) := Prod.ext k4.2 k4.1
  have k3 := rdT_keep q3 (rdTs_byt (s := (l, 0)) hb 2).1
  have q2 : (rdT (rdTs 1 (l, 0)).2).2 = (encT (rdT (rdTs 2 (l, 0)).2).1 ++ (encT (rdT (rdTs 3 (l, 0)).2).1 ++ []), 0) := Prod.ext k3.2 k3.1
  have k2 := rdT_keep q2 (rdTs_byt (s := (l, 0)) hb 1).1
  have q1 : (rdT (rdTs 0 (l, 0)).2).2 = (encT (rdT (rdTs 1 (l, 0)).2).1 ++ (encT (rdT (rdTs 2 (l, 0)).2).1 ++ (encT (rdT (rdTs 3 (l, 0)).2).1 ++ [])), 0) := Prod.ext k2.2 k2.1
  have k1 := rdT_keep q1 (rdTs_byt (s := (l, 0)) hb 0).1
  have hA := (rdTs_byt (s := (l, 0)) hb 4).2
  rw [h2] at hA
  have h2' : [(rdT (rdTs 0 (l, 0)).2).1, (rdT (rdTs 1 (l, 0)).2).1, (rdT (rdTs 2 (l, 0)).2).1, (rdT (rdTs 3 (l, 0)).2).1] = [a, b, g, e] := h2
  simp only [List.cons.injEq, and_true] at h2'
  obtain ⟨e1, e2, e3, e4⟩ := h2'
  rw [e1, e2, e3, e4, List.append_nil] at k1
  have hl2 : l = encT a ++ (encT b ++ (encT g ++ encT e)) := k1.2
  have hen : ∀ m : List Int, m.length ≤ (encT m).length := fun m => by unfold encT; rw [List.length_append]; omega
  have hlen := congrArg List.length hl2
  simp only [List.length_append] at hlen
  have ha := hen a
  have hbb := hen b
  have hg := hen g
  have he := hen e
  have hbe : Byt e := hA e (by simp)
  rcases h3 with ⟨-, g1, g2, g3⟩ | ⟨h, -⟩
  · have hd := decRaw_dec hbe g1
    rw [g2] at hd
    have g4 : ((rdL (e, 0)).1, (rdL (rdL (e, 0)).2).1, (rdL (rdL (rdL (e, 0)).2).2).1) = (y.o, y.n, y.l) := g2
    simp only [Prod.mk.injEq] at g4
    have b0 : Byt (rdL (e, 0)).2.1 := rdL_byt (s := (e, 0)) hbe
    have b1 := rdL_byt (s := (rdL (e, 0)).2) b0
    have c0 := rdL_len (s := (e, 0))
    have c1 := rdL_len (s := (rdL (e, 0)).2)
    have c2 := rdL_len (s := (rdL (rdL (e, 0)).2).2)
    have d0 := rdL_short (e, 0)
    have d1 := rdL_short (rdL (e, 0)).2
    have i0 := rdL_i64 (s := (e, 0)) hbe
    have i1 := rdL_i64 (s := (rdL (e, 0)).2) b0
    have i2 := rdL_i64 (s := (rdL (rdL (e, 0)).2).2) b1
    rw [g4.1] at c0 i0
    rw [g4.2.1] at c1 i1
    rw [g4.2.2] at c2 i2
    dsimp only at c0 d0
    refine ⟨?_, ⟨i0, i1, i2, by omega, by omega, by omega⟩, ⟨hA a (by simp), hA b (by simp), hA g (by simp)⟩, by omega, by omega, by omega⟩
    rw [hl2, show y.enc = e from hd.symm]
    unfold packL
    simp only [List.append_assoc]
  · exact absurd h (by decide)

set_option maxRecDepth 100000 in
set_option maxHeartbeats 1600000 in
theorem bytes_ct (s : ByteArray) : Ct Try.prog 5 [.string s] [] (fun v Hs => v = .bool true ∧ Hs = []) := by
  refine Ct.body Try.func5 rfl Try.ntmps5 rfl ?_
  intro E F
  have hbt := nums_byt s
  have hln := nums_len s
  refine W.seq ?_
  refine W.region ?_
  refine RL.q (Yld.assign rfl) rfl ?_
  refine RL.nil ?_
  refine N.next ?_
  refine W.seq ?_
  refine W.seq ?_
  refine W.region ?_
  refine RL.e (Eff.call ent9 [] [] .nil awake_ct rfl rfl rfl rfl (by rintro _ _ ⟨_, rfl⟩; rfl)) rfl ?_
  rintro _ _ ⟨_, ⟨rfl, rfl⟩, rfl⟩
  refine RL.q (by first | exact Yld.notD rfl | exact Yld.not rfl) rfl ?_
  refine RL.nil ?_
  refine N.next ?_
  first | (refine W.as (t := 14) rfl (boolF (by first | assumption | omega | (simp; done))) ?_; refine W.condF rfl ?_) | refine W.condF rfl ?_
  refine W.skip ?_
  refine N.next ?_
  refine W.seq ?_
  refine W.seq ?_
  refine W.region ?_
  refine RL.q (Yld.move rfl) rfl ?_
  refine RL.q (Yld.lenS Try.underlying9 rfl) rfl ?_
  refine RL.q (Yld.bin rfl rfl BinV.gtr) rfl ?_
  refine RL.nil ?_
  refine N.next ?_
  refine W.keep (.cons (k := 0) rfl (.cons (k := 17) rfl .nil)) (.cons (k := 0) rfl .nil) ?_
  first | refine W.condD rfl (fun hc17 => ?_) (fun hc17 => ?_) | (refine W.cond rfl (fun hc17 => ?_) (fun hc17 => ?_) <;> try simp only [Bool.or_eq_true, Bool.and_eq_true, Bool.not_eq_true', Bool.not_eq_false', decide_eq_true_eq, Bool.or_eq_false_iff, Bool.and_eq_false_iff, decide_eq_false_iff_not, beq_iff_eq, beq_eq_false_iff_ne, ne_eq, Decidable.not_not] at hc17)
  ·
    refine W.seq ?_
    refine W.region ?_
    refine RL.q (Yld.assign rfl) rfl ?_
    refine RL.nil ?_
    refine N.next ?_
    refine W.ret ?_
    refine N.then_ret ?_
    exact N.retBy [] (.cons (.tmp rfl) .nil) rfl rfl rfl rfl ⟨rfl, rfl⟩
  ·
    refine W.skip ?_
    refine N.next ?_
    refine W.seq ?_
    refine W.region ?_
    refine RL.q (Yld.move rfl) rfl ?_
    refine RL.e (Eff.call ent15 [] [160] (.cons rfl .nil) (unpack_ct s (by omega)) rfl rfl rfl rfl (by rintro _ _ ⟨_, _, _, _, _, _, _, _, _, rfl⟩; rfl)) rfl ?_
    rintro _ _ ⟨_, ⟨a, b, g, y, code, H2, rfl, hyI, hyR, rfl⟩, rfl⟩
    refine RL.q (Yld.move rfl) rfl ?_
    refine RL.q (Yld.extract rfl rfl) rfl ?_
    refine RL.q (Yld.extract rfl rfl) rfl ?_
    refine RL.q (Yld.extract rfl rfl) rfl ?_
    refine RL.q (Yld.extract rfl rfl) rfl ?_
    refine RL.q (Yld.extract rfl rfl) rfl ?_
    refine RL.e (Eff.alloc 106 zc29) rfl ?_
    rintro _ _ ⟨b6, rfl, rfl⟩
    refine RL.q (Yld.assign rfl) rfl ?_
    refine RL.q (Yld.assign rfl) rfl ?_
    refine RL.q (Yld.assign rfl) rfl ?_
    refine RL.e0 (Eff.storeS (c := 106) _ sz29 rfl rfl rfl rfl rfl rfl rfl (by (try simp only [putAt, List.take, List.drop, List.nil_append, List.cons_append, List.append_nil, List.length_cons, List.length_nil, Nat.add_zero, Nat.zero_add, Nat.reduceAdd]); rfl)) ?_
    rintro _ _ rfl
    refine RL.q (Yld.assign rfl) rfl ?_
    refine RL.nil ?_
    refine N.next ?_
    refine W.keep (.cons (k := 0) rfl (.cons (k := 3) rfl (.cons (k := 4) rfl (.cons (k := 5) rfl (.cons (k := 6) rfl (.cons (k := 7) rfl .nil)))))) (.cons (k := 0) rfl (.cons (k := 106) rfl (.cons (k := 160) rfl .nil))) ?_
    refine W.seq ?_
    refine W.seq ?_
    refine W.region ?_
    refine RL.q (Yld.move rfl) rfl ?_
    refine RL.e (Eff.call ent19 [] [161] (.cons rfl .nil) (runpack_ct s (by omega)) rfl rfl rfl rfl (by rintro _ _ ⟨_, _, _, _, _, _, _, _, _, rfl⟩; rfl)) rfl ?_
    rintro _ _ ⟨_, ⟨a', b', g', y', ok, H3, rfl, hyI', hyR', rfl⟩, rfl⟩
    refine RL.q (Yld.move rfl) rfl ?_
    refine RL.q (Yld.extract rfl rfl) rfl ?_
    refine RL.q (Yld.extract rfl rfl) rfl ?_
    refine RL.q (Yld.extract rfl rfl) rfl ?_
    refine RL.q (Yld.extract rfl rfl) rfl ?_
    refine RL.q (Yld.extract rfl rfl) rfl ?_
    refine RL.e (Eff.alloc 111 zc29) rfl ?_
    rintro _ _ ⟨b11, rfl, rfl⟩
    refine RL.q (Yld.assign rfl) rfl ?_
    refine RL.q (Yld.assign rfl) rfl ?_
    refine RL.q (Yld.assign rfl) rfl ?_
    refine RL.e0 (Eff.storeS (c := 111) _ sz29 rfl rfl rfl rfl rfl rfl rfl (by (try simp only [putAt, List.take, List.drop, List.nil_append, List.cons_append, List.append_nil, List.length_cons, List.length_nil, Nat.add_zero, Nat.zero_add, Nat.reduceAdd]); rfl)) ?_
    rintro _ _ rfl
    refine RL.q (Yld.assign rfl) rfl ?_
    refine RL.nil ?_
    refine N.next ?_
    refine W.keep (.cons (k := 0) rfl (.cons (k := 3) rfl (.cons (k := 4) rfl (.cons (k := 5) rfl (.cons (k := 6) rfl (.cons (k := 7) rfl (.cons (k := 12) rfl .nil))))))) (.cons (k := 0) rfl (.cons (k := 106) rfl (.cons (k := 111) rfl (.cons (k := 160) rfl (.cons (k := 161) rfl .nil))))) ?_
    refine W.seq ?_
    refine W.region ?_
    refine RL.q (Yld.move rfl) rfl ?_
    refine RL.q (by first | exact Yld.notD rfl | exact Yld.not rfl) rfl ?_
    refine RL.nil ?_
    refine N.next ?_
    refine W.cond rfl (fun hc35 => ?_) (fun hc35 => ?_)
    ·
      obtain rfl : ok = false := by simpa using hc35
      have hbad : badU (nums s) := by
        rcases hyR' with ⟨h, -⟩ | ⟨-, -, -, -, -, h⟩
        · exact absurd h (by decide)
        · exact h
      obtain ⟨rfl, rfl, rfl, rfl, rfl⟩ : code = 11 ∧ a = [] ∧ b = [] ∧ g = [] ∧ y = cf0 := by
        rcases hyR with ⟨-, h1, e, h2, h3⟩ | ⟨h1, h2, h3, h4, h5, -⟩
        · exact absurd ⟨h1, e, y, by rw [h2]; rfl, h3⟩ hbad
        · exact ⟨h1, h2, h3, h4, h5⟩
      refine W.seq ?_
      refine W.region ?_
      refine RL.q (Yld.move rfl) rfl ?_
      refine RL.q (Yld.bin rfl rfl BinV.eql) rfl ?_
      refine RL.q (Yld.move rfl) rfl ?_
      refine' RL.and (t := 38) (d := 41) 3 rfl (.cons (k := 0) rfl (.cons (k := 3) rfl (.cons (k := 4) rfl (.cons (k := 5) rfl (.cons (k := 6) rfl (.cons (k := 7) rfl (.cons (k := 12) rfl (.cons (k := 34) rfl (.cons (k := 35) rfl (.cons (k := 36) rfl (.cons (k := 37) rfl .nil))))))))))) (.cons (k := 0) rfl (.cons (k := 106) rfl (.cons (k := 111) rfl (.cons (k := 160) rfl (.cons (k := 161) rfl .nil))))) ?_ ?_ ?_
      rotate_left 1
      ·
        intro hg38
        refine RL.gq rfl rfl (Yld.move rfl) rfl ?_
        refine RL.gq rfl rfl (Yld.bin rfl rfl BinV.eqlS) rfl ?_
        refine RL.q (by first | exact Yld.pickT rfl rfl | exact Yld.pickF rfl rfl) rfl ?_
        exact RL.nil (N.meet (.cons rfl (.cons rfl (.cons rfl (.cons rfl (.cons rfl (.cons rfl (.cons rfl (.cons rfl (.cons rfl (.cons rfl (.cons rfl (.cons rfl .nil)))))))))))) (.cons rfl (.cons rfl (.cons rfl (.cons rfl (.cons rfl .nil))))))
      ·
        intro hg38
        refine RL.gskip rfl rfl rfl rfl ?_
        refine RL.gskip rfl rfl rfl rfl ?_
        refine RL.q (by first | exact Yld.pickT rfl rfl | exact Yld.pickF rfl rfl) rfl ?_
        exact RL.nil (N.meet (.cons rfl (.cons rfl (.cons rfl (.cons rfl (.cons rfl (.cons rfl (.cons rfl (.cons rfl (.cons rfl (.cons rfl (.cons rfl (.cons rfl .nil)))))))))))) (.cons rfl (.cons rfl (.cons rfl (.cons rfl (.cons rfl .nil))))))
      refine RL.q (Yld.move rfl) rfl ?_
      refine' RL.and (t := 42) (d := 45) 3 rfl (.cons (k := 0) rfl (.cons (k := 3) rfl (.cons (k := 4) rfl (.cons (k := 5) rfl (.cons (k := 6) rfl (.cons (k := 7) rfl (.cons (k := 12) rfl (.cons (k := 34) rfl (.cons (k := 35) rfl (.cons (k := 36) rfl (.cons (k := 37) rfl (.cons (k := 41) rfl .nil)))))))))))) (.cons (k := 0) rfl (.cons (k := 106) rfl (.cons (k := 111) rfl (.cons (k := 160) rfl (.cons (k := 161) rfl .nil))))) ?_ ?_ ?_
      rotate_left 1
      ·
        intro hg42
        refine RL.gq rfl rfl (Yld.move rfl) rfl ?_
        refine RL.gq rfl rfl (Yld.bin rfl rfl BinV.eqlS) rfl ?_
        refine RL.q (by first | exact Yld.pickT rfl rfl | exact Yld.pickF rfl rfl) rfl ?_
        exact RL.nil (N.meet (.cons rfl (.cons rfl (.cons rfl (.cons rfl (.cons rfl (.cons rfl (.cons rfl (.cons rfl (.cons rfl (.cons rfl (.cons rfl (.cons rfl (.cons rfl .nil))))))))))))) (.cons rfl (.cons rfl (.cons rfl (.cons rfl (.cons rfl .nil))))))
      ·
        intro hg42
        refine RL.gskip rfl rfl rfl rfl ?_
        refine RL.gskip rfl rfl rfl rfl ?_
        refine RL.q (by first | exact Yld.pickT rfl rfl | exact Yld.pickF rfl rfl) rfl ?_
        exact RL.nil (N.meet (.cons rfl (.cons rfl (.cons rfl (.cons rfl (.cons rfl (.cons rfl (.cons rfl (.cons rfl (.cons rfl (.cons rfl (.cons rfl (.cons rfl (.cons rfl .nil))))))))))))) (.cons rfl (.cons rfl (.cons rfl (.cons rfl (.cons rfl .nil))))))
      refine RL.q (Yld.move rfl) rfl ?_
      refine' RL.and (t := 46) (d := 49) 3 rfl (.cons (k := 0) rfl (.cons (k := 3) rfl (.cons (k := 4) rfl (.cons (k := 5) rfl (.cons (k := 6) rfl (.cons (k := 7) rfl (.cons (k := 12) rfl (.cons (k := 34) rfl (.cons (k := 35) rfl (.cons (k := 36) rfl (.cons (k := 37) rfl (.cons (k := 41) rfl (.cons (k := 45) rfl .nil))))))))))))) (.cons (k := 0) rfl (.cons (k := 106) rfl (.cons (k := 111) rfl (.cons (k := 160) rfl (.cons (k := 161) rfl .nil))))) ?_ ?_ ?_
      rotate_left 1
      ·
        intro hg46
        refine RL.gq rfl rfl (Yld.move rfl) rfl ?_
        refine RL.gq rfl rfl (Yld.bin rfl rfl BinV.eqlS) rfl ?_
        refine RL.q (by first | exact Yld.pickT rfl rfl | exact Yld.pickF rfl rfl) rfl ?_
        exact RL.nil (N.meet (.cons rfl (.cons rfl (.cons rfl (.cons rfl (.cons rfl (.cons rfl (.cons rfl (.cons rfl (.cons rfl (.cons rfl (.cons rfl (.cons rfl (.cons rfl (.cons rfl .nil)))))))))))))) (.cons rfl (.cons rfl (.cons rfl (.cons rfl (.cons rfl .nil))))))
      ·
        intro hg46
        refine RL.gskip rfl rfl rfl rfl ?_
        refine RL.gskip rfl rfl rfl rfl ?_
        refine RL.q (by first | exact Yld.pickT rfl rfl | exact Yld.pickF rfl rfl) rfl ?_
        exact RL.nil (N.meet (.cons rfl (.cons rfl (.cons rfl (.cons rfl (.cons rfl (.cons rfl (.cons rfl (.cons rfl (.cons rfl (.cons rfl (.cons rfl (.cons rfl (.cons rfl (.cons rfl .nil)))))))))))))) (.cons rfl (.cons rfl (.cons rfl (.cons rfl (.cons rfl .nil))))))
      refine RL.q (Yld.move rfl) rfl ?_
      refine' RL.and (t := 50) (d := 53) 3 rfl (.cons (k := 0) rfl (.cons (k := 3) rfl (.cons (k := 4) rfl (.cons (k := 5) rfl (.cons (k := 6) rfl (.cons (k := 7) rfl (.cons (k := 12) rfl (.cons (k := 34) rfl (.cons (k := 35) rfl (.cons (k := 36) rfl (.cons (k := 37) rfl (.cons (k := 41) rfl (.cons (k := 45) rfl (.cons (k := 49) rfl .nil)))))))))))))) (.cons (k := 0) rfl (.cons (k := 106) rfl (.cons (k := 111) rfl (.cons (k := 160) rfl (.cons (k := 161) rfl .nil))))) ?_ ?_ ?_
      rotate_left 1
      ·
        intro hg50
        refine RL.gq rfl rfl (Yld.loadW (c := 106) Try.underlying29 rfl sz29 rfl rfl (by first | exact single_self _ _ | exact pset_self _ _ _ | assumption) rfl) rfl ?_
        refine RL.ge rfl rfl (Eff.call ent17 [160] [160] (.cons rfl .nil) (rblank_ct cf0 H2 hyI (by decide) (by decide) (by decide)) rfl rfl rfl rfl (by rintro _ _ ⟨_, rfl⟩; rfl)) rfl ?_
        rintro _ _ ⟨_, ⟨rfl, rfl⟩, rfl⟩
        refine RL.q (by first | exact Yld.pickT rfl rfl | exact Yld.pickF rfl rfl) rfl ?_
        exact RL.nil (N.meet (.cons rfl (.cons rfl (.cons rfl (.cons rfl (.cons rfl (.cons rfl (.cons rfl (.cons rfl (.cons rfl (.cons rfl (.cons rfl (.cons rfl (.cons rfl (.cons rfl (.cons rfl .nil))))))))))))))) (.cons rfl (.cons rfl (.cons rfl (.cons rfl (.cons rfl .nil))))))
      ·
        intro hg50
        refine RL.gskip rfl rfl rfl rfl ?_
        refine RL.gskip rfl rfl rfl rfl ?_
        refine RL.q (by first | exact Yld.pickT rfl rfl | exact Yld.pickF rfl rfl) rfl ?_
        exact RL.nil (N.meet (.cons rfl (.cons rfl (.cons rfl (.cons rfl (.cons rfl (.cons rfl (.cons rfl (.cons rfl (.cons rfl (.cons rfl (.cons rfl (.cons rfl (.cons rfl (.cons rfl (.cons rfl .nil))))))))))))))) (.cons rfl (.cons rfl (.cons rfl (.cons rfl (.cons rfl .nil))))))
      refine RL.q (Yld.assign rfl) rfl ?_
      refine RL.nil ?_
      refine N.next ?_
      refine W.keep (.cons (k := 2) rfl .nil) (.cons (k := 0) rfl (.cons (k := 106) rfl (.cons (k := 111) rfl (.cons (k := 160) rfl (.cons (k := 161) rfl .nil))))) ?_
      refine W.ret ?_
      refine N.then_ret ?_
      exact N.retBy [] (.cons (.tmp rfl) .nil) rfl rfl rfl rfl ⟨by show Value.bool _ = _; simp [cf0, tv, strOfNums], rfl⟩
    ·
      obtain rfl : ok = true := by simpa using hc35
      have hgood : ¬ badU (nums s) := by
        rcases hyR' with ⟨-, h1, e, h2, h3⟩ | ⟨h, -⟩
        · exact fun h => h ⟨h1, e, y', by rw [h2]; rfl, h3⟩
        · exact absurd h (by decide)
      obtain ⟨rfl, h1, e, h2, h3⟩ : code = 0 ∧ rdE (rdTs 4 (nums s, 0)).2 = 0 ∧ ∃ e, (rdTs 4 (nums s, 0)).1 = [a, b, g, e] ∧ decR e y 0 := by
        rcases hyR with h | ⟨-, -, -, -, -, h⟩
        · exact h
        · exact absurd h hgood
      obtain ⟨hpk, hsm, ⟨ba, bb, bg⟩, za, zb, zg⟩ := unp_bytes hbt (by omega) h1 h2 h3
      refine W.skip ?_
      refine N.next ?_
      refine W.seq ?_
      refine W.region ?_
      refine RL.q (Yld.move rfl) rfl ?_
      refine RL.q (Yld.bin rfl rfl BinV.eql) rfl ?_
      refine RL.q (Yld.move rfl) rfl ?_
      refine' RL.and (t := 56) (d := 64) 8 rfl (.cons (k := 0) rfl (.cons (k := 3) rfl (.cons (k := 4) rfl (.cons (k := 5) rfl (.cons (k := 6) rfl (.cons (k := 7) rfl (.cons (k := 12) rfl (.cons (k := 34) rfl (.cons (k := 35) rfl (.cons (k := 54) rfl (.cons (k := 55) rfl .nil))))))))))) (.cons (k := 0) rfl (.cons (k := 106) rfl (.cons (k := 111) rfl (.cons (k := 160) rfl (.cons (k := 161) rfl .nil))))) ?_ ?_ ?_
      rotate_left 1
      ·
        intro hg56
        refine RL.gq rfl rfl (Yld.move rfl) rfl ?_
        refine RL.gq rfl rfl (Yld.move rfl) rfl ?_
        refine RL.gq rfl rfl (Yld.move rfl) rfl ?_
        refine RL.gq rfl rfl (Yld.loadW (c := 106) Try.underlying29 rfl sz29 rfl rfl (by first | exact single_self _ _ | exact pset_self _ _ _ | assumption) rfl) rfl ?_
        refine RL.ge rfl rfl (Eff.call ent14 [160] [160] (.cons rfl (.cons rfl (.cons rfl (.cons rfl .nil)))) (rpack_ct (strOfNums a) (strOfNums b) (strOfNums g) (by rw [strOfNums_size]; omega) (by rw [strOfNums_size]; omega) (by rw [strOfNums_size]; omega) y H2 hyI hsm) rfl rfl rfl rfl (by rintro _ _ ⟨_, rfl⟩; rfl)) rfl ?_
        rintro _ _ ⟨_, ⟨rfl, rfl⟩, rfl⟩
        refine RL.gq rfl rfl (Yld.move rfl) rfl ?_
        refine RL.gq rfl rfl (Yld.bin rfl rfl BinV.eqlS) rfl ?_
        refine RL.q (by first | exact Yld.pickT rfl rfl | exact Yld.pickF rfl rfl) rfl ?_
        exact RL.nil (N.meet (.cons rfl (.cons rfl (.cons rfl (.cons rfl (.cons rfl (.cons rfl (.cons rfl (.cons rfl (.cons rfl (.cons rfl (.cons rfl (.cons rfl .nil)))))))))))) (.cons rfl (.cons rfl (.cons rfl (.cons rfl (.cons rfl .nil))))))
      ·
        intro hg56
        refine RL.gskip rfl rfl rfl rfl ?_
        refine RL.gskip rfl rfl rfl rfl ?_
        refine RL.gskip rfl rfl rfl rfl ?_
        refine RL.gskip rfl rfl rfl rfl ?_
        refine RL.gskip rfl rfl rfl rfl ?_
        refine RL.gskip rfl rfl rfl rfl ?_
        refine RL.gskip rfl rfl rfl rfl ?_
        refine RL.q (by first | exact Yld.pickT rfl rfl | exact Yld.pickF rfl rfl) rfl ?_
        exact RL.nil (N.meet (.cons rfl (.cons rfl (.cons rfl (.cons rfl (.cons rfl (.cons rfl (.cons rfl (.cons rfl (.cons rfl (.cons rfl (.cons rfl (.cons rfl .nil)))))))))))) (.cons rfl (.cons rfl (.cons rfl (.cons rfl (.cons rfl .nil))))))
      refine RL.q (Yld.assign rfl) rfl ?_
      refine RL.nil ?_
      refine N.next ?_
      refine W.keep (.cons (k := 2) rfl .nil) (.cons (k := 0) rfl (.cons (k := 106) rfl (.cons (k := 111) rfl (.cons (k := 160) rfl (.cons (k := 161) rfl .nil))))) ?_
      refine W.ret ?_
      exact N.retBy [] (.cons (.tmp rfl) .nil) rfl rfl rfl rfl ⟨by show Value.bool _ = _; simp [nums_str ba, nums_str bb, nums_str bg, hpk, str_nums], rfl⟩

end Go.Proofs.Ytelmdoobgilhoaa
