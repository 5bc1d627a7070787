/- The walk of HistoryPrefixes. Written by program (walk.py). -/
import Derived.Test.YtbgppnkccbhbpaaDoorH8
namespace Go.Proofs.YtbgppnkccbhbpaaDoor
open SL HistLaw
set_option linter.unusedVariables false
set_option linter.unusedSimpArgs false
theorem ent16 : Ent Tryd.prog 16 := ⟨_, _, Tryd.func16, by kernel_rfl, rfl⟩
theorem ent17 : Ent Tryd.prog 17 := ⟨_, _, Tryd.func17, by kernel_rfl, rfl⟩
theorem sameT_ct (u v : List O) (H1 H2 : PH) (p q : Option Addr) (c d : Nat) (hA : Sl H1 p c 12 (u.map O.c)) (hB : Sl H2 q d 12 (v.map O.c)) (h : u = v) : Ct Tryd.prog 17 [.slice p (u.map O.c).length c, .slice q (v.map O.c).length d] [H1, H2] (fun r Hs => r = .bool true ∧ Hs = [H1, H2]) :=
  (same_ct u v H1 H2 p q c d hA hB).mono (by
    rintro r Hs ⟨rfl, rfl⟩
    exact ⟨by rw [@decide_eq_true _ (Classical.propDecidable _) h], rfl⟩)

set_option maxRecDepth 100000 in
set_option maxHeartbeats 1600000 in
theorem prefixes_ct (l : List O) (H1 : PH) (p : Option Addr) (c : Nat) (hS : Sl H1 p c 12 (l.map O.c)) (x y : Int) (hx0 : 0 ≤ x) (hx1 : x ≤ 255) (hy0 : 0 ≤ y) (hy1 : y ≤ 255) : Ct Tryd.prog 5 [.slice p (l.map O.c).length c, .int .u8 x, .int .u8 y] [H1] (fun v Hs => v = .bool true ∧ Hs = [H1]) := by
  refine Ct.body Tryd.func5 rfl Tryd.ntmps5 rfl ?_
  intro E F
  have hmax := hS.len_le
  simp only [maxLen] at hmax
  refine W.seq ?_
  refine W.region ?_
  refine RL.q (Yld.assign rfl) rfl ?_
  refine RL.nil ?_
  refine N.next ?_
  refine W.seq ?_
  refine W.seq ?_
  refine W.region ?_
  refine RL.q (Yld.move rfl) rfl ?_
  refine RL.e (Eff.call ent9 [1] [1] (.cons rfl (.cons rfl .nil)) (few_ct l H1 p c hS 20) rfl rfl rfl rfl (by rintro _ _ ⟨_, rfl⟩; rfl)) rfl ?_
  rintro _ _ ⟨_, ⟨⟨bF, rfl, hF⟩, rfl⟩, rfl⟩
  refine RL.q (by first | exact Yld.notD rfl | exact Yld.not rfl) rfl ?_
  refine RL.q (Yld.move rfl) rfl ?_
  refine' RL.or (t := 16) (d := 20) 4 rfl (.cons (k := 0) rfl (.cons (k := 1) rfl (.cons (k := 2) rfl (.cons (k := 6) rfl (.cons (k := 13) rfl (.cons (k := 14) rfl (.cons (k := 15) rfl .nil))))))) (.cons (k := 0) rfl (.cons (k := 1) rfl .nil)) ?_ ?_ ?_
  rotate_left 1
  ·
    intro hg16
    refine RL.gq rfl rfl (Yld.move rfl) rfl ?_
    refine RL.ge rfl rfl (Eff.call ent10 [1] [1] (.cons rfl .nil) (rvalidB_ct l H1 p c hS) rfl rfl rfl rfl (by rintro _ _ ⟨_, rfl⟩; rfl)) rfl ?_
    rintro _ _ ⟨_, ⟨rfl, rfl⟩, rfl⟩
    refine RL.gq rfl rfl (by first | exact Yld.notD rfl | exact Yld.not rfl) rfl ?_
    refine RL.q (by first | exact Yld.pickT rfl rfl | exact Yld.pickF rfl rfl) rfl ?_
    exact RL.nil (N.meet (.cons rfl (.cons rfl (.cons rfl (.cons rfl (.cons rfl (.cons rfl (.cons rfl (.cons rfl .nil)))))))) (.cons rfl (.cons rfl .nil)))
  ·
    intro hg16
    refine RL.gskip rfl rfl rfl rfl ?_
    refine RL.gskip rfl rfl rfl rfl ?_
    refine RL.gskip rfl rfl rfl rfl ?_
    refine RL.q (by first | exact Yld.pickT rfl rfl | exact Yld.pickF rfl rfl) rfl ?_
    exact RL.nil (N.meet (.cons rfl (.cons rfl (.cons rfl (.cons rfl (.cons rfl (.cons rfl (.cons rfl (.cons rfl .nil)))))))) (.cons rfl (.cons rfl .nil)))
  refine RL.nil ?_
  refine N.next ?_
  first | refine W.condD rfl (fun hc20 => ?_) (fun hc20 => ?_) | (refine W.cond rfl (fun hc20 => ?_) (fun hc20 => ?_) <;> try simp only [Bool.or_eq_true, Bool.and_eq_true, Bool.not_eq_true', Bool.not_eq_false', decide_eq_true_eq, Bool.or_eq_false_iff, Bool.and_eq_false_iff, decide_eq_false_iff_not, beq_iff_eq, beq_eq_false_iff_ne, ne_eq, Decidable.not_not] at hc20)
  ·
    refine W.seq ?_
    refine W.region ?_
    refine RL.e (Eff.call ent11 [] [] .nil awake_ct rfl rfl rfl rfl (by rintro _ _ ⟨_, rfl⟩; rfl)) rfl ?_
    rintro _ _ ⟨_, ⟨rfl, rfl⟩, rfl⟩
    refine RL.q (Yld.assign rfl) rfl ?_
    refine RL.nil ?_
    refine N.next ?_
    refine W.keep (.cons (k := 0) rfl (.cons (k := 1) rfl (.cons (k := 2) rfl (.cons (k := 6) rfl .nil)))) (.cons (k := 0) rfl (.cons (k := 1) rfl .nil)) ?_
    refine W.ret ?_
    refine N.then_ret ?_
    exact N.retBy [1] (.cons (.tmp rfl) .nil) rfl rfl rfl rfl ⟨rfl, rfl⟩
  ·
    have hv : Valid l := validB_iff.1 hc20.2
    have hl20 := hF hc20.1
    have hl6 : l.length ≤ 1000000 := by omega
    have hvp := hv.pre (max x y)
    have hl7 : (prefixL (max x y) l).length ≤ 1000000 := by unfold prefixL; rw [List.length_map]; exact Nat.le_trans (List.length_filter_le _ _) hl6
    refine W.skip ?_
    refine N.next ?_
    refine W.keep (.cons (k := 0) rfl (.cons (k := 1) rfl (.cons (k := 2) rfl .nil))) (.cons (k := 0) rfl (.cons (k := 1) rfl .nil)) ?_
    refine W.seq ?_
    refine W.region ?_
    refine RL.q (Yld.move rfl) rfl ?_
    refine RL.q (Yld.convIs Tryd.underlying5 Tryd.underlying3 rfl (by first | exact IntWalk.i64_in _ ⟨by omega, by omega⟩ | rfl)) rfl ?_
    refine RL.q (Yld.move rfl) rfl ?_
    refine RL.q (Yld.convIs Tryd.underlying5 Tryd.underlying3 rfl (by first | exact IntWalk.i64_in _ ⟨by omega, by omega⟩ | rfl)) rfl ?_
    refine RL.q (Yld.assign rfl) rfl ?_
    refine RL.q (Yld.assign rfl) rfl ?_
    refine RL.nil ?_
    refine N.next ?_
    refine W.keep (.cons (k := 0) rfl (.cons (k := 7) rfl (.cons (k := 8) rfl .nil))) (.cons (k := 0) rfl (.cons (k := 1) rfl .nil)) ?_
    refine W.seq ?_
    refine W.region ?_
    refine RL.q (Yld.move rfl) rfl ?_
    refine RL.q (Yld.move rfl) rfl ?_
    refine RL.q (Yld.move rfl) rfl ?_
    refine RL.q (Yld.max2 rfl rfl) rfl ?_
    refine RL.e (Eff.call ent16 [1] [1, 130] (.cons rfl (.cons rfl .nil)) (prefix_ct l hl6 _ _ _ hS (max x y)) rfl rfl rfl rfl (by rintro _ _ ⟨_, _, _, _, _, rfl⟩; rfl)) rfl ?_
    rintro _ _ ⟨_, ⟨Hp, pp, cp, rfl, hOp, rfl⟩, rfl⟩
    refine RL.q (Yld.assign rfl) rfl ?_
    refine RL.nil ?_
    refine N.next ?_
    refine W.keep (.cons (k := 0) rfl (.cons (k := 7) rfl (.cons (k := 8) rfl (.cons (k := 9) rfl .nil)))) (.cons (k := 0) rfl (.cons (k := 1) rfl (.cons (k := 130) rfl .nil))) ?_
    refine W.seq ?_
    refine W.seq ?_
    refine W.region ?_
    refine RL.q (Yld.move rfl) rfl ?_
    refine RL.e (Eff.call ent14 [130] [130] (.cons rfl .nil) (hvalid_ct (prefixL (max x y) l) _ _ _ hOp.sl) rfl rfl rfl rfl (by rintro _ _ ⟨_, rfl⟩; rfl)) rfl ?_
    rintro _ _ ⟨_, ⟨⟨bV, rfl, hV⟩, rfl⟩, rfl⟩
    obtain rfl : bV = true := hV.2 hvp
    refine RL.q (by first | exact Yld.notD rfl | exact Yld.not rfl) rfl ?_
    refine RL.q (Yld.move rfl) rfl ?_
    first | refine RL.as (t := 34) rfl (boolF (by first | assumption | omega | (simp; done))) ?_ | refine RL.as (t := 34) (v := .bool false) rfl rfl ?_
    refine RL.gq rfl rfl (Yld.move rfl) rfl ?_
    refine RL.gq rfl rfl (Yld.move rfl) rfl ?_
    refine RL.gq rfl rfl (Yld.move rfl) rfl ?_
    refine RL.gq rfl rfl (Yld.min2 rfl rfl) rfl ?_
    refine RL.ge rfl rfl (Eff.call ent16 [130] [130, 140] (.cons rfl (.cons rfl .nil)) (prefix_ct (prefixL (max x y) l) hl7 _ _ _ hOp.sl (min x y)) rfl rfl rfl rfl (by rintro _ _ ⟨_, _, _, _, _, rfl⟩; rfl)) rfl ?_
    rintro _ _ ⟨_, ⟨Hq, pq, cq, rfl, hOq, rfl⟩, rfl⟩
    refine RL.gq rfl rfl (Yld.move rfl) rfl ?_
    refine RL.gq rfl rfl (Yld.move rfl) rfl ?_
    refine RL.gq rfl rfl (Yld.move rfl) rfl ?_
    refine RL.gq rfl rfl (Yld.min2 rfl rfl) rfl ?_
    refine RL.ge rfl rfl (Eff.call ent16 [1] [1, 150] (.cons rfl (.cons rfl .nil)) (prefix_ct l hl6 _ _ _ hS (min x y)) rfl rfl rfl rfl (by rintro _ _ ⟨_, _, _, _, _, rfl⟩; rfl)) rfl ?_
    rintro _ _ ⟨_, ⟨Hr, pr, cr, rfl, hOr, rfl⟩, rfl⟩
    refine RL.ge rfl rfl (Eff.call ent17 [140, 150] [140, 150] (.cons rfl (.cons rfl .nil)) (sameT_ct _ _ _ _ _ _ _ _ hOq.sl hOr.sl (prefix_prefix (by omega) (by omega))) rfl rfl rfl rfl (by rintro _ _ ⟨_, rfl⟩; rfl)) rfl ?_
    rintro _ _ ⟨_, ⟨rfl, rfl⟩, rfl⟩
    refine RL.gq rfl rfl (by first | exact Yld.notD rfl | exact Yld.not rfl) rfl ?_
    refine RL.q (by first | exact Yld.pickT rfl rfl | exact Yld.pickF rfl rfl) rfl ?_
    refine RL.nil ?_
    refine N.next ?_
    refine W.keep (.cons (k := 0) rfl (.cons (k := 47) rfl .nil)) (.cons (k := 0) rfl (.cons (k := 1) rfl (.cons (k := 130) rfl (.cons (k := 140) rfl (.cons (k := 150) rfl .nil))))) ?_
    first | (refine W.as (t := 47) rfl (boolF (by first | assumption | omega | (simp; done))) ?_; refine W.condF rfl ?_) | refine W.condF rfl ?_
    refine W.skip ?_
    refine N.next ?_
    refine W.seq ?_
    refine W.region ?_
    refine RL.q (Yld.assign rfl) rfl ?_
    refine RL.nil ?_
    refine N.next ?_
    refine W.seq ?_
    refine W.seq ?_
    refine W.region ?_
    refine RL.q (Yld.move rfl) rfl ?_
    refine RL.q (Yld.lenSl Tryd.underlying22 rfl) rfl ?_
    refine RL.q (Yld.move rfl) rfl ?_
    refine RL.nil ?_
    refine N.next ?_
    refine W.block ?_
    refine W.loop (ι := Nat × Int) (fun z => z.1 ≤ (l.map O.c).length ∧ 0 ≤ z.2 ∧ ∀ (i0 : Nat) a, i0 < z.1 → l[i0]? = some a → a.inv ≤ z.2 ∧ a.rsp ≤ z.2) (fun z => [(0, .slice p (l.map O.c).length c), (10, .int .i64 z.2), (48, .slice p (l.map O.c).length c), (49, .int .i64 ((l.map O.c).length : Nat)), (50, .int .i64 (z.1 : Nat))]) (fun _ => [(0, F), (1, H1)]) (fun z => (l.map O.c).length - z.1) (0, 0) ?_ ?_ ?_ ?_
    · exact ⟨Nat.zero_le _, Int.le_refl _, fun _ _ h => absurd h (Nat.not_lt_zero _)⟩
    · exact (.cons rfl (.cons rfl (.cons rfl (.cons rfl (.cons rfl .nil)))))
    · exact (.cons rfl (.cons rfl .nil))
    rintro ⟨i, last⟩ ⟨hi, hl0, hI⟩
    dsimp only at hi hl0 hI
    refine W.seq ?_
    refine W.region ?_
    refine RL.q (Yld.bin rfl rfl BinV.lss) rfl ?_
    refine RL.nil ?_
    refine N.next ?_
    refine W.seq ?_
    first | refine W.condD rfl (fun hc51 => ?_) (fun hc51 => ?_) | (refine W.cond rfl (fun hc51 => ?_) (fun hc51 => ?_) <;> try simp only [Bool.or_eq_true, Bool.and_eq_true, Bool.not_eq_true', Bool.not_eq_false', decide_eq_true_eq, Bool.or_eq_false_iff, Bool.and_eq_false_iff, decide_eq_false_iff_not, beq_iff_eq, beq_eq_false_iff_ne, ne_eq, Decidable.not_not] at hc51)
    ·
      obtain ⟨a, ha⟩ : ∃ a, l[i]? = some a := ⟨_, List.getElem?_eq_getElem (show i < l.length by simp only [List.length_map] at *; omega)⟩
      have hla : (l.map O.c)[i]? = some a.c := by simp [ha]
      refine W.skip ?_
      refine N.next ?_
      refine W.seq ?_
      refine W.block ?_
      refine W.seq ?_
      refine W.region ?_
      refine RL.q (Yld.indexRow Tryd.underlying22 sz32 rfl rfl hS (by first | rfl | omega | (simp; done) | (simp; omega)) (by omega) (by first | omega | (simp; done) | (simp; omega))) rfl ?_
      refine RL.q (Yld.eq (v' := .agg [.int .i64 a.cl, .int .i64 a.nu, .int .i64 a.gr, .int .i64 a.kd, .string a.key, .int .i64 a.val, .int .i64 a.old, .int .i64 a.code, .bool a.fnd, .int .i64 a.rv, .int .i64 a.inv, .int .i64 a.rsp].toArray) (Yld.loadRow (cl := 1) Tryd.underlying32 rfl sz32 rfl rfl hS hla) rfl) rfl ?_
      refine RL.e (Eff.alloc 112 zc32) rfl ?_
      rintro _ _ ⟨b12, rfl, rfl⟩
      refine RL.e0 (Eff.storeS (c := 112) _ sz32 rfl rfl rfl rfl rfl rfl rfl (by (try simp only [putAt, List.take, List.drop, List.nil_append, List.cons_append, List.append_nil, List.length_cons, List.length_nil, Nat.add_zero, Nat.zero_add, Nat.reduceAdd]); rfl)) ?_
      rintro _ _ rfl
      refine RL.nil ?_
      refine N.next ?_
      refine W.region ?_
      refine RL.q (Yld.move rfl) rfl ?_
      refine RL.q (Yld.fieldAddr fo32_5 rfl) rfl ?_
      refine RL.q (Yld.load1 (c := 112) Tryd.underlying3 rfl rfl rfl (by first | exact single_self _ _ | exact pset_self _ _ _ | assumption) rfl) rfl ?_
      refine RL.q (Yld.fieldAddr fo32_6 rfl) rfl ?_
      refine RL.q (Yld.load1 (c := 112) Tryd.underlying3 rfl rfl rfl (by first | exact single_self _ _ | exact pset_self _ _ _ | assumption) rfl) rfl ?_
      refine RL.q (Yld.max3 rfl rfl rfl) rfl ?_
      refine RL.q (Yld.assign rfl) rfl ?_
      refine RL.nil ?_
      refine N.block_normal ?_
      refine N.next ?_
      refine W.keep (.cons (k := 0) rfl (.cons (k := 10) rfl (.cons (k := 48) rfl (.cons (k := 49) rfl (.cons (k := 50) rfl .nil))))) (.cons (k := 0) rfl (.cons (k := 1) rfl (.cons (k := 112) rfl .nil))) ?_
      refine W.region ?_
      refine RL.q (Yld.bin rfl rfl (by first | exact BinV.add (by omega) (by omega) | exact BinV.addW)) rfl ?_
      refine RL.q (Yld.move rfl) rfl ?_
      refine RL.nil ?_
      exact N.fam (i + 1, max (max last a.inv) a.rsp) ⟨⟨by show i + 1 ≤ _; omega, by show 0 ≤ max (max last a.inv) a.rsp; omega, fun i0 b h0 hb => by show b.inv ≤ max (max last a.inv) a.rsp ∧ b.rsp ≤ max (max last a.inv) a.rsp; exact (Nat.lt_succ_iff_lt_or_eq.1 h0).elim (fun h => by have := hI i0 b h hb; omega) (fun e => by subst e; rw [ha] at hb; cases hb; omega)⟩, by show _ - (i + 1) < _ - i; omega⟩ (.cons rfl (.cons rfl (.cons rfl (.cons rfl (.cons rfl .nil))))) (.cons rfl (.cons rfl .nil))
    ·
      have hI2 := upToLen (P := fun _ a => a.inv ≤ last ∧ a.rsp ≤ last) (l := l) (i := i) (by simp only [List.length_map] at *; omega) hI
      refine W.exit ?_
      refine N.then_exit ?_
      refine N.then_exit ?_
      refine N.block_eq ?_
      refine N.next ?_
      refine W.keep (.cons (k := 0) rfl (.cons (k := 10) rfl .nil)) (.cons (k := 0) rfl (.cons (k := 1) rfl .nil)) ?_
      refine W.seq ?_
      refine W.seq ?_
      refine W.region ?_
      refine RL.q (Yld.move rfl) rfl ?_
      refine RL.q (Yld.bin rfl rfl BinV.gtr) rfl ?_
      refine RL.nil ?_
      refine N.next ?_
      first | refine W.condD rfl (fun hc62 => ?_) (fun hc62 => ?_) | (refine W.cond rfl (fun hc62 => ?_) (fun hc62 => ?_) <;> try simp only [Bool.or_eq_true, Bool.and_eq_true, Bool.not_eq_true', Bool.not_eq_false', decide_eq_true_eq, Bool.or_eq_false_iff, Bool.and_eq_false_iff, decide_eq_false_iff_not, beq_iff_eq, beq_eq_false_iff_ne, ne_eq, Decidable.not_not] at hc62)
      ·
        refine W.seq ?_
        refine W.region ?_
        refine RL.e (Eff.call ent11 [] [] .nil awake_ct rfl rfl rfl rfl (by rintro _ _ ⟨_, rfl⟩; rfl)) rfl ?_
        rintro _ _ ⟨_, ⟨rfl, rfl⟩, rfl⟩
        refine RL.q (Yld.assign rfl) rfl ?_
        refine RL.nil ?_
        refine N.next ?_
        refine W.ret ?_
        refine N.then_ret ?_
        exact N.retBy [1] (.cons (.tmp rfl) .nil) rfl rfl rfl rfl ⟨rfl, rfl⟩
      ·
        have hall : prefixL (last + 1) l = l := prefix_all fun o ho => by
          obtain ⟨i0, h0⟩ := List.getElem?_of_mem ho
          have := hI2 i0 o h0; omega
        have hz0 : (((prefixL 0 l).map O.c).length : Int) = 0 := by rw [hv.pre_zero]; rfl
        refine W.skip ?_
        refine N.next ?_
        refine W.seq ?_
        refine W.region ?_
        refine RL.q (Yld.move rfl) rfl ?_
        refine RL.q (Yld.move rfl) rfl ?_
        refine RL.q (Yld.bin rfl rfl (by first | exact BinV.add (by omega) (by omega) | exact BinV.addW)) rfl ?_
        refine RL.e (Eff.call ent16 [1] [1, 160] (.cons rfl (.cons rfl .nil)) (prefix_ct l hl6 _ _ _ hS (last + 1)) rfl rfl rfl rfl (by rintro _ _ ⟨_, _, _, _, _, rfl⟩; rfl)) rfl ?_
        rintro _ _ ⟨_, ⟨Hs1, ps, cs, rfl, hOs, rfl⟩, rfl⟩
        refine RL.q (Yld.move rfl) rfl ?_
        refine RL.e (Eff.call ent17 [160, 1] [160, 1] (.cons rfl (.cons rfl .nil)) (sameT_ct _ _ _ _ _ _ _ _ hOs.sl hS hall) rfl rfl rfl rfl (by rintro _ _ ⟨_, rfl⟩; rfl)) rfl ?_
        rintro _ _ ⟨_, ⟨rfl, rfl⟩, rfl⟩
        refine RL.q (Yld.move rfl) rfl ?_
        first | refine RL.as (t := 70) rfl (boolT (by first | assumption | omega | (simp; done))) ?_ | refine RL.as (t := 70) (v := .bool true) rfl rfl ?_
        refine RL.gq rfl rfl (Yld.move rfl) rfl ?_
        refine RL.ge rfl rfl (Eff.call ent16 [1] [1, 170] (.cons rfl (.cons rfl .nil)) (prefix_ct l hl6 _ _ _ hS 0) rfl rfl rfl rfl (by rintro _ _ ⟨_, _, _, _, _, rfl⟩; rfl)) rfl ?_
        rintro _ _ ⟨_, ⟨Ht, pt, ct, rfl, hOt, rfl⟩, rfl⟩
        refine RL.gq rfl rfl (Yld.lenSl Tryd.underlying22 rfl) rfl ?_
        refine RL.gq rfl rfl (Yld.bin rfl rfl BinV.eql) rfl ?_
        refine RL.q (by first | exact Yld.pickT rfl rfl | exact Yld.pickF rfl rfl) rfl ?_
        refine RL.q (Yld.move rfl) rfl ?_
        first | refine RL.as (t := 76) rfl (boolT (by first | assumption | omega | (simp; done))) ?_ | refine RL.as (t := 76) (v := .bool true) rfl rfl ?_
        refine RL.ge rfl rfl (Eff.call ent11 [] [] .nil awake_ct rfl rfl rfl rfl (by rintro _ _ ⟨_, rfl⟩; rfl)) rfl ?_
        rintro _ _ ⟨_, ⟨rfl, rfl⟩, rfl⟩
        refine RL.q (by first | exact Yld.pickT rfl rfl | exact Yld.pickF rfl rfl) rfl ?_
        refine RL.q (Yld.assign rfl) rfl ?_
        refine RL.nil ?_
        refine N.next ?_
        refine W.keep (.cons (k := 6) rfl .nil) (.cons (k := 0) rfl (.cons (k := 1) rfl (.cons (k := 160) rfl (.cons (k := 170) rfl .nil)))) ?_
        refine W.ret ?_
        exact N.retBy [1] (.cons (.tmp rfl) .nil) rfl rfl rfl rfl ⟨rfl, rfl⟩

end Go.Proofs.YtbgppnkccbhbpaaDoor
