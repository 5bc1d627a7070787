/- VoteTimeouts, VoteOne. Written by program (walk2.py). -/
import Derived.Test.YtldnbbnaighakaaV5
namespace Go.Proofs.Ytldnbbnaighakaa
open SL Cfg Vote
set_option linter.unusedVariables false
set_option linter.unusedSimpArgs false
theorem ent13 : Ent Try.prog 13 := ⟨_, _, Try.func13, by kernel_rfl, rfl⟩
theorem zc39 : zc Try.prog 39 [.int .i64 0, .int .i64 0, .int .i64 0, .bool false, .bool false] := (by kernel_rfl : ((Try.prog.info? 39).bind (·.zero)).map (fun v => v.cells.toList) = some [.int .i64 0, .int .i64 0, .int .i64 0, .bool false, .bool false])
theorem zv3 : zv Try.prog 3 (.int .i64 0) := (by kernel_rfl : (Try.prog.info? 3).bind (·.zero) = some (.int .i64 0))
structure Vote.TI where
  j : Nat
  es : Array MapEntry
  ck : Nat
  m : List (Int × Value)
theorem Vote.used_put {V : List Int} (hs : V.Pairwise (· < ·)) {tm : Int} {m : List (Int × Value)} {j : Nat} {z : Int} (hz : V[j]? = some z) (hl : m.length = j) (h : ∀ k, (mget m k).isSome = true ↔ ∃ i a, i < j ∧ V[i]? = some a ∧ k = tmo V tm a) :
    (mset m (tmo V tm z) (.bool true)).length = j + 1 ∧ ∀ k, (mget (mset m (tmo V tm z) (.bool true)) k).isSome = true ↔ ∃ i a, i < j + 1 ∧ V[i]? = some a ∧ k = tmo V tm a := by
  have hn : mget m (tmo V tm z) = none := by
    cases hm : mget m (tmo V tm z) with
    | none => rfl
    | some u =>
      obtain ⟨i, a, hi, ha, e⟩ := (h (tmo V tm z)).1 (by rw [hm]; rfl)
      have := tmo_inj hs hz ha tm e
      omega
  refine ⟨by rw [mset_none hn, List.length_append, hl]; rfl, fun k => ?_⟩
  rw [mget_mset]
  constructor
  · intro hk
    by_cases e : tmo V tm z = k
    · exact ⟨j, z, by omega, hz, e.symm⟩
    · rw [if_neg e] at hk
      obtain ⟨i, a, hi, ha, e2⟩ := (h k).1 hk
      exact ⟨i, a, by omega, ha, e2⟩
  · rintro ⟨i, a, hi, ha, rfl⟩
    by_cases e : i = j
    · subst e; rw [hz] at ha; cases ha; rw [if_pos rfl]; rfl
    · split
      · rfl
      · exact (h _).2 ⟨i, a, by omega, ha, rfl⟩

set_option maxRecDepth 100000 in
set_option maxHeartbeats 3200000 in
theorem timeouts_ct (x : Cf) (H1 : PH) (hx : x.In H1) (tm me : Int) : Ct Try.prog 3 [.agg [.slice x.po x.o.length x.co, .slice x.pn x.n.length x.cn, .slice x.pl x.l.length x.cl].toArray, .int .i64 tm, .int .i64 me] [H1] (fun r Hs => r = .bool true ∧ Hs = [H1]) := by
  refine Ct.body Try.func3 rfl Try.ntmps3 rfl ?_
  intro E F
  refine W.seq ?_
  refine W.region ?_
  refine RL.e (Eff.box 103 _ rfl rfl) rfl ?_
  rintro _ _ ⟨b3, rfl, rfl⟩
  refine RL.q (Yld.assign rfl) rfl ?_
  refine RL.nil ?_
  refine N.next ?_
  refine W.seq ?_
  refine W.seq ?_
  refine W.region ?_
  refine RL.e (Eff.call ent9 [] [] .nil awake_ct rfl rfl rfl rfl (by rintro _ _ ⟨_, rfl⟩; rfl)) rfl ?_
  rintro _ _ ⟨_, ⟨rfl, rfl⟩, rfl⟩
  refine RL.q (by first | exact Yld.notD rfl | exact Yld.not rfl) rfl ?_
  refine RL.nil ?_
  refine N.next ?_
  first | (refine W.as (t := 13) rfl (boolF (by first | assumption | omega | (simp; done))) ?_; refine W.condF rfl ?_) | refine W.condF rfl ?_
  refine W.skip ?_
  refine N.next ?_
  refine W.keep (.cons (k := 1) rfl (.cons (k := 2) rfl (.cons (k := 3) rfl .nil))) (.cons (k := 0) rfl (.cons (k := 1) rfl (.cons (k := 103) rfl .nil))) ?_
  refine W.seq ?_
  refine W.seq ?_
  refine W.region ?_
  refine RL.q (Yld.loadW (c := 103) Try.underlying24 rfl sz24 rfl rfl (by first | exact single_self _ _ | exact pset_self _ _ _ | assumption) rfl) rfl ?_
  refine RL.e (Eff.call ent10 [1] [1] (.cons rfl (.cons rfl .nil)) (cfew_ct x H1 hx 8) rfl rfl rfl rfl (by rintro _ _ ⟨_, rfl⟩; rfl)) rfl ?_
  rintro _ _ ⟨_, ⟨rfl, rfl⟩, rfl⟩
  refine RL.q (by first | exact Yld.notD rfl | exact Yld.not rfl) rfl ?_
  refine RL.q (Yld.move rfl) rfl ?_
  refine' RL.or (t := 17) (d := 21) 4 rfl (.cons (k := 1) rfl (.cons (k := 2) rfl (.cons (k := 3) rfl (.cons (k := 14) rfl (.cons (k := 15) rfl (.cons (k := 16) rfl .nil)))))) (.cons (k := 0) rfl (.cons (k := 1) rfl (.cons (k := 103) rfl .nil))) ?_ ?_ ?_
  rotate_left 1
  ·
    intro hg17
    have hf8 : (x.o.length : Int) ≤ 8 ∧ (x.n.length : Int) ≤ 8 ∧ (x.l.length : Int) ≤ 8 := by
      have h := hg17
      simp only [Bool.or_eq_false_iff, Bool.not_eq_false', decide_eq_true_eq, decide_eq_false_iff_not, Classical.not_not] at h
      exact h
    refine RL.gq rfl rfl (Yld.loadW (c := 103) Try.underlying24 rfl sz24 rfl rfl (by first | exact single_self _ _ | exact pset_self _ _ _ | assumption) rfl) rfl ?_
    refine RL.ge rfl rfl (Eff.call ent11 [1] [1] (.cons rfl .nil) (plain_ct x H1 hx (by omega) (by omega) (by omega)) rfl rfl rfl rfl (by rintro _ _ ⟨_, rfl⟩; rfl)) rfl ?_
    rintro _ _ ⟨_, ⟨rfl, rfl⟩, rfl⟩
    refine RL.gq rfl rfl (by first | exact Yld.notD rfl | exact Yld.not rfl) rfl ?_
    refine RL.q (by first | exact Yld.pickT rfl rfl | exact Yld.pickF rfl rfl) rfl ?_
    exact RL.nil (N.meet (.cons rfl (.cons rfl (.cons rfl (.cons rfl (.cons rfl (.cons rfl (.cons rfl .nil))))))) (.cons rfl (.cons rfl (.cons rfl .nil))))
  ·
    intro hg17
    refine RL.gskip rfl rfl rfl rfl ?_
    refine RL.gskip rfl rfl rfl rfl ?_
    refine RL.gskip rfl rfl rfl rfl ?_
    refine RL.q (by first | exact Yld.pickT rfl rfl | exact Yld.pickF rfl rfl) rfl ?_
    exact RL.nil (N.meet (.cons rfl (.cons rfl (.cons rfl (.cons rfl (.cons rfl (.cons rfl (.cons rfl .nil))))))) (.cons rfl (.cons rfl (.cons rfl .nil))))
  refine RL.nil ?_
  refine N.next ?_
  refine W.cond rfl (fun hc21 => ?_) (fun hc21 => ?_)
  ·
    refine W.seq ?_
    refine W.region ?_
    refine RL.q (Yld.assign rfl) rfl ?_
    refine RL.nil ?_
    refine N.next ?_
    refine W.keep (.cons (k := 6) rfl .nil) (.cons (k := 0) rfl (.cons (k := 1) rfl (.cons (k := 103) rfl .nil))) ?_
    refine W.ret ?_
    refine N.then_ret ?_
    exact N.retBy [1] (.cons (.tmp rfl) .nil) rfl rfl rfl rfl ⟨rfl, rfl⟩
  ·
    have hf8 : (x.o.length : Int) ≤ 8 ∧ (x.n.length : Int) ≤ 8 ∧ (x.l.length : Int) ≤ 8 := by
      have h := hc21
      simp only [Bool.or_eq_false_iff, Bool.not_eq_false', decide_eq_true_eq, decide_eq_false_iff_not, Classical.not_not] at h
      exact h.1
    refine W.skip ?_
    refine N.next ?_
    refine W.keep (.cons (k := 1) rfl (.cons (k := 2) rfl (.cons (k := 3) rfl .nil))) (.cons (k := 0) rfl (.cons (k := 1) rfl (.cons (k := 103) rfl .nil))) ?_
    refine W.seq ?_
    refine W.seq ?_
    refine W.draw (.q 0 (.q 1 (.q 2 (.q 4 (.q 5 (.q 6 (.one 3 (.one 7 (.q 8 .done))))))))) (.cons (k := 0) rfl (.cons (k := 103) rfl .nil)) mix (by kernel_rfl) (by kernel_rfl) ?_
    refine DL.q rfl (Yld.loadW (c := 103) Try.underlying24 rfl sz24 rfl rfl (by first | exact single_self _ _ | exact pset_self _ _ _ | assumption) rfl) rfl ?_
    refine DL.q rfl (Yld.move rfl) rfl ?_
    refine DL.q rfl (Yld.move rfl) rfl ?_
    refine DL.q rfl (Yld.loadW (c := 103) Try.underlying24 rfl sz24 rfl rfl (by first | exact single_self _ _ | exact pset_self _ _ _ | assumption) rfl) rfl ?_
    refine DL.q rfl (Yld.move rfl) rfl ?_
    refine DL.q rfl (Yld.move rfl) rfl ?_
    refine DL.one rfl (Eff.call ent12 [1] [1] (.cons rfl (.cons rfl (.cons rfl .nil))) (vtmo_ct x H1 hx (by omega) (by omega) tm me) rfl rfl rfl rfl (by rintro _ _ ⟨_, rfl⟩; rfl)) rfl (by rintro _ _ ⟨_, ⟨rfl, rfl⟩, rfl⟩; repeat (first | exact .nil | refine .cons rfl ?_)) ?_
    rintro _ _ ⟨_, ⟨rfl, rfl⟩, rfl⟩
    refine DL.one rfl (Eff.call ent13 [1] [1] (.cons rfl (.cons rfl (.cons rfl .nil))) (rvtmo_ct x H1 hx (by omega) (by omega) tm me) rfl rfl rfl rfl (by rintro _ _ ⟨_, rfl⟩; rfl)) rfl (by rintro _ _ ⟨_, ⟨rfl, rfl⟩, rfl⟩; repeat (first | exact .nil | refine .cons rfl ?_)) ?_
    rintro _ _ ⟨_, ⟨rfl, rfl⟩, rfl⟩
    refine DL.q rfl (Yld.bin rfl rfl BinV.neq) rfl ?_
    refine DL.done ?_
    refine N.next ?_
    refine W.keep (.cons (k := 1) rfl (.cons (k := 3) rfl (.cons (k := 30) rfl .nil))) (.cons (k := 0) rfl (.cons (k := 1) rfl (.cons (k := 103) rfl .nil))) ?_
    first | (refine W.as (t := 30) rfl (boolF (by first | assumption | omega | (simp; done))) ?_; refine W.condF rfl ?_) | refine W.condF rfl ?_
    refine W.skip ?_
    refine N.next ?_
    refine W.seq ?_
    refine W.region ?_
    refine RL.q (Yld.loadW (c := 103) Try.underlying24 rfl sz24 rfl rfl (by first | exact single_self _ _ | exact pset_self _ _ _ | assumption) rfl) rfl ?_
    refine RL.e (Eff.call ent14 [1] [1, 130] (.cons rfl .nil) (cvoters_ct x H1 hx (by simp; omega)) rfl rfl rfl rfl (by rintro _ _ ⟨_, _, _, _, _, rfl⟩; rfl)) rfl ?_
    rintro _ _ ⟨_, ⟨Hv, pv, cv, rfl, hOv, rfl⟩, rfl⟩
    have hVl := setL_len (x.o ++ x.n)
    rw [List.length_append] at hVl
    have hVs := (setL_is (x.o ++ x.n)).sorted
    obtain ⟨V, hV⟩ : ∃ V, setL (x.o ++ x.n) = V := ⟨_, rfl⟩
    rw [hV] at hOv hVl hVs ⊢
    have hcv := hOv.sl.len_le
    simp only [iz_len, maxLen] at hcv
    refine RL.q (Yld.assign rfl) rfl ?_
    refine RL.nil ?_
    refine N.next ?_
    refine W.seq ?_
    refine W.seq ?_
    refine W.region ?_
    refine RL.q (Yld.move rfl) rfl ?_
    refine RL.q (Yld.bin rfl rfl BinV.gtr) rfl ?_
    refine RL.q (Yld.move rfl) rfl ?_
    refine' RL.or (t := 35) (d := 38) 3 rfl (.cons (k := 1) rfl (.cons (k := 3) rfl (.cons (k := 7) rfl (.cons (k := 30) rfl (.cons (k := 31) rfl (.cons (k := 32) rfl (.cons (k := 33) rfl (.cons (k := 34) rfl .nil)))))))) (.cons (k := 0) rfl (.cons (k := 1) rfl (.cons (k := 103) rfl (.cons (k := 130) rfl .nil)))) ?_ ?_ ?_
    rotate_left 1
    ·
      intro hg35
      refine RL.gq rfl rfl (Yld.move rfl) rfl ?_
      refine RL.gq rfl rfl (Yld.bin rfl rfl BinV.lss) rfl ?_
      refine RL.q (by first | exact Yld.pickT rfl rfl | exact Yld.pickF rfl rfl) rfl ?_
      exact RL.nil (N.meet (.cons rfl (.cons rfl (.cons rfl (.cons rfl (.cons rfl (.cons rfl (.cons rfl (.cons rfl (.cons rfl .nil))))))))) (.cons rfl (.cons rfl (.cons rfl (.cons rfl .nil)))))
    ·
      intro hg35
      refine RL.gskip rfl rfl rfl rfl ?_
      refine RL.gskip rfl rfl rfl rfl ?_
      refine RL.q (by first | exact Yld.pickT rfl rfl | exact Yld.pickF rfl rfl) rfl ?_
      exact RL.nil (N.meet (.cons rfl (.cons rfl (.cons rfl (.cons rfl (.cons rfl (.cons rfl (.cons rfl (.cons rfl (.cons rfl .nil))))))))) (.cons rfl (.cons rfl (.cons rfl (.cons rfl .nil)))))
    refine RL.nil ?_
    refine N.next ?_
    refine W.keep (.cons (k := 1) rfl (.cons (k := 3) rfl (.cons (k := 7) rfl (.cons (k := 38) rfl .nil)))) (.cons (k := 0) rfl (.cons (k := 1) rfl (.cons (k := 103) rfl (.cons (k := 130) rfl .nil)))) ?_
    refine W.cond rfl (fun hc38 => ?_) (fun hc38 => ?_)
    ·
      refine W.seq ?_
      refine W.region ?_
      refine RL.q (Yld.assign rfl) rfl ?_
      refine RL.nil ?_
      refine N.next ?_
      refine W.keep (.cons (k := 6) rfl .nil) (.cons (k := 0) rfl (.cons (k := 1) rfl (.cons (k := 103) rfl (.cons (k := 130) rfl .nil)))) ?_
      refine W.ret ?_
      refine N.then_ret ?_
      exact N.retBy [1] (.cons (.tmp rfl) .nil) rfl rfl rfl rfl ⟨rfl, rfl⟩
    ·
      simp only [Bool.or_eq_false_iff, decide_eq_false_iff_not] at hc38
      refine W.skip ?_
      refine N.next ?_
      refine W.seq ?_
      refine W.seq ?_
      refine W.region ?_
      refine RL.q (Yld.move rfl) rfl ?_
      refine RL.q (Yld.lenSl Try.underlying22 rfl) rfl ?_
      refine RL.q (Yld.move rfl) rfl ?_
      refine RL.nil ?_
      refine N.next ?_
      refine W.block ?_
      refine W.loopK (ι := Nat) (fun i => (i ≤ V.length)) (fun i => [(41, .int .i64 (i : Nat))]) (fun i => []) (fun i => V.length - i) (.cons (k := 1) rfl (.cons (k := 3) rfl (.cons (k := 7) rfl (.cons (k := 40) rfl .nil)))) (.cons (k := 0) rfl (.cons (k := 1) rfl (.cons (k := 103) rfl (.cons (k := 130) rfl .nil)))) 0 ?_ ?_ ?_ ?_
      · exact Nat.zero_le _
      · exact (.as rfl (by first | rfl | (simp; done) | (congr 1; simp; done) | (congr 1; omega)) .nil)
      · exact .nil
      rintro i hi
      refine W.keep (.cons (k := 41) rfl (.cons (k := 1) rfl (.cons (k := 3) rfl (.cons (k := 7) rfl (.cons (k := 40) rfl .nil))))) (.cons (k := 0) rfl (.cons (k := 1) rfl (.cons (k := 103) rfl (.cons (k := 130) rfl .nil)))) ?_
      refine W.seq ?_
      refine W.region ?_
      refine RL.q (Yld.bin rfl rfl BinV.lss) rfl ?_
      refine RL.nil ?_
      refine N.next ?_
      refine W.seq ?_
      first | refine W.condD rfl (fun hc42 => ?_) (fun hc42 => ?_) | (refine W.cond rfl (fun hc42 => ?_) (fun hc42 => ?_) <;> try simp only [Bool.or_eq_true, Bool.and_eq_true, Bool.not_eq_true', Bool.not_eq_false', decide_eq_true_eq, Bool.or_eq_false_iff, Bool.and_eq_false_iff, decide_eq_false_iff_not, beq_iff_eq, beq_eq_false_iff_ne, ne_eq, Decidable.not_not] at hc42)
      ·
        obtain ⟨a, ha, hla⟩ := iz_at (show i < V.length by omega)
        refine W.skip ?_
        refine N.next ?_
        refine W.seq ?_
        refine W.block ?_
        refine W.seq ?_
        refine W.region ?_
        refine RL.q (Yld.move rfl) rfl ?_
        refine RL.q (Yld.assign rfl) rfl ?_
        refine RL.nil ?_
        refine N.next ?_
        refine W.seq ?_
        refine W.region ?_
        refine RL.e (Eff.makeMap 144) rfl ?_
        rintro _ _ ⟨b44, rfl, rfl⟩
        refine RL.q (Yld.assign rfl) rfl ?_
        refine RL.q (Yld.assign rfl) rfl ?_
        refine RL.nil ?_
        refine N.next ?_
        refine W.seq ?_
        refine W.seq ?_
        refine W.region ?_
        refine RL.q (Yld.move rfl) rfl ?_
        refine RL.q (Yld.lenSl Try.underlying22 rfl) rfl ?_
        refine RL.q (Yld.move rfl) rfl ?_
        refine RL.nil ?_
        refine N.next ?_
        refine W.keep (.cons (k := 1) rfl (.cons (k := 3) rfl (.cons (k := 7) rfl (.cons (k := 8) rfl (.cons (k := 9) rfl (.cons (k := 10) rfl (.cons (k := 40) rfl (.cons (k := 41) rfl (.cons (k := 46) rfl (.cons (k := 47) rfl .nil)))))))))) (.cons (k := 0) rfl (.cons (k := 1) rfl (.cons (k := 103) rfl (.cons (k := 130) rfl (.cons (k := 144) rfl .nil))))) ?_
        refine W.block ?_
        refine W.loopK (ι := TI) (fun y => (y.j ≤ V.length ∧ MapP (fun a : Int => Value.int .i64 a) y.es y.ck y.m ∧ y.m.length = y.j ∧ ∀ k, (mget y.m k).isSome = true ↔ ∃ i a, i < y.j ∧ V[i]? = some a ∧ k = tmo V tm a)) (fun y => [(9, .int .i64 (if fstK V i tm < y.j then 1 else 0)), (47, .int .i64 (y.j : Nat))]) (fun y => [(144, single b44 (.map y.es y.ck))]) (fun y => V.length - y.j) (.cons (k := 1) rfl (.cons (k := 3) rfl (.cons (k := 7) rfl (.cons (k := 8) rfl (.cons (k := 10) rfl (.cons (k := 40) rfl (.cons (k := 41) rfl (.cons (k := 46) rfl .nil)))))))) (.cons (k := 0) rfl (.cons (k := 1) rfl (.cons (k := 103) rfl (.cons (k := 130) rfl .nil)))) ⟨0, #[], 0, []⟩ ?_ ?_ ?_ ?_
        · exact ⟨Nat.zero_le _, MapP.empty _, rfl, fun k => by simp [mget]⟩
        · exact (.as rfl (by first | rfl | (simp; done) | (congr 1; simp; done) | (congr 1; omega)) (.as rfl (by first | rfl | (simp; done) | (congr 1; simp; done) | (congr 1; omega)) .nil))
        · exact (.cons rfl .nil)
        rintro y ⟨hj, hM, hml, hmk⟩
        refine W.keep (.cons (k := 9) rfl (.cons (k := 47) rfl (.cons (k := 1) rfl (.cons (k := 3) rfl (.cons (k := 7) rfl (.cons (k := 8) rfl (.cons (k := 10) rfl (.cons (k := 40) rfl (.cons (k := 41) rfl (.cons (k := 46) rfl .nil)))))))))) (.cons (k := 144) rfl (.cons (k := 0) rfl (.cons (k := 1) rfl (.cons (k := 103) rfl (.cons (k := 130) rfl .nil))))) ?_
        refine W.seq ?_
        refine W.region ?_
        refine RL.q (Yld.bin rfl rfl BinV.lss) rfl ?_
        refine RL.nil ?_
        refine N.next ?_
        refine W.seq ?_
        first | refine W.condD rfl (fun hc48 => ?_) (fun hc48 => ?_) | (refine W.cond rfl (fun hc48 => ?_) (fun hc48 => ?_) <;> try simp only [Bool.or_eq_true, Bool.and_eq_true, Bool.not_eq_true', Bool.not_eq_false', decide_eq_true_eq, Bool.or_eq_false_iff, Bool.and_eq_false_iff, decide_eq_false_iff_not, beq_iff_eq, beq_eq_false_iff_ne, ne_eq, Decidable.not_not] at hc48)
        ·
          obtain ⟨z, hz, hlz⟩ := iz_at (show y.j < V.length by omega)
          refine W.skip ?_
          refine N.next ?_
          refine W.seq ?_
          refine W.block ?_
          refine W.seq ?_
          refine W.region ?_
          refine RL.q (Yld.move rfl) rfl ?_
          refine RL.q (Yld.assign rfl) rfl ?_
          refine RL.nil ?_
          refine N.next ?_
          refine W.seq ?_
          refine W.seq ?_
          refine W.draw (.q 0 (.q 1 (.q 2 (.q 3 (.q 4 (.q 5 (.q 6 (.q 7 (.one 8 (.q 9 .done)))))))))) (.cons (k := 0) rfl (.cons (k := 103) rfl (.cons (k := 130) rfl (.cons (k := 144) rfl .nil)))) mix (by kernel_rfl) (by kernel_rfl) ?_
          refine DL.q rfl (Yld.loadW (c := 103) Try.underlying24 rfl sz24 rfl rfl (by first | exact single_self _ _ | exact pset_self _ _ _ | assumption) rfl) rfl ?_
          refine DL.q rfl (Yld.move rfl) rfl ?_
          refine DL.q rfl (Yld.move rfl) rfl ?_
          refine DL.q rfl (Yld.bin rfl rfl (by first | exact BinV.add (by omega) (by omega) | exact BinV.addW)) rfl ?_
          refine DL.q rfl (Yld.move rfl) rfl ?_
          refine DL.q rfl (Yld.move rfl) rfl ?_
          refine DL.q rfl (Yld.indexRow Try.underlying22 sz3 rfl rfl (by first | assumption | exact Own.sl (by assumption)) (by first | rfl | omega | (simp; done) | (simp; omega)) (by omega) (by first | omega | (simp; done) | (simp; omega))) rfl ?_
          refine DL.q rfl (by first | exact (by first | exact Yld.loadRow1 (cl := 1) Try.underlying3 rfl rfl rfl (by first | assumption | exact Own.sl (by assumption)) (by assumption) | exact Yld.loadRow1 (cl := 103) Try.underlying3 rfl rfl rfl (by first | assumption | exact Own.sl (by assumption)) (by assumption) | exact Yld.loadRow1 (cl := 130) Try.underlying3 rfl rfl rfl (by first | assumption | exact Own.sl (by assumption)) (by assumption) | exact Yld.loadRow1 (cl := 144) Try.underlying3 rfl rfl rfl (by first | assumption | exact Own.sl (by assumption)) (by assumption)) | exact (by first | exact Yld.loadRowF (cl := 1) (j := 0) Try.underlying3 rfl rfl rfl (by first | assumption | exact Own.sl (by assumption)) (by assumption) rfl | exact Yld.loadRowF (cl := 103) (j := 0) Try.underlying3 rfl rfl rfl (by first | assumption | exact Own.sl (by assumption)) (by assumption) rfl | exact Yld.loadRowF (cl := 130) (j := 0) Try.underlying3 rfl rfl rfl (by first | assumption | exact Own.sl (by assumption)) (by assumption) rfl | exact Yld.loadRowF (cl := 144) (j := 0) Try.underlying3 rfl rfl rfl (by first | assumption | exact Own.sl (by assumption)) (by assumption) rfl)) rfl ?_
          refine DL.one rfl (Eff.call ent12 [1] [1] (.cons rfl (.cons rfl (.cons rfl .nil))) (vtmo_ct x H1 hx (by omega) (by omega) (tm + (y.j : Nat)) a) rfl rfl rfl rfl (by rintro _ _ ⟨_, rfl⟩; rfl)) rfl (by rintro _ _ ⟨_, ⟨rfl, rfl⟩, rfl⟩; repeat (first | exact .nil | refine .cons rfl ?_)) ?_
          rintro _ _ ⟨_, ⟨rfl, rfl⟩, rfl⟩
          rw [hV]
          refine DL.q rfl (Yld.bin rfl rfl BinV.eql) rfl ?_
          refine DL.done ?_
          refine N.next ?_
          refine W.keep (.cons (k := 1) rfl (.cons (k := 3) rfl (.cons (k := 7) rfl (.cons (k := 8) rfl (.cons (k := 9) rfl (.cons (k := 10) rfl (.cons (k := 11) rfl (.cons (k := 40) rfl (.cons (k := 41) rfl (.cons (k := 46) rfl (.cons (k := 47) rfl (.cons (k := 59) rfl .nil)))))))))))) (.cons (k := 0) rfl (.cons (k := 1) rfl (.cons (k := 103) rfl (.cons (k := 130) rfl (.cons (k := 144) rfl .nil))))) ?_
          first | refine W.condD rfl (fun hc59 => ?_) (fun hc59 => ?_) | (refine W.cond rfl (fun hc59 => ?_) (fun hc59 => ?_) <;> try simp only [Bool.or_eq_true, Bool.and_eq_true, Bool.not_eq_true', Bool.not_eq_false', decide_eq_true_eq, Bool.or_eq_false_iff, Bool.and_eq_false_iff, decide_eq_false_iff_not, beq_iff_eq, beq_eq_false_iff_ne, ne_eq, Decidable.not_not] at hc59)
          ·
            have hjf := (first_iff hVs ha (show y.j < V.length by omega)).1 hc59
            refine W.region ?_
            refine RL.q (Yld.move rfl) rfl ?_
            refine RL.q (Yld.bin rfl rfl (by first | exact BinV.add (by omega) (by omega) | exact BinV.addW)) rfl ?_
            refine RL.q (Yld.assign rfl) rfl ?_
            refine RL.nil ?_
            refine N.next ?_
            refine W.draw (.q 0 (.q 1 (.q 2 (.q 3 (.q 4 (.q 5 (.q 6 (.one 7 (.one 8 .done))))))))) (.cons (k := 0) rfl (.cons (k := 103) rfl (.cons (k := 130) rfl .nil))) mix (by kernel_rfl) (by kernel_rfl) ?_
            refine DL.q rfl (Yld.move rfl) rfl ?_
            refine DL.q rfl (Yld.loadW (c := 103) Try.underlying24 rfl sz24 rfl rfl (by first | exact single_self _ _ | exact pset_self _ _ _ | assumption) rfl) rfl ?_
            refine DL.q rfl (Yld.move rfl) rfl ?_
            refine DL.q rfl (Yld.move rfl) rfl ?_
            refine DL.q rfl (Yld.move rfl) rfl ?_
            refine DL.q rfl (Yld.indexRow Try.underlying22 sz3 rfl rfl (by first | assumption | exact Own.sl (by assumption)) (by first | rfl | omega | (simp; done) | (simp; omega)) (by omega) (by first | omega | (simp; done) | (simp; omega))) rfl ?_
            refine DL.q rfl (by first | exact (by first | exact Yld.loadRow1 (cl := 1) Try.underlying3 rfl rfl rfl (by first | assumption | exact Own.sl (by assumption)) (by assumption) | exact Yld.loadRow1 (cl := 103) Try.underlying3 rfl rfl rfl (by first | assumption | exact Own.sl (by assumption)) (by assumption) | exact Yld.loadRow1 (cl := 130) Try.underlying3 rfl rfl rfl (by first | assumption | exact Own.sl (by assumption)) (by assumption) | exact Yld.loadRow1 (cl := 144) Try.underlying3 rfl rfl rfl (by first | assumption | exact Own.sl (by assumption)) (by assumption)) | exact (by first | exact Yld.loadRowF (cl := 1) (j := 0) Try.underlying3 rfl rfl rfl (by first | assumption | exact Own.sl (by assumption)) (by assumption) rfl | exact Yld.loadRowF (cl := 103) (j := 0) Try.underlying3 rfl rfl rfl (by first | assumption | exact Own.sl (by assumption)) (by assumption) rfl | exact Yld.loadRowF (cl := 130) (j := 0) Try.underlying3 rfl rfl rfl (by first | assumption | exact Own.sl (by assumption)) (by assumption) rfl | exact Yld.loadRowF (cl := 144) (j := 0) Try.underlying3 rfl rfl rfl (by first | assumption | exact Own.sl (by assumption)) (by assumption) rfl)) rfl ?_
            refine DL.one rfl (Eff.call ent12 [1] [1] (.cons rfl (.cons rfl (.cons rfl .nil))) (vtmo_ct x H1 hx (by omega) (by omega) tm z) rfl rfl rfl rfl (by rintro _ _ ⟨_, rfl⟩; rfl)) rfl (by rintro _ _ ⟨_, ⟨rfl, rfl⟩, rfl⟩; repeat (first | exact .nil | refine .cons rfl ?_)) ?_
            rintro _ _ ⟨_, ⟨rfl, rfl⟩, rfl⟩
            rw [hV]
            refine DL.one0 rfl (Eff.mapUpdate (c := 144) Try.underlying30 (keyInt Try.underlying3) rfl rfl rfl rfl (by assumption)) (by rintro _ _ ⟨es1, ck1, hM1, rfl⟩; repeat (first | exact .nil | refine .cons rfl ?_)) ?_
            rintro _ _ ⟨es1, ck1, hM1, rfl⟩
            refine DL.done ?_
            refine N.block_normal ?_
            refine N.next ?_
            refine W.keep (.cons (k := 1) rfl (.cons (k := 3) rfl (.cons (k := 7) rfl (.cons (k := 8) rfl (.cons (k := 9) rfl (.cons (k := 10) rfl (.cons (k := 40) rfl (.cons (k := 41) rfl (.cons (k := 46) rfl (.cons (k := 47) rfl .nil)))))))))) (.cons (k := 0) rfl (.cons (k := 1) rfl (.cons (k := 103) rfl (.cons (k := 130) rfl (.cons (k := 144) rfl .nil))))) ?_
            refine W.region ?_
            refine RL.q (Yld.bin rfl rfl (by first | exact BinV.add (by omega) (by omega) | exact BinV.addW)) rfl ?_
            refine RL.q (Yld.move rfl) rfl ?_
            refine RL.nil ?_
            exact N.famK ⟨y.j + 1, _, _, mset y.m (tmo V tm z) (.bool true)⟩ ⟨⟨by dsimp only; omega, by assumption, used_put hVs hz hml hmk⟩, by dsimp only; omega⟩ (.as rfl (by dsimp only; rw [if_neg (by omega), if_pos (by omega)]; rfl) (.as rfl (by first | rfl | (simp; done) | (congr 1; simp; done) | (congr 1; omega)) .nil)) (.cons rfl (.cons rfl (.cons rfl (.cons rfl (.cons rfl (.cons rfl (.cons rfl (.cons rfl .nil)))))))) (.cons rfl .nil) (.cons rfl (.cons rfl (.cons rfl (.cons rfl .nil))))
          ·
            have hjf : ¬ y.j = fstK V i tm := fun e => hc59 ((first_iff hVs ha (show y.j < V.length by omega)).2 e)
            refine W.skip ?_
            refine N.next ?_
            refine W.draw (.q 0 (.q 1 (.q 2 (.q 3 (.q 4 (.q 5 (.q 6 (.one 7 (.one 8 .done))))))))) (.cons (k := 0) rfl (.cons (k := 103) rfl (.cons (k := 130) rfl .nil))) mix (by kernel_rfl) (by kernel_rfl) ?_
            refine DL.q rfl (Yld.move rfl) rfl ?_
            refine DL.q rfl (Yld.loadW (c := 103) Try.underlying24 rfl sz24 rfl rfl (by first | exact single_self _ _ | exact pset_self _ _ _ | assumption) rfl) rfl ?_
            refine DL.q rfl (Yld.move rfl) rfl ?_
            refine DL.q rfl (Yld.move rfl) rfl ?_
            refine DL.q rfl (Yld.move rfl) rfl ?_
            refine DL.q rfl (Yld.indexRow Try.underlying22 sz3 rfl rfl (by first | assumption | exact Own.sl (by assumption)) (by first | rfl | omega | (simp; done) | (simp; omega)) (by omega) (by first | omega | (simp; done) | (simp; omega))) rfl ?_
            refine DL.q rfl (by first | exact (by first | exact Yld.loadRow1 (cl := 1) Try.underlying3 rfl rfl rfl (by first | assumption | exact Own.sl (by assumption)) (by assumption) | exact Yld.loadRow1 (cl := 103) Try.underlying3 rfl rfl rfl (by first | assumption | exact Own.sl (by assumption)) (by assumption) | exact Yld.loadRow1 (cl := 130) Try.underlying3 rfl rfl rfl (by first | assumption | exact Own.sl (by assumption)) (by assumption) | exact Yld.loadRow1 (cl := 144) Try.underlying3 rfl rfl rfl (by first | assumption | exact Own.sl (by assumption)) (by assumption)) | exact (by first | exact Yld.loadRowF (cl := 1) (j := 0) Try.underlying3 rfl rfl rfl (by first | assumption | exact Own.sl (by assumption)) (by assumption) rfl | exact Yld.loadRowF (cl := 103) (j := 0) Try.underlying3 rfl rfl rfl (by first | assumption | exact Own.sl (by assumption)) (by assumption) rfl | exact Yld.loadRowF (cl := 130) (j := 0) Try.underlying3 rfl rfl rfl (by first | assumption | exact Own.sl (by assumption)) (by assumption) rfl | exact Yld.loadRowF (cl := 144) (j := 0) Try.underlying3 rfl rfl rfl (by first | assumption | exact Own.sl (by assumption)) (by assumption) rfl)) rfl ?_
            refine DL.one rfl (Eff.call ent12 [1] [1] (.cons rfl (.cons rfl (.cons rfl .nil))) (vtmo_ct x H1 hx (by omega) (by omega) tm z) rfl rfl rfl rfl (by rintro _ _ ⟨_, rfl⟩; rfl)) rfl (by rintro _ _ ⟨_, ⟨rfl, rfl⟩, rfl⟩; repeat (first | exact .nil | refine .cons rfl ?_)) ?_
            rintro _ _ ⟨_, ⟨rfl, rfl⟩, rfl⟩
            rw [hV]
            refine DL.one0 rfl (Eff.mapUpdate (c := 144) Try.underlying30 (keyInt Try.underlying3) rfl rfl rfl rfl (by assumption)) (by rintro _ _ ⟨es2, ck2, hM2, rfl⟩; repeat (first | exact .nil | refine .cons rfl ?_)) ?_
            rintro _ _ ⟨es2, ck2, hM2, rfl⟩
            refine DL.done ?_
            refine N.block_normal ?_
            refine N.next ?_
            refine W.keep (.cons (k := 1) rfl (.cons (k := 3) rfl (.cons (k := 7) rfl (.cons (k := 8) rfl (.cons (k := 9) rfl (.cons (k := 10) rfl (.cons (k := 40) rfl (.cons (k := 41) rfl (.cons (k := 46) rfl (.cons (k := 47) rfl .nil)))))))))) (.cons (k := 0) rfl (.cons (k := 1) rfl (.cons (k := 103) rfl (.cons (k := 130) rfl (.cons (k := 144) rfl .nil))))) ?_
            refine W.region ?_
            refine RL.q (Yld.bin rfl rfl (by first | exact BinV.add (by omega) (by omega) | exact BinV.addW)) rfl ?_
            refine RL.q (Yld.move rfl) rfl ?_
            refine RL.nil ?_
            exact N.famK ⟨y.j + 1, _, _, mset y.m (tmo V tm z) (.bool true)⟩ ⟨⟨by dsimp only; omega, by assumption, used_put hVs hz hml hmk⟩, by dsimp only; omega⟩ (.as rfl (by dsimp only; congr 1; split <;> split <;> omega) (.as rfl (by first | rfl | (simp; done) | (congr 1; simp; done) | (congr 1; omega)) .nil)) (.cons rfl (.cons rfl (.cons rfl (.cons rfl (.cons rfl (.cons rfl (.cons rfl (.cons rfl .nil)))))))) (.cons rfl .nil) (.cons rfl (.cons rfl (.cons rfl (.cons rfl .nil))))
        ·
          have hend : y.j = V.length := by omega
          have hfk := fstK_lt (show i < V.length by omega) tm
          refine W.exit ?_
          refine N.then_exit ?_
          refine N.then_exit ?_
          refine N.block_eq ?_
          refine N.next ?_
          refine W.seq ?_
          refine W.draw (.q 0 (.q 1 (.q 2 (.q 3 (.q 4 (.q 5 (.q 6 (.q 7 (.q 8 (.q 9 (.q 10 (.q 11 (.q 12 (.q 13 (.q 14 (.q 15 (.one 16 (.q 17 (.q 18 (.q 19 (.q 20 (.q 21 (.q 22 (.q 23 (.q 24 (.q 25 (.q 27 (.q 28 (.q 29 (.q 30 (.one 26 (.q 31 (.q 32 .done))))))))))))))))))))))))))))))))) (.cons (k := 0) rfl (.cons (k := 103) rfl (.cons (k := 130) rfl (.cons (k := 144) rfl .nil)))) mix (by kernel_rfl) (by kernel_rfl) ?_
          refine DL.q rfl (Yld.move rfl) rfl ?_
          refine DL.q rfl (Yld.bin rfl rfl BinV.neq) rfl ?_
          refine DL.q rfl (Yld.move rfl) rfl ?_
          refine' DL.or (t := 73) (d := 79) 6 rfl (.cons (k := 1) rfl (.cons (k := 3) rfl (.cons (k := 7) rfl (.cons (k := 8) rfl (.cons (k := 9) rfl (.cons (k := 10) rfl (.cons (k := 40) rfl (.cons (k := 41) rfl (.cons (k := 46) rfl (.cons (k := 47) rfl (.cons (k := 48) rfl (.cons (k := 71) rfl (.cons (k := 72) rfl .nil))))))))))))) (.cons (k := 0) rfl (.cons (k := 1) rfl (.cons (k := 103) rfl (.cons (k := 130) rfl (.cons (k := 144) rfl .nil))))) ?_ ?_ ?_
          rotate_left 1
          ·
            intro hg73
            refine DL.gq rfl rfl rfl (Yld.move rfl) rfl ?_
            refine DL.gq rfl rfl rfl (Yld.lenM (c := 144) Try.underlying30 rfl rfl (by assumption)) rfl ?_
            refine DL.gq rfl rfl rfl (Yld.move rfl) rfl ?_
            refine DL.gq rfl rfl rfl (Yld.lenSl Try.underlying22 rfl) rfl ?_
            refine DL.gq rfl rfl rfl (Yld.bin rfl rfl BinV.neq) rfl ?_
            refine DL.q rfl (by first | exact Yld.pickT rfl rfl | exact Yld.pickF rfl rfl) rfl ?_
            exact DL.meet (.cons rfl (.cons rfl (.cons rfl (.cons rfl (.cons rfl (.cons rfl (.cons rfl (.cons rfl (.cons rfl (.cons rfl (.cons rfl (.cons rfl (.cons rfl (.cons rfl .nil)))))))))))))) (.cons rfl (.cons rfl (.cons rfl (.cons rfl (.cons rfl .nil)))))
          ·
            intro hg73
            refine DL.gskip rfl rfl rfl rfl rfl ?_
            refine DL.gskip rfl rfl rfl rfl rfl ?_
            refine DL.gskip rfl rfl rfl rfl rfl ?_
            refine DL.gskip rfl rfl rfl rfl rfl ?_
            refine DL.gskip rfl rfl rfl rfl rfl ?_
            refine DL.q rfl (by first | exact Yld.pickT rfl rfl | exact Yld.pickF rfl rfl) rfl ?_
            exact DL.meet (.cons rfl (.cons rfl (.cons rfl (.cons rfl (.cons rfl (.cons rfl (.cons rfl (.cons rfl (.cons rfl (.cons rfl (.cons rfl (.cons rfl (.cons rfl (.cons rfl .nil)))))))))))))) (.cons rfl (.cons rfl (.cons rfl (.cons rfl (.cons rfl .nil)))))
          refine DL.q rfl (Yld.move rfl) rfl ?_
          refine' DL.or (t := 80) (d := 89) 9 rfl (.cons (k := 1) rfl (.cons (k := 3) rfl (.cons (k := 7) rfl (.cons (k := 8) rfl (.cons (k := 9) rfl (.cons (k := 10) rfl (.cons (k := 40) rfl (.cons (k := 41) rfl (.cons (k := 46) rfl (.cons (k := 47) rfl (.cons (k := 48) rfl (.cons (k := 71) rfl (.cons (k := 72) rfl (.cons (k := 79) rfl .nil)))))))))))))) (.cons (k := 0) rfl (.cons (k := 1) rfl (.cons (k := 103) rfl (.cons (k := 130) rfl (.cons (k := 144) rfl .nil))))) ?_ ?_ ?_
          rotate_left 1
          ·
            intro hg80
            refine DL.gq rfl rfl rfl (Yld.loadW (c := 103) Try.underlying24 rfl sz24 rfl rfl (by first | exact single_self _ _ | exact pset_self _ _ _ | assumption) rfl) rfl ?_
            refine DL.gq rfl rfl rfl (Yld.move rfl) rfl ?_
            refine DL.gq rfl rfl rfl (Yld.move rfl) rfl ?_
            refine DL.gq rfl rfl rfl (Yld.move rfl) rfl ?_
            refine DL.gq rfl rfl rfl (Yld.indexRow Try.underlying22 sz3 rfl rfl (by first | assumption | exact Own.sl (by assumption)) (by first | rfl | omega | (simp; done) | (simp; omega)) (by omega) (by first | omega | (simp; done) | (simp; omega))) rfl ?_
            refine DL.gq rfl rfl rfl (by first | exact (by first | exact Yld.loadRow1 (cl := 1) Try.underlying3 rfl rfl rfl (by first | assumption | exact Own.sl (by assumption)) (by assumption) | exact Yld.loadRow1 (cl := 103) Try.underlying3 rfl rfl rfl (by first | assumption | exact Own.sl (by assumption)) (by assumption) | exact Yld.loadRow1 (cl := 130) Try.underlying3 rfl rfl rfl (by first | assumption | exact Own.sl (by assumption)) (by assumption) | exact Yld.loadRow1 (cl := 144) Try.underlying3 rfl rfl rfl (by first | assumption | exact Own.sl (by assumption)) (by assumption)) | exact (by first | exact Yld.loadRowF (cl := 1) (j := 0) Try.underlying3 rfl rfl rfl (by first | assumption | exact Own.sl (by assumption)) (by assumption) rfl | exact Yld.loadRowF (cl := 103) (j := 0) Try.underlying3 rfl rfl rfl (by first | assumption | exact Own.sl (by assumption)) (by assumption) rfl | exact Yld.loadRowF (cl := 130) (j := 0) Try.underlying3 rfl rfl rfl (by first | assumption | exact Own.sl (by assumption)) (by assumption) rfl | exact Yld.loadRowF (cl := 144) (j := 0) Try.underlying3 rfl rfl rfl (by first | assumption | exact Own.sl (by assumption)) (by assumption) rfl)) rfl ?_
            refine DL.gone rfl rfl rfl (Eff.call ent12 [1] [1] (.cons rfl (.cons rfl (.cons rfl .nil))) (vtmo_ct x H1 hx (by omega) (by omega) tm a) rfl rfl rfl rfl (by rintro _ _ ⟨_, rfl⟩; rfl)) rfl (by rintro _ _ ⟨_, ⟨rfl, rfl⟩, rfl⟩; repeat (first | exact .nil | refine .cons rfl ?_)) ?_
            rintro _ _ ⟨_, ⟨rfl, rfl⟩, rfl⟩
            rw [hV]
            refine DL.gq rfl rfl rfl (Yld.bin rfl rfl BinV.lss) rfl ?_
            refine DL.q rfl (by first | exact Yld.pickT rfl rfl | exact Yld.pickF rfl rfl) rfl ?_
            exact DL.meet (.cons rfl (.cons rfl (.cons rfl (.cons rfl (.cons rfl (.cons rfl (.cons rfl (.cons rfl (.cons rfl (.cons rfl (.cons rfl (.cons rfl (.cons rfl (.cons rfl (.cons rfl .nil))))))))))))))) (.cons rfl (.cons rfl (.cons rfl (.cons rfl (.cons rfl .nil)))))
          ·
            intro hg80
            refine DL.gskip rfl rfl rfl rfl rfl ?_
            refine DL.gskip rfl rfl rfl rfl rfl ?_
            refine DL.gskip rfl rfl rfl rfl rfl ?_
            refine DL.gskip rfl rfl rfl rfl rfl ?_
            refine DL.gskip rfl rfl rfl rfl rfl ?_
            refine DL.gskip rfl rfl rfl rfl rfl ?_
            refine DL.gskip1 rfl rfl rfl rfl rfl ?_
            refine DL.gskip rfl rfl rfl rfl rfl ?_
            refine DL.q rfl (by first | exact Yld.pickT rfl rfl | exact Yld.pickF rfl rfl) rfl ?_
            exact DL.meet (.cons rfl (.cons rfl (.cons rfl (.cons rfl (.cons rfl (.cons rfl (.cons rfl (.cons rfl (.cons rfl (.cons rfl (.cons rfl (.cons rfl (.cons rfl (.cons rfl (.cons rfl .nil))))))))))))))) (.cons rfl (.cons rfl (.cons rfl (.cons rfl (.cons rfl .nil)))))
          refine DL.q rfl (Yld.move rfl) rfl ?_
          refine' DL.or (t := 90) (d := 103) 13 rfl (.cons (k := 1) rfl (.cons (k := 3) rfl (.cons (k := 7) rfl (.cons (k := 8) rfl (.cons (k := 9) rfl (.cons (k := 10) rfl (.cons (k := 40) rfl (.cons (k := 41) rfl (.cons (k := 46) rfl (.cons (k := 47) rfl (.cons (k := 48) rfl (.cons (k := 71) rfl (.cons (k := 72) rfl (.cons (k := 79) rfl (.cons (k := 89) rfl .nil))))))))))))))) (.cons (k := 0) rfl (.cons (k := 1) rfl (.cons (k := 103) rfl (.cons (k := 130) rfl (.cons (k := 144) rfl .nil))))) ?_ ?_ ?_
          rotate_left 1
          ·
            intro hg90
            refine DL.gq rfl rfl rfl (Yld.loadW (c := 103) Try.underlying24 rfl sz24 rfl rfl (by first | exact single_self _ _ | exact pset_self _ _ _ | assumption) rfl) rfl ?_
            refine DL.gq rfl rfl rfl (Yld.move rfl) rfl ?_
            refine DL.gq rfl rfl rfl (Yld.move rfl) rfl ?_
            refine DL.gq rfl rfl rfl (Yld.move rfl) rfl ?_
            refine DL.gq rfl rfl rfl (Yld.indexRow Try.underlying22 sz3 rfl rfl (by first | assumption | exact Own.sl (by assumption)) (by first | rfl | omega | (simp; done) | (simp; omega)) (by omega) (by first | omega | (simp; done) | (simp; omega))) rfl ?_
            refine DL.gq rfl rfl rfl (by first | exact (by first | exact Yld.loadRow1 (cl := 1) Try.underlying3 rfl rfl rfl (by first | assumption | exact Own.sl (by assumption)) (by assumption) | exact Yld.loadRow1 (cl := 103) Try.underlying3 rfl rfl rfl (by first | assumption | exact Own.sl (by assumption)) (by assumption) | exact Yld.loadRow1 (cl := 130) Try.underlying3 rfl rfl rfl (by first | assumption | exact Own.sl (by assumption)) (by assumption) | exact Yld.loadRow1 (cl := 144) Try.underlying3 rfl rfl rfl (by first | assumption | exact Own.sl (by assumption)) (by assumption)) | exact (by first | exact Yld.loadRowF (cl := 1) (j := 0) Try.underlying3 rfl rfl rfl (by first | assumption | exact Own.sl (by assumption)) (by assumption) rfl | exact Yld.loadRowF (cl := 103) (j := 0) Try.underlying3 rfl rfl rfl (by first | assumption | exact Own.sl (by assumption)) (by assumption) rfl | exact Yld.loadRowF (cl := 130) (j := 0) Try.underlying3 rfl rfl rfl (by first | assumption | exact Own.sl (by assumption)) (by assumption) rfl | exact Yld.loadRowF (cl := 144) (j := 0) Try.underlying3 rfl rfl rfl (by first | assumption | exact Own.sl (by assumption)) (by assumption) rfl)) rfl ?_
            refine DL.gq rfl rfl rfl (Yld.move rfl) rfl ?_
            refine DL.gq rfl rfl rfl (Yld.lenSl Try.underlying22 rfl) rfl ?_
            refine DL.gq rfl rfl rfl (Yld.bin rfl rfl (by first | exact BinV.mul (by omega) (by omega) | exact BinV.mulW)) rfl ?_
            refine DL.gq rfl rfl rfl (Yld.bin rfl rfl (by first | exact BinV.add (by omega) (by omega) | exact BinV.addW)) rfl ?_
            refine DL.gone rfl rfl rfl (Eff.call ent12 [1] [1] (.cons rfl (.cons rfl (.cons rfl .nil))) (vtmo_ct x H1 hx (by omega) (by omega) tm a) rfl rfl rfl rfl (by rintro _ _ ⟨_, rfl⟩; rfl)) rfl (by rintro _ _ ⟨_, ⟨rfl, rfl⟩, rfl⟩; repeat (first | exact .nil | refine .cons rfl ?_)) ?_
            rintro _ _ ⟨_, ⟨rfl, rfl⟩, rfl⟩
            rw [hV]
            refine DL.gq rfl rfl rfl (Yld.bin rfl rfl BinV.gtr) rfl ?_
            refine DL.q rfl (by first | exact Yld.pickT rfl rfl | exact Yld.pickF rfl rfl) rfl ?_
            exact DL.meet (.cons rfl (.cons rfl (.cons rfl (.cons rfl (.cons rfl (.cons rfl (.cons rfl (.cons rfl (.cons rfl (.cons rfl (.cons rfl (.cons rfl (.cons rfl (.cons rfl (.cons rfl (.cons rfl .nil)))))))))))))))) (.cons rfl (.cons rfl (.cons rfl (.cons rfl (.cons rfl .nil)))))
          ·
            intro hg90
            refine DL.gskip rfl rfl rfl rfl rfl ?_
            refine DL.gskip rfl rfl rfl rfl rfl ?_
            refine DL.gskip rfl rfl rfl rfl rfl ?_
            refine DL.gskip rfl rfl rfl rfl rfl ?_
            refine DL.gskip rfl rfl rfl rfl rfl ?_
            refine DL.gskip rfl rfl rfl rfl rfl ?_
            refine DL.gskip rfl rfl rfl rfl rfl ?_
            refine DL.gskip rfl rfl rfl rfl rfl ?_
            refine DL.gskip rfl rfl rfl rfl rfl ?_
            refine DL.gskip rfl rfl rfl rfl rfl ?_
            refine DL.gskip1 rfl rfl rfl rfl rfl ?_
            refine DL.gskip rfl rfl rfl rfl rfl ?_
            refine DL.q rfl (by first | exact Yld.pickT rfl rfl | exact Yld.pickF rfl rfl) rfl ?_
            exact DL.meet (.cons rfl (.cons rfl (.cons rfl (.cons rfl (.cons rfl (.cons rfl (.cons rfl (.cons rfl (.cons rfl (.cons rfl (.cons rfl (.cons rfl (.cons rfl (.cons rfl (.cons rfl (.cons rfl .nil)))))))))))))))) (.cons rfl (.cons rfl (.cons rfl (.cons rfl (.cons rfl .nil)))))
          refine DL.done ?_
          refine N.next ?_
          refine W.keep (.cons (k := 1) rfl (.cons (k := 3) rfl (.cons (k := 7) rfl (.cons (k := 40) rfl (.cons (k := 41) rfl (.cons (k := 103) rfl .nil)))))) (.cons (k := 0) rfl (.cons (k := 1) rfl (.cons (k := 103) rfl (.cons (k := 130) rfl (.cons (k := 144) rfl .nil))))) ?_
          refine W.cond rfl (fun hc103 => ?_) (fun hc103 => ?_)
          ·
            exfalso
            have hrg := tmo_rng hVs ha tm
            rw [hend, if_pos hfk] at hc103
            simp only [Bool.or_eq_true, decide_eq_true_eq] at hc103
            omega --stop
          ·
            refine W.skip ?_
            refine N.block_normal ?_
            refine N.next ?_
            refine W.region ?_
            refine RL.q (Yld.bin rfl rfl (by first | exact BinV.add (by omega) (by omega) | exact BinV.addW)) rfl ?_
            refine RL.q (Yld.move rfl) rfl ?_
            refine RL.nil ?_
            exact N.famK (i + 1) ⟨by omega, by omega⟩ (.as rfl (by first | rfl | (simp; done) | (congr 1; simp; done) | (congr 1; omega)) .nil) (.cons rfl (.cons rfl (.cons rfl (.cons rfl .nil)))) .nil (.cons rfl (.cons rfl (.cons rfl (.cons rfl .nil))))
      ·
        refine W.exit ?_
        refine N.then_exit ?_
        refine N.then_exit ?_
        refine N.block_eq ?_
        refine N.next ?_
        refine W.keep .nil (.cons (k := 0) rfl (.cons (k := 1) rfl (.cons (k := 103) rfl (.cons (k := 130) rfl .nil)))) ?_
        refine W.seq ?_
        refine W.region ?_
        refine RL.q (Yld.assign rfl) rfl ?_
        refine RL.nil ?_
        refine N.next ?_
        refine W.ret ?_
        exact N.retBy [1] (.cons (.tmp rfl) .nil) rfl rfl rfl rfl ⟨rfl, rfl⟩

structure Vote.OI where
  i : Nat
  bp : Nat
  o : Option Nat
  G : PH
  v : Vt
  es : Array MapEntry
  ck : Nat
  m : List (Int × Value)
  g : Int → Int
structure Vote.OIok (k : Nat) (n : Int) (y : OI) : Prop where
  vm : VM y.o y.v.vs y.G
  ok : VOK k y.v
  me : y.v.me = n
  mp : MapP (fun a : Int => Value.int .i64 a) y.es y.ck y.m
  gm : ∀ z, (mget y.m z).getD (.int .i64 0) = .int .i64 (y.g z)
  at_ : y.g y.v.tm = y.v.vd
  up : ∀ t, y.v.tm < t → y.g t = 0
theorem Vote.gset {m : List (Int × Value)} {g : Int → Int} (h : ∀ z, (mget m z).getD (.int .i64 0) = .int .i64 (g z)) (k a : Int) : ∀ z, (mget (mset m k (.int .i64 a)) z).getD (.int .i64 0) = .int .i64 (if k = z then a else g z) := fun z => by
  rw [mget_mset]
  by_cases e : k = z
  · rw [if_pos e, if_pos e]; rfl
  · rw [if_neg e, if_neg e]; exact h z
theorem Vote.OIok.obs {k : Nat} {n : Int} {y : OI} (h : OIok k n y) {a : Int} (ha : a ≤ 1099511627776) : OIok (k + 1) n { y with o := if a ≤ y.v.tm then y.o else none, v := obs y.v a } := by
  refine ⟨h.vm.obs a, (h.ok.obs (by omega)).up, ?_, h.mp, h.gm, ?_, ?_⟩ <;> unfold Vote.obs <;> dsimp only <;> split
  · exact h.me
  · exact h.me
  · exact h.at_
  · exact h.up a (by omega)
  · exact h.up
  · intro t ht; dsimp only at ht; exact h.up t (by omega)
theorem Vote.obs_tm (v : Vt) (a : Int) : v.tm ≤ (Vote.obs v a).tm := by
  unfold Vote.obs; split
  · exact Int.le_refl _
  · show v.tm ≤ a; omega
theorem Vote.gr_tm (v : Vt) (c t : Int) (n : Bool) : (gr v c t n).tm = v.tm ∧ (gr v c t n).me = v.me := by unfold gr; split <;> exact ⟨rfl, rfl⟩
theorem Vote.cnt_tm (v : Vt) (c t : Int) (n : Bool) : (cnt v c t n).tm = v.tm ∧ (cnt v c t n).me = v.me ∧ (cnt v c t n).vd = v.vd := by unfold cnt; split <;> exact ⟨rfl, rfl, rfl⟩
theorem Vote.gno_t {v : Vt} {c t : Int} {n : Bool} (h : gno v c t n = false) : t = v.tm ∧ 1 ≤ c ∧ (v.vd = 0 ∨ v.vd = c) ∧ gr v c t n = ⟨v.me, v.tm, c, v.vs⟩ := by
  have e : gr v c t n = ⟨v.me, v.tm, c, v.vs⟩ := by rw [gno_ok, if_neg (by rw [h]; decide)]
  unfold gno at h
  simp only [Bool.or_eq_false_iff, Bool.and_eq_false_iff, decide_eq_false_iff_not] at h
  exact ⟨by omega, by omega, by omega, e⟩
theorem Vote.OIok.gr {k : Nat} {n : Int} {y : OI} (h : OIok k n y) {a b : Int} {w : Bool} (hg : gno y.v a b w = false) {es' : Array MapEntry} {ck' : Nat} (hm : MapP (fun a : Int => Value.int .i64 a) es' ck' (mset y.m b (.int .i64 a))) :
    OIok (k + 1) n ⟨y.i, y.bp, y.o, y.G, gr y.v a b w, es', ck', mset y.m b (.int .i64 a), fun z => if b = z then a else y.g z⟩ := by
  obtain ⟨h1, h2, h3, h4⟩ := gno_t hg
  refine ⟨by dsimp only; rw [gr_vs]; exact h.vm, h.ok.gr.up, by dsimp only; rw [(gr_tm _ _ _ _).2]; exact h.me, hm, gset h.gm b a, by dsimp only; rw [h4]; simp [h1], fun t ht => ?_⟩
  dsimp only at ht ⊢
  rw [(gr_tm _ _ _ _).1] at ht
  rw [if_neg (by omega)]; exact h.up t ht
theorem Vote.OIok.cmp {k : Nat} {n : Int} {y : OI} (h : OIok k n y) {bm : Nat} {es ck} {m : List (Int × Value)} (hMV : MV es ck m [y.v.me]) {es' : Array MapEntry} {ck' : Nat} (hm : MapP (fun a : Int => Value.int .i64 a) es' ck' (mset y.m (y.v.tm + 1) (.int .i64 n))) :
    OIok (k + 1) n ⟨y.i, y.bp, some bm, single bm (.map es ck), camp y.v, es', ck', mset y.m (y.v.tm + 1) (.int .i64 n), fun z => if y.v.tm + 1 = z then n else y.g z⟩ := by
  refine ⟨⟨es, ck, m, rfl, hMV⟩, h.ok.camp, h.me, hm, gset h.gm _ n, ?_, fun t ht => ?_⟩
  · show (if y.v.tm + 1 = y.v.tm + 1 then n else _) = y.v.me
    rw [if_pos rfl]; exact h.me.symm
  · have ht : y.v.tm + 1 < t := ht
    show (if y.v.tm + 1 = t then n else y.g t) = 0
    rw [if_neg (by omega)]; exact h.up t (by omega)
theorem Vote.OIok.cnt {k : Nat} {n : Int} {y : OI} (h : OIok k n y) {a b : Int} {w : Bool} {G' : PH} (hG : VM y.o (cnt y.v a b w).vs G') : OIok (k + 1) n { y with G := G', v := cnt y.v a b w } := by
  obtain ⟨h1, h2, h3⟩ := cnt_tm y.v a b w
  exact ⟨hG, h.ok.cnt, by dsimp only; rw [h2]; exact h.me, h.mp, h.gm, by dsimp only; rw [h1, h3]; exact h.at_, by dsimp only; rw [h1]; exact h.up⟩
theorem Vote.OIok.new {k : Nat} {n : Int} {y : OI} (h : OIok k n y) (bp : Nat) : OIok (k + 1) n { y with bp := bp, o := none, v := nw n y.v.tm y.v.vd } := by
  have h1 := h.ok.t0; have h2 := h.ok.d0; have h3 := h.ok.t1; have h4 := h.ok.me
  have e1 : max y.v.tm 0 = y.v.tm := by omega
  have e2 : max y.v.vd 0 = y.v.vd := by omega
  refine ⟨trivial, (VOK.nw (by rw [← h.me]; exact h4) (by omega)).up, rfl, h.mp, h.gm, ?_, ?_⟩
  · show y.g (max y.v.tm 0) = max y.v.vd 0
    rw [e1, e2]; exact h.at_
  · show ∀ t, max y.v.tm 0 < t → y.g t = 0
    rw [e1]; exact h.up
theorem Vote.OIok.idle {k : Nat} {n : Int} {y : OI} (h : OIok k n y) : OIok (k + 1) n y := ⟨h.vm, h.ok.up, h.me, h.mp, h.gm, h.at_, h.up⟩

set_option maxRecDepth 100000 in
set_option maxHeartbeats 3200000 in
theorem one_ct (ops : List OpV) (H1 : PH) (p : Option Addr) (c : Nat) (hS : Sl H1 p c 5 (ops.map OpV.cells)) (me : Int) (hme : 0 ≤ me ∧ me ≤ 65535) : Ct Try.prog 4 [.int .u16 me, .slice p ops.length c] [H1] (fun r Hs => r = .bool true ∧ Hs = [H1]) := by
  refine Ct.body Try.func4 rfl Try.ntmps4 rfl ?_
  intro E F
  have hmx := hS.len_le
  simp only [List.length_map, maxLen] at hmx
  refine W.seq ?_
  refine W.region ?_
  refine RL.q (Yld.assign rfl) rfl ?_
  refine RL.nil ?_
  refine N.next ?_
  refine W.seq ?_
  refine W.seq ?_
  refine W.region ?_
  refine RL.e (Eff.call ent9 [] [] .nil awake_ct rfl rfl rfl rfl (by rintro _ _ ⟨_, rfl⟩; rfl)) rfl ?_
  rintro _ _ ⟨_, ⟨rfl, rfl⟩, rfl⟩
  refine RL.q (by first | exact Yld.notD rfl | exact Yld.not rfl) rfl ?_
  refine RL.nil ?_
  refine N.next ?_
  first | (refine W.as (t := 13) rfl (boolF (by first | assumption | omega | (simp; done))) ?_; refine W.condF rfl ?_) | refine W.condF rfl ?_
  refine W.skip ?_
  refine N.next ?_
  refine W.seq ?_
  refine W.seq ?_
  refine W.region ?_
  refine RL.q (Yld.move rfl) rfl ?_
  refine RL.e (Eff.call ent15 [1] [1] (.cons rfl (.cons rfl .nil)) (few_ct ops _ _ _ hS 30) rfl rfl rfl rfl (by rintro _ _ ⟨_, rfl⟩; rfl)) rfl ?_
  rintro _ _ ⟨_, ⟨rfl, rfl⟩, rfl⟩
  refine RL.q (by first | exact Yld.notD rfl | exact Yld.not rfl) rfl ?_
  refine RL.nil ?_
  refine N.next ?_
  refine W.keep (.cons (k := 0) rfl (.cons (k := 1) rfl (.cons (k := 16) rfl .nil))) (.cons (k := 0) rfl (.cons (k := 1) rfl .nil)) ?_
  refine W.cond rfl (fun hc16 => ?_) (fun hc16 => ?_)
  ·
    refine W.seq ?_
    refine W.region ?_
    refine RL.q (Yld.assign rfl) rfl ?_
    refine RL.nil ?_
    refine N.next ?_
    refine W.ret ?_
    refine N.then_ret ?_
    exact N.retBy [1] (.cons (.tmp rfl) .nil) rfl rfl rfl rfl ⟨rfl, rfl⟩
  ·
    simp only [decide_eq_false_iff_not, Classical.not_not, Bool.not_eq_false', decide_eq_true_eq] at hc16
    have hok := hc16.1
    refine W.skip ?_
    refine N.next ?_
    refine W.seq ?_
    refine W.region ?_
    refine RL.q (Yld.move rfl) rfl ?_
    refine RL.q (Yld.bin rfl rfl (by first | exact BinV.rem (by omega) (by omega) | exact BinV.remW (by omega))) rfl ?_
    refine RL.q (Yld.convIs Try.underlying32 Try.underlying3 rfl (by first | exact IntWalk.i64_in _ ⟨by omega, by omega⟩ | rfl)) rfl ?_
    refine RL.q (Yld.bin rfl rfl (by first | exact BinV.add (by omega) (by omega) | exact BinV.addW)) rfl ?_
    refine RL.q (Yld.assign rfl) rfl ?_
    refine RL.nil ?_
    refine N.next ?_
    refine W.keep (.cons (k := 1) rfl (.cons (k := 5) rfl .nil)) (.cons (k := 0) rfl (.cons (k := 1) rfl .nil)) ?_
    refine W.seq ?_
    refine W.region ?_
    refine RL.q (Yld.move rfl) rfl ?_
    refine RL.e (Eff.call ent16 [] [170] (.cons rfl (.cons rfl (.cons rfl .nil))) (vnew_ct (1 + me % 400) 0 0) rfl rfl rfl rfl (by rintro _ _ ⟨_, _, rfl⟩; rfl)) rfl ?_
    rintro _ _ ⟨_, ⟨bp, rfl, rfl⟩, rfl⟩
    refine RL.q (Yld.assign rfl) rfl ?_
    refine RL.nil ?_
    refine N.next ?_
    refine W.seq ?_
    refine W.region ?_
    refine RL.e (Eff.makeMap 123) rfl ?_
    rintro _ _ ⟨b23, rfl, rfl⟩
    refine RL.q (Yld.assign rfl) rfl ?_
    refine RL.nil ?_
    refine N.next ?_
    refine W.seq ?_
    refine W.seq ?_
    refine W.imp (Imp.empty _ 171) ?_
    refine W.region ?_
    refine RL.q (Yld.move rfl) rfl ?_
    refine RL.q (Yld.lenSl Try.underlying33 rfl) rfl ?_
    refine RL.q (Yld.move rfl) rfl ?_
    refine RL.nil ?_
    refine N.next ?_
    refine W.keep (.cons (k := 5) rfl (.cons (k := 6) rfl (.cons (k := 7) rfl (.cons (k := 24) rfl (.cons (k := 25) rfl (.cons (k := 26) rfl .nil)))))) (.cons (k := 0) rfl (.cons (k := 1) rfl (.cons (k := 123) rfl (.cons (k := 170) rfl (.cons (k := 171) rfl .nil))))) ?_
    refine W.block ?_
    refine W.loopK (ι := OI) (fun y => (y.i ≤ ops.length ∧ OIok y.i (1 + me % 400) y)) (fun y => [(6, .pointer (some ⟨y.bp, 0, none⟩)), (26, .int .i64 (y.i : Nat))]) (fun y => [(123, single b23 (.map y.es y.ck)), (170, single y.bp (.cells [.int .i64 (y.v).me, .int .i64 (y.v).tm, .int .i64 (y.v).vd, .map y.o].toArray 64 (0, 0))), (171, y.G)]) (fun y => ops.length - y.i) (.cons (k := 5) rfl (.cons (k := 7) rfl (.cons (k := 24) rfl (.cons (k := 25) rfl .nil)))) (.cons (k := 0) rfl (.cons (k := 1) rfl .nil)) ⟨0, bp, none, emp, nw (1 + me % 400) 0 0, #[], 0, [], fun _ => 0⟩ ?_ ?_ ?_ ?_
    · exact ⟨Nat.zero_le _, ⟨trivial, VOK.nw (by omega) (by omega), rfl, MapP.empty _, fun z => rfl, rfl, fun t h => rfl⟩⟩
    · exact (.as rfl (by first | rfl | (simp; done) | (congr 1; simp; done) | (congr 1; omega)) (.as rfl (by first | rfl | (simp; done) | (congr 1; simp; done) | (congr 1; omega)) .nil))
    · exact (.cons rfl (.cons rfl (.cons rfl .nil)))
    rintro y ⟨hi, hy⟩
    refine W.keep (.cons (k := 6) rfl (.cons (k := 26) rfl (.cons (k := 5) rfl (.cons (k := 7) rfl (.cons (k := 24) rfl (.cons (k := 25) rfl .nil)))))) (.cons (k := 123) rfl (.cons (k := 170) rfl (.cons (k := 171) rfl (.cons (k := 0) rfl (.cons (k := 1) rfl .nil))))) ?_
    refine W.seq ?_
    refine W.region ?_
    refine RL.q (Yld.bin rfl rfl BinV.lss) rfl ?_
    refine RL.nil ?_
    refine N.next ?_
    refine W.seq ?_
    first | refine W.condD rfl (fun hc27 => ?_) (fun hc27 => ?_) | (refine W.cond rfl (fun hc27 => ?_) (fun hc27 => ?_) <;> try simp only [Bool.or_eq_true, Bool.and_eq_true, Bool.not_eq_true', Bool.not_eq_false', decide_eq_true_eq, Bool.or_eq_false_iff, Bool.and_eq_false_iff, decide_eq_false_iff_not, beq_iff_eq, beq_eq_false_iff_ne, ne_eq, Decidable.not_not] at hc27)
    ·
      obtain ⟨o, ho⟩ : ∃ o, ops[y.i]? = some o := ⟨_, List.getElem?_eq_getElem (show y.i < ops.length by omega)⟩
      have hlo : (ops.map OpV.cells)[y.i]? = some [.int .i64 o.kd, .int .i64 o.a, .int .i64 o.b, .bool o.y, .bool o.n] := by simp [ho, OpV.cells]
      have hoo := hok o (List.mem_of_getElem? ho)
      have hMy := hy.mp
      have hty := hy.ok.t0
      have hty1 := hy.ok.t1
      refine W.skip ?_
      refine N.next ?_
      refine W.seq ?_
      refine W.block ?_
      refine W.seq ?_
      refine W.region ?_
      refine RL.q (Yld.indexRow Try.underlying33 sz39 rfl rfl (by first | assumption | exact Own.sl (by assumption)) (by first | rfl | omega | (simp; done) | (simp; omega)) (by omega) (by first | omega | (simp; done) | (simp; omega))) rfl ?_
      refine RL.q (by first | exact Yld.loadRow (cl := 1) Try.underlying39 rfl sz39 rfl rfl (by first | assumption | exact Own.sl (by assumption)) (by assumption) | exact Yld.loadRow (cl := 123) Try.underlying39 rfl sz39 rfl rfl (by first | assumption | exact Own.sl (by assumption)) (by assumption) | exact Yld.loadRow (cl := 170) Try.underlying39 rfl sz39 rfl rfl (by first | assumption | exact Own.sl (by assumption)) (by assumption) | exact Yld.loadRow (cl := 171) Try.underlying39 rfl sz39 rfl rfl (by first | assumption | exact Own.sl (by assumption)) (by assumption)) rfl ?_
      refine RL.e (Eff.alloc 109 zc39) rfl ?_
      rintro _ _ ⟨b9, rfl, rfl⟩
      refine RL.e0 (Eff.storeS (c := 109) _ sz39 rfl rfl rfl rfl rfl rfl rfl (by (try simp only [putAt, List.take, List.drop, List.nil_append, List.cons_append, List.append_nil, List.length_cons, List.length_nil, Nat.add_zero, Nat.zero_add, Nat.reduceAdd]); rfl)) ?_
      rintro _ _ rfl
      refine RL.nil ?_
      refine N.next ?_
      refine W.seq ?_
      refine W.region ?_
      refine RL.q (Yld.move rfl) rfl ?_
      refine RL.e (Eff.call ent17 [170] [170] (.cons rfl .nil) (vterm_ct y.bp y.v y.o) rfl rfl rfl rfl (by rintro _ _ ⟨_, rfl⟩; rfl)) rfl ?_
      rintro _ _ ⟨_, ⟨rfl, rfl⟩, rfl⟩
      refine RL.q (Yld.assign rfl) rfl ?_
      refine RL.nil ?_
      refine N.next ?_
      refine W.keep (.cons (k := 5) rfl (.cons (k := 6) rfl (.cons (k := 7) rfl (.cons (k := 9) rfl (.cons (k := 10) rfl (.cons (k := 24) rfl (.cons (k := 25) rfl (.cons (k := 26) rfl .nil)))))))) (.cons (k := 0) rfl (.cons (k := 1) rfl (.cons (k := 109) rfl (.cons (k := 123) rfl (.cons (k := 170) rfl (.cons (k := 171) rfl .nil)))))) ?_
      refine W.cutK (ι := Unit) (fun x => True) (fun x => []) (fun x => [(109, single b9 (.cells [.int .i64 o.kd, .int .i64 o.a, .int .i64 (bOf y.v o), .bool o.y, .bool o.n].toArray 39 (0, 0)))]) (.cons (k := 5) rfl (.cons (k := 6) rfl (.cons (k := 7) rfl (.cons (k := 9) rfl (.cons (k := 10) rfl (.cons (k := 24) rfl (.cons (k := 25) rfl (.cons (k := 26) rfl .nil)))))))) (.cons (k := 0) rfl (.cons (k := 1) rfl (.cons (k := 123) rfl (.cons (k := 170) rfl (.cons (k := 171) rfl .nil))))) ?_ ?_
      ·
        refine W.seq ?_
        refine W.region ?_
        refine RL.q (Yld.fieldAddr fo39_4 rfl) rfl ?_
        refine RL.q (Yld.load1 (c := 109) Try.underlying4 rfl rfl rfl (by first | exact single_self _ _ | exact pset_self _ _ _ | assumption) rfl) rfl ?_
        refine RL.nil ?_
        refine N.next ?_
        refine W.cond rfl (fun hc33 => ?_) (fun hc33 => ?_)
        ·
          have hbo : bOf y.v o = y.v.tm := by unfold bOf; rw [if_pos hc33]
          refine W.region ?_
          refine RL.q (Yld.move rfl) rfl ?_
          refine RL.q (Yld.fieldAddr fo39_2 rfl) rfl ?_
          refine RL.e0 (Eff.storeS (c := 109) _ sz3 rfl rfl rfl rfl rfl rfl rfl (by (try simp only [putAt, List.take, List.drop, List.nil_append, List.cons_append, List.append_nil, List.length_cons, List.length_nil, Nat.add_zero, Nat.zero_add, Nat.reduceAdd]); rfl)) ?_
          rintro _ _ rfl
          refine RL.nil ?_
          exact N.famK () trivial .nil (.cons rfl (.cons rfl (.cons rfl (.cons rfl (.cons rfl (.cons rfl (.cons rfl (.cons rfl .nil)))))))) (.as rfl (by rw [hbo]) .nil) (.cons rfl (.cons rfl (.cons rfl (.cons rfl (.cons rfl .nil)))))
        ·
          have hbo : bOf y.v o = o.b := by unfold bOf; rw [if_neg (by rw [hc33]; decide)]
          refine W.skip ?_
          exact N.famK () trivial .nil (.cons rfl (.cons rfl (.cons rfl (.cons rfl (.cons rfl (.cons rfl (.cons rfl (.cons rfl .nil)))))))) (.as rfl (by rw [hbo]) .nil) (.cons rfl (.cons rfl (.cons rfl (.cons rfl (.cons rfl .nil)))))
      rintro _ _
      refine W.keep (.cons (k := 5) rfl (.cons (k := 6) rfl (.cons (k := 7) rfl (.cons (k := 9) rfl (.cons (k := 10) rfl (.cons (k := 24) rfl (.cons (k := 25) rfl (.cons (k := 26) rfl .nil)))))))) (.cons (k := 109) rfl (.cons (k := 0) rfl (.cons (k := 1) rfl (.cons (k := 123) rfl (.cons (k := 170) rfl (.cons (k := 171) rfl .nil)))))) ?_
      refine W.cutK (ι := OI) (fun w => (OIok (y.i + 1) (1 + me % 400) w ∧ y.v.tm ≤ w.v.tm)) (fun w => [(6, .pointer (some ⟨w.bp, 0, none⟩))]) (fun w => [(123, single b23 (.map w.es w.ck)), (170, single w.bp (.cells [.int .i64 (w.v).me, .int .i64 (w.v).tm, .int .i64 (w.v).vd, .map w.o].toArray 64 (0, 0))), (171, w.G)]) (.cons (k := 5) rfl (.cons (k := 7) rfl (.cons (k := 10) rfl (.cons (k := 24) rfl (.cons (k := 25) rfl (.cons (k := 26) rfl .nil)))))) (.cons (k := 0) rfl (.cons (k := 1) rfl (.cons (k := 109) rfl .nil))) ?_ ?_
      ·
        refine W.seq ?_
        refine W.region ?_
        refine RL.q (Yld.fieldAddr fo39_0 rfl) rfl ?_
        refine RL.q (Yld.load1 (c := 109) Try.underlying3 rfl rfl rfl (by first | exact single_self _ _ | exact pset_self _ _ _ | assumption) rfl) rfl ?_
        refine RL.nil ?_
        refine N.next ?_
        refine W.block ?_
        refine W.seq ?_
        refine W.region ?_
        refine RL.q (Yld.bin rfl rfl BinV.eql) rfl ?_
        refine RL.q (Yld.assign rfl) rfl ?_
        refine RL.nil ?_
        refine N.next ?_
        first | refine W.condD rfl (fun hc38 => ?_) (fun hc38 => ?_) | (refine W.cond rfl (fun hc38 => ?_) (fun hc38 => ?_) <;> try simp only [Bool.or_eq_true, Bool.and_eq_true, Bool.not_eq_true', Bool.not_eq_false', decide_eq_true_eq, Bool.or_eq_false_iff, Bool.and_eq_false_iff, decide_eq_false_iff_not, beq_iff_eq, beq_eq_false_iff_ne, ne_eq, Decidable.not_not] at hc38)
        ·
          refine W.region ?_
          refine RL.q (Yld.move rfl) rfl ?_
          refine RL.q (Yld.fieldAddr fo39_1 rfl) rfl ?_
          refine RL.q (Yld.load1 (c := 109) Try.underlying3 rfl rfl rfl (by first | exact single_self _ _ | exact pset_self _ _ _ | assumption) rfl) rfl ?_
          refine RL.e (Eff.call ent18 [170] [170] (.cons rfl (.cons rfl .nil)) (vobs_ct y.bp y.v y.o o.a) rfl rfl rfl rfl (by rintro _ _ ⟨_, rfl⟩; rfl)) rfl ?_
          rintro _ _ ⟨_, ⟨rfl, rfl⟩, rfl⟩
          refine RL.nil ?_
          refine N.block_normal ?_
          exact N.famK { y with o := if o.a ≤ y.v.tm then y.o else none, v := obs y.v o.a } ⟨hy.obs hoo.1, obs_tm _ _⟩ (.as rfl (by first | rfl | (simp; done) | (congr 1; simp; done) | (congr 1; omega)) .nil) (.cons rfl (.cons rfl (.cons rfl (.cons rfl (.cons rfl (.cons rfl .nil)))))) (.cons rfl (.cons rfl (.cons rfl .nil))) (.cons rfl (.cons rfl (.cons rfl .nil)))
        ·
          refine W.seq ?_
          refine W.region ?_
          refine RL.q (Yld.bin rfl rfl BinV.eql) rfl ?_
          refine RL.q (Yld.assign rfl) rfl ?_
          refine RL.nil ?_
          refine N.next ?_
          refine W.keep (.cons (k := 5) rfl (.cons (k := 6) rfl (.cons (k := 7) rfl (.cons (k := 9) rfl (.cons (k := 10) rfl (.cons (k := 24) rfl (.cons (k := 25) rfl (.cons (k := 26) rfl (.cons (k := 37) rfl (.cons (k := 44) rfl .nil)))))))))) (.cons (k := 0) rfl (.cons (k := 1) rfl (.cons (k := 109) rfl (.cons (k := 123) rfl (.cons (k := 170) rfl (.cons (k := 171) rfl .nil)))))) ?_
          first | refine W.condD rfl (fun hc44 => ?_) (fun hc44 => ?_) | (refine W.cond rfl (fun hc44 => ?_) (fun hc44 => ?_) <;> try simp only [Bool.or_eq_true, Bool.and_eq_true, Bool.not_eq_true', Bool.not_eq_false', decide_eq_true_eq, Bool.or_eq_false_iff, Bool.and_eq_false_iff, decide_eq_false_iff_not, beq_iff_eq, beq_eq_false_iff_ne, ne_eq, Decidable.not_not] at hc44)
          ·
            refine W.seq ?_
            refine W.region ?_
            refine RL.q (Yld.move rfl) rfl ?_
            refine RL.q (Yld.fieldAddr fo39_1 rfl) rfl ?_
            refine RL.q (Yld.load1 (c := 109) Try.underlying3 rfl rfl rfl (by first | exact single_self _ _ | exact pset_self _ _ _ | assumption) rfl) rfl ?_
            refine RL.q (Yld.fieldAddr fo39_2 rfl) rfl ?_
            refine RL.q (Yld.load1 (c := 109) Try.underlying3 rfl rfl rfl (by first | exact single_self _ _ | exact pset_self _ _ _ | assumption) rfl) rfl ?_
            refine RL.q (Yld.fieldAddr fo39_3 rfl) rfl ?_
            refine RL.q (Yld.load1 (c := 109) Try.underlying4 rfl rfl rfl (by first | exact single_self _ _ | exact pset_self _ _ _ | assumption) rfl) rfl ?_
            refine RL.e (Eff.call ent19 [170] [170] (.cons rfl (.cons rfl (.cons rfl (.cons rfl .nil)))) (vgrant_ct y.bp y.v y.o hy.vm.isS o.a (bOf y.v o) o.y) rfl rfl rfl rfl (by rintro _ _ ⟨_, rfl⟩; rfl)) rfl ?_
            rintro _ _ ⟨_, ⟨rfl, rfl⟩, rfl⟩
            refine RL.nil ?_
            refine N.next ?_
            refine W.keep (.cons (k := 5) rfl (.cons (k := 6) rfl (.cons (k := 7) rfl (.cons (k := 9) rfl (.cons (k := 10) rfl (.cons (k := 24) rfl (.cons (k := 25) rfl (.cons (k := 26) rfl (.cons (k := 53) rfl .nil))))))))) (.cons (k := 0) rfl (.cons (k := 1) rfl (.cons (k := 109) rfl (.cons (k := 123) rfl (.cons (k := 170) rfl (.cons (k := 171) rfl .nil)))))) ?_
            refine W.cond rfl (fun hc53 => ?_) (fun hc53 => ?_)
            ·
              have hgn : gno y.v o.a (bOf y.v o) o.y = false := by simpa using hc53
              obtain ⟨q1, q2, q3, q4⟩ := gno_t hgn
              refine W.seq ?_
              refine W.seq ?_
              refine W.draw (.q 0 (.q 1 (.q 2 (.q 3 (.q 4 (.q 5 (.q 6 (.q 7 (.q 8 (.q 9 (.q 10 (.q 11 (.q 12 (.q 13 (.q 14 (.q 15 (.q 16 (.q 17 (.q 18 (.q 19 (.q 20 (.q 21 (.q 23 (.q 24 (.one 22 (.q 25 (.q 26 .done))))))))))))))))))))))))))) (.cons (k := 0) rfl (.cons (k := 1) rfl (.cons (k := 109) rfl (.cons (k := 123) rfl (.cons (k := 171) rfl .nil))))) mix (by kernel_rfl) (by kernel_rfl) ?_
              refine DL.q rfl (Yld.move rfl) rfl ?_
              refine DL.q rfl (Yld.fieldAddr fo39_2 rfl) rfl ?_
              refine DL.q rfl (Yld.load1 (c := 109) Try.underlying3 rfl rfl rfl (by first | exact single_self _ _ | exact pset_self _ _ _ | assumption) rfl) rfl ?_
              refine DL.q rfl (Yld.eq (v' := .int .i64 (y.g (bOf y.v o))) (Yld.lookup (c := 123) Try.underlying37 (keyInt Try.underlying3) zv3 rfl rfl rfl (by assumption)) (hy.gm _)) rfl ?_
              refine DL.q rfl (Yld.bin rfl rfl BinV.neq) rfl ?_
              refine DL.q rfl (Yld.move rfl) rfl ?_
              refine' DL.and (t := 59) (d := 67) 8 rfl (.cons (k := 5) rfl (.cons (k := 6) rfl (.cons (k := 7) rfl (.cons (k := 9) rfl (.cons (k := 10) rfl (.cons (k := 24) rfl (.cons (k := 25) rfl (.cons (k := 26) rfl (.cons (k := 53) rfl (.cons (k := 54) rfl (.cons (k := 55) rfl (.cons (k := 56) rfl (.cons (k := 57) rfl (.cons (k := 58) rfl .nil)))))))))))))) (.cons (k := 0) rfl (.cons (k := 1) rfl (.cons (k := 109) rfl (.cons (k := 123) rfl (.cons (k := 170) rfl (.cons (k := 171) rfl .nil)))))) ?_ ?_ ?_
              rotate_left 1
              ·
                intro hg59
                refine DL.gq rfl rfl rfl (Yld.move rfl) rfl ?_
                refine DL.gq rfl rfl rfl (Yld.fieldAddr fo39_2 rfl) rfl ?_
                refine DL.gq rfl rfl rfl (Yld.load1 (c := 109) Try.underlying3 rfl rfl rfl (by first | exact single_self _ _ | exact pset_self _ _ _ | assumption) rfl) rfl ?_
                refine DL.gq rfl rfl rfl (Yld.eq (v' := .int .i64 (y.g (bOf y.v o))) (Yld.lookup (c := 123) Try.underlying37 (keyInt Try.underlying3) zv3 rfl rfl rfl (by assumption)) (hy.gm _)) rfl ?_
                refine DL.gq rfl rfl rfl (Yld.fieldAddr fo39_1 rfl) rfl ?_
                refine DL.gq rfl rfl rfl (Yld.load1 (c := 109) Try.underlying3 rfl rfl rfl (by first | exact single_self _ _ | exact pset_self _ _ _ | assumption) rfl) rfl ?_
                refine DL.gq rfl rfl rfl (Yld.bin rfl rfl BinV.neq) rfl ?_
                refine DL.q rfl (by first | exact Yld.pickT rfl rfl | exact Yld.pickF rfl rfl) rfl ?_
                exact DL.meet (.cons rfl (.cons rfl (.cons rfl (.cons rfl (.cons rfl (.cons rfl (.cons rfl (.cons rfl (.cons rfl (.cons rfl (.cons rfl (.cons rfl (.cons rfl (.cons rfl (.cons rfl .nil))))))))))))))) (.cons rfl (.cons rfl (.cons rfl (.cons rfl (.cons rfl (.cons rfl .nil))))))
              ·
                intro hg59
                refine DL.gskip rfl rfl rfl rfl rfl ?_
                refine DL.gskip rfl rfl rfl rfl rfl ?_
                refine DL.gskip rfl rfl rfl rfl rfl ?_
                refine DL.gskip rfl rfl rfl rfl rfl ?_
                refine DL.gskip rfl rfl rfl rfl rfl ?_
                refine DL.gskip rfl rfl rfl rfl rfl ?_
                refine DL.gskip rfl rfl rfl rfl rfl ?_
                refine DL.q rfl (by first | exact Yld.pickT rfl rfl | exact Yld.pickF rfl rfl) rfl ?_
                exact DL.meet (.cons rfl (.cons rfl (.cons rfl (.cons rfl (.cons rfl (.cons rfl (.cons rfl (.cons rfl (.cons rfl (.cons rfl (.cons rfl (.cons rfl (.cons rfl (.cons rfl (.cons rfl .nil))))))))))))))) (.cons rfl (.cons rfl (.cons rfl (.cons rfl (.cons rfl (.cons rfl .nil))))))
              refine DL.q rfl (Yld.move rfl) rfl ?_
              refine' DL.or (t := 68) (d := 73) 5 rfl (.cons (k := 5) rfl (.cons (k := 6) rfl (.cons (k := 7) rfl (.cons (k := 9) rfl (.cons (k := 10) rfl (.cons (k := 24) rfl (.cons (k := 25) rfl (.cons (k := 26) rfl (.cons (k := 53) rfl (.cons (k := 54) rfl (.cons (k := 55) rfl (.cons (k := 56) rfl (.cons (k := 57) rfl (.cons (k := 58) rfl (.cons (k := 67) rfl .nil))))))))))))))) (.cons (k := 0) rfl (.cons (k := 1) rfl (.cons (k := 109) rfl (.cons (k := 123) rfl (.cons (k := 170) rfl (.cons (k := 171) rfl .nil)))))) ?_ ?_ ?_
              rotate_left 1
              ·
                intro hg68
                refine DL.gq rfl rfl rfl (Yld.fieldAddr fo39_2 rfl) rfl ?_
                refine DL.gq rfl rfl rfl (Yld.load1 (c := 109) Try.underlying3 rfl rfl rfl (by first | exact single_self _ _ | exact pset_self _ _ _ | assumption) rfl) rfl ?_
                refine DL.gq rfl rfl rfl (Yld.move rfl) rfl ?_
                refine DL.gq rfl rfl rfl (Yld.bin rfl rfl BinV.neq) rfl ?_
                refine DL.q rfl (by first | exact Yld.pickT rfl rfl | exact Yld.pickF rfl rfl) rfl ?_
                exact DL.meet (.cons rfl (.cons rfl (.cons rfl (.cons rfl (.cons rfl (.cons rfl (.cons rfl (.cons rfl (.cons rfl (.cons rfl (.cons rfl (.cons rfl (.cons rfl (.cons rfl (.cons rfl (.cons rfl .nil)))))))))))))))) (.cons rfl (.cons rfl (.cons rfl (.cons rfl (.cons rfl (.cons rfl .nil))))))
              ·
                intro hg68
                refine DL.gskip rfl rfl rfl rfl rfl ?_
                refine DL.gskip rfl rfl rfl rfl rfl ?_
                refine DL.gskip rfl rfl rfl rfl rfl ?_
                refine DL.gskip rfl rfl rfl rfl rfl ?_
                refine DL.q rfl (by first | exact Yld.pickT rfl rfl | exact Yld.pickF rfl rfl) rfl ?_
                exact DL.meet (.cons rfl (.cons rfl (.cons rfl (.cons rfl (.cons rfl (.cons rfl (.cons rfl (.cons rfl (.cons rfl (.cons rfl (.cons rfl (.cons rfl (.cons rfl (.cons rfl (.cons rfl (.cons rfl .nil)))))))))))))))) (.cons rfl (.cons rfl (.cons rfl (.cons rfl (.cons rfl (.cons rfl .nil))))))
              refine DL.q rfl (Yld.move rfl) rfl ?_
              refine' DL.or (t := 74) (d := 80) 6 rfl (.cons (k := 5) rfl (.cons (k := 6) rfl (.cons (k := 7) rfl (.cons (k := 9) rfl (.cons (k := 10) rfl (.cons (k := 24) rfl (.cons (k := 25) rfl (.cons (k := 26) rfl (.cons (k := 53) rfl (.cons (k := 54) rfl (.cons (k := 55) rfl (.cons (k := 56) rfl (.cons (k := 57) rfl (.cons (k := 58) rfl (.cons (k := 67) rfl (.cons (k := 73) rfl .nil)))))))))))))))) (.cons (k := 0) rfl (.cons (k := 1) rfl (.cons (k := 109) rfl (.cons (k := 123) rfl (.cons (k := 170) rfl (.cons (k := 171) rfl .nil)))))) ?_ ?_ ?_
              rotate_left 1
              ·
                intro hg74
                refine DL.gq rfl rfl rfl (Yld.move rfl) rfl ?_
                refine DL.gq rfl rfl rfl (Yld.fieldAddr fo39_1 rfl) rfl ?_
                refine DL.gq rfl rfl rfl (Yld.load1 (c := 109) Try.underlying3 rfl rfl rfl (by first | exact single_self _ _ | exact pset_self _ _ _ | assumption) rfl) rfl ?_
                refine DL.gone rfl rfl rfl (Eff.call ent20 [170] [170] (.cons rfl .nil) (vvoted_ct y.bp (gr y.v o.a (bOf y.v o) o.y) y.o) rfl rfl rfl rfl (by rintro _ _ ⟨_, rfl⟩; rfl)) rfl (by rintro _ _ ⟨_, ⟨rfl, rfl⟩, rfl⟩; repeat (first | exact .nil | refine .cons rfl ?_)) ?_
                rintro _ _ ⟨_, ⟨rfl, rfl⟩, rfl⟩
                refine DL.gq rfl rfl rfl (Yld.bin rfl rfl BinV.neq) rfl ?_
                refine DL.q rfl (by first | exact Yld.pickT rfl rfl | exact Yld.pickF rfl rfl) rfl ?_
                exact DL.meet (.cons rfl (.cons rfl (.cons rfl (.cons rfl (.cons rfl (.cons rfl (.cons rfl (.cons rfl (.cons rfl (.cons rfl (.cons rfl (.cons rfl (.cons rfl (.cons rfl (.cons rfl (.cons rfl (.cons rfl .nil))))))))))))))))) (.cons rfl (.cons rfl (.cons rfl (.cons rfl (.cons rfl (.cons rfl .nil))))))
              ·
                intro hg74
                refine DL.gskip rfl rfl rfl rfl rfl ?_
                refine DL.gskip rfl rfl rfl rfl rfl ?_
                refine DL.gskip rfl rfl rfl rfl rfl ?_
                refine DL.gskip1 rfl rfl rfl rfl rfl ?_
                refine DL.gskip rfl rfl rfl rfl rfl ?_
                refine DL.q rfl (by first | exact Yld.pickT rfl rfl | exact Yld.pickF rfl rfl) rfl ?_
                exact DL.meet (.cons rfl (.cons rfl (.cons rfl (.cons rfl (.cons rfl (.cons rfl (.cons rfl (.cons rfl (.cons rfl (.cons rfl (.cons rfl (.cons rfl (.cons rfl (.cons rfl (.cons rfl (.cons rfl (.cons rfl .nil))))))))))))))))) (.cons rfl (.cons rfl (.cons rfl (.cons rfl (.cons rfl (.cons rfl .nil))))))
              refine DL.done ?_
              refine N.next ?_
              refine W.keep (.cons (k := 5) rfl (.cons (k := 6) rfl (.cons (k := 7) rfl (.cons (k := 9) rfl (.cons (k := 10) rfl (.cons (k := 24) rfl (.cons (k := 25) rfl (.cons (k := 26) rfl (.cons (k := 80) rfl .nil))))))))) (.cons (k := 0) rfl (.cons (k := 1) rfl (.cons (k := 109) rfl (.cons (k := 123) rfl (.cons (k := 170) rfl (.cons (k := 171) rfl .nil)))))) ?_
              refine W.cond rfl (fun hc80 => ?_) (fun hc80 => ?_)
              ·
                exfalso
                have h1 := hy.at_
                rw [q4] at hc80
                rw [q1, h1] at hc80
                simp only [Bool.or_eq_true, Bool.and_eq_true, decide_eq_true_eq] at hc80
                omega --stop
              ·
                refine W.skip ?_
                refine N.next ?_
                refine W.region ?_
                refine RL.q (Yld.move rfl) rfl ?_
                refine RL.q (Yld.fieldAddr fo39_2 rfl) rfl ?_
                refine RL.q (Yld.load1 (c := 109) Try.underlying3 rfl rfl rfl (by first | exact single_self _ _ | exact pset_self _ _ _ | assumption) rfl) rfl ?_
                refine RL.q (Yld.fieldAddr fo39_1 rfl) rfl ?_
                refine RL.q (Yld.load1 (c := 109) Try.underlying3 rfl rfl rfl (by first | exact single_self _ _ | exact pset_self _ _ _ | assumption) rfl) rfl ?_
                refine RL.e0 (Eff.mapUpdate (c := 123) Try.underlying37 (keyInt Try.underlying3) rfl rfl rfl rfl (by assumption)) ?_
                rintro _ _ ⟨es1, ck1, hM1, rfl⟩
                refine RL.nil ?_
                refine N.block_normal ?_
                exact N.famK ⟨y.i, y.bp, y.o, y.G, gr y.v o.a (bOf y.v o) o.y, _, _, mset y.m (bOf y.v o) (.int .i64 o.a), fun z => if (bOf y.v o) = z then o.a else y.g z⟩ ⟨hy.gr hgn (by assumption), Int.le_of_eq (gr_tm _ _ _ _).1.symm⟩ (.as rfl (by first | rfl | (simp; done) | (congr 1; simp; done) | (congr 1; omega)) .nil) (.cons rfl (.cons rfl (.cons rfl (.cons rfl (.cons rfl (.cons rfl .nil)))))) (.cons rfl (.cons rfl (.cons rfl .nil))) (.cons rfl (.cons rfl (.cons rfl .nil)))
            ·
              have hgn : gno y.v o.a (bOf y.v o) o.y = true := by simpa using hc53
              have hgv : gr y.v o.a (bOf y.v o) o.y = y.v := by rw [gno_ok, if_pos hgn]
              refine W.skip ?_
              refine N.block_normal ?_
              exact N.famK y ⟨hy.idle, Int.le_refl _⟩ (.as rfl (by first | rfl | (simp; done) | (congr 1; simp; done) | (congr 1; omega)) .nil) (.cons rfl (.cons rfl (.cons rfl (.cons rfl (.cons rfl (.cons rfl .nil)))))) (.cons rfl (.as rfl (by rw [hgv]) (.cons rfl .nil))) (.cons rfl (.cons rfl (.cons rfl .nil)))
          ·
            refine W.seq ?_
            refine W.region ?_
            refine RL.q (Yld.bin rfl rfl BinV.eql) rfl ?_
            refine RL.q (Yld.assign rfl) rfl ?_
            refine RL.nil ?_
            refine N.next ?_
            first | refine W.condD rfl (fun hc86 => ?_) (fun hc86 => ?_) | (refine W.cond rfl (fun hc86 => ?_) (fun hc86 => ?_) <;> try simp only [Bool.or_eq_true, Bool.and_eq_true, Bool.not_eq_true', Bool.not_eq_false', decide_eq_true_eq, Bool.or_eq_false_iff, Bool.and_eq_false_iff, decide_eq_false_iff_not, beq_iff_eq, beq_eq_false_iff_ne, ne_eq, Decidable.not_not] at hc86)
            ·
              refine W.seq ?_
              refine W.region ?_
              refine RL.q (Yld.move rfl) rfl ?_
              refine RL.e (Eff.call ent21 [170] [170, 171] (.cons rfl .nil) (vcamp_ct y.bp y.v y.o y.i (by omega) hy.ok) rfl rfl rfl rfl (by rintro _ _ ⟨_, _, _, _, _, _, rfl⟩; rfl)) rfl ?_
              rintro _ _ ⟨_, ⟨rfl, bm, es, ck, m, hMV, rfl⟩, rfl⟩
              refine RL.q (Yld.assign rfl) rfl ?_
              refine RL.nil ?_
              refine N.next ?_
              refine W.keep (.cons (k := 5) rfl (.cons (k := 6) rfl (.cons (k := 7) rfl (.cons (k := 10) rfl (.cons (k := 11) rfl (.cons (k := 24) rfl (.cons (k := 25) rfl (.cons (k := 26) rfl .nil)))))))) (.cons (k := 0) rfl (.cons (k := 1) rfl (.cons (k := 109) rfl (.cons (k := 123) rfl (.cons (k := 170) rfl (.cons (k := 171) rfl .nil)))))) ?_
              refine W.seq ?_
              refine W.seq ?_
              refine W.region ?_
              refine RL.q (Yld.move rfl) rfl ?_
              refine RL.q (Yld.move rfl) rfl ?_
              refine RL.q (Yld.bin rfl rfl (by first | exact BinV.add (by omega) (by omega) | exact BinV.addW)) rfl ?_
              refine RL.q (Yld.bin rfl rfl BinV.neq) rfl ?_
              refine RL.q (Yld.move rfl) rfl ?_
              refine' RL.or (t := 94) (d := 99) 5 rfl (.cons (k := 5) rfl (.cons (k := 6) rfl (.cons (k := 7) rfl (.cons (k := 10) rfl (.cons (k := 11) rfl (.cons (k := 24) rfl (.cons (k := 25) rfl (.cons (k := 26) rfl (.cons (k := 90) rfl (.cons (k := 91) rfl (.cons (k := 92) rfl (.cons (k := 93) rfl .nil)))))))))))) (.cons (k := 0) rfl (.cons (k := 1) rfl (.cons (k := 109) rfl (.cons (k := 123) rfl (.cons (k := 170) rfl (.cons (k := 171) rfl .nil)))))) ?_ ?_ ?_
              rotate_left 1
              ·
                intro hg94
                refine RL.gq rfl rfl (Yld.move rfl) rfl ?_
                refine RL.gq rfl rfl (Yld.move rfl) rfl ?_
                refine RL.gq rfl rfl (Yld.eq (v' := .int .i64 (y.g (y.v.tm + 1))) (Yld.lookup (c := 123) Try.underlying37 (keyInt Try.underlying3) zv3 rfl rfl rfl (by assumption)) (hy.gm _)) rfl ?_
                refine RL.gq rfl rfl (Yld.bin rfl rfl BinV.neq) rfl ?_
                refine RL.q (by first | exact Yld.pickT rfl rfl | exact Yld.pickF rfl rfl) rfl ?_
                exact RL.nil (N.meet (.cons rfl (.cons rfl (.cons rfl (.cons rfl (.cons rfl (.cons rfl (.cons rfl (.cons rfl (.cons rfl (.cons rfl (.cons rfl (.cons rfl (.cons rfl .nil))))))))))))) (.cons rfl (.cons rfl (.cons rfl (.cons rfl (.cons rfl (.cons rfl .nil)))))))
              ·
                intro hg94
                refine RL.gskip rfl rfl rfl rfl ?_
                refine RL.gskip rfl rfl rfl rfl ?_
                refine RL.gskip rfl rfl rfl rfl ?_
                refine RL.gskip rfl rfl rfl rfl ?_
                refine RL.q (by first | exact Yld.pickT rfl rfl | exact Yld.pickF rfl rfl) rfl ?_
                exact RL.nil (N.meet (.cons rfl (.cons rfl (.cons rfl (.cons rfl (.cons rfl (.cons rfl (.cons rfl (.cons rfl (.cons rfl (.cons rfl (.cons rfl (.cons rfl (.cons rfl .nil))))))))))))) (.cons rfl (.cons rfl (.cons rfl (.cons rfl (.cons rfl (.cons rfl .nil)))))))
              refine RL.nil ?_
              refine N.next ?_
              refine W.keep (.cons (k := 5) rfl (.cons (k := 6) rfl (.cons (k := 7) rfl (.cons (k := 10) rfl (.cons (k := 11) rfl (.cons (k := 24) rfl (.cons (k := 25) rfl (.cons (k := 26) rfl (.cons (k := 99) rfl .nil))))))))) (.cons (k := 0) rfl (.cons (k := 1) rfl (.cons (k := 109) rfl (.cons (k := 123) rfl (.cons (k := 170) rfl (.cons (k := 171) rfl .nil)))))) ?_
              refine W.cond rfl (fun hc99 => ?_) (fun hc99 => ?_)
              ·
                exfalso
                have h1 := hy.up (y.v.tm + 1) (by omega)
                rw [h1] at hc99
                simp at hc99 --stop
              ·
                refine W.skip ?_
                refine N.next ?_
                refine W.region ?_
                refine RL.q (Yld.move rfl) rfl ?_
                refine RL.q (Yld.move rfl) rfl ?_
                refine RL.q (Yld.move rfl) rfl ?_
                refine RL.e0 (Eff.mapUpdate (c := 123) Try.underlying37 (keyInt Try.underlying3) rfl rfl rfl rfl (by assumption)) ?_
                rintro _ _ ⟨es2, ck2, hM2, rfl⟩
                refine RL.nil ?_
                refine N.block_normal ?_
                exact N.famK ⟨y.i, y.bp, some bm, single bm (.map es ck), camp y.v, _, _, mset y.m (y.v.tm + 1) (.int .i64 (1 + me % 400)), fun z => if y.v.tm + 1 = z then (1 + me % 400) else y.g z⟩ ⟨hy.cmp hMV (by assumption), by show y.v.tm ≤ y.v.tm + 1; omega⟩ (.as rfl (by first | rfl | (simp; done) | (congr 1; simp; done) | (congr 1; omega)) .nil) (.cons rfl (.cons rfl (.cons rfl (.cons rfl (.cons rfl (.cons rfl .nil)))))) (.cons rfl (.cons rfl (.cons rfl .nil))) (.cons rfl (.cons rfl (.cons rfl .nil)))
            ·
              refine W.seq ?_
              refine W.region ?_
              refine RL.q (Yld.bin rfl rfl BinV.eql) rfl ?_
              refine RL.q (Yld.assign rfl) rfl ?_
              refine RL.nil ?_
              refine N.next ?_
              refine W.keep (.cons (k := 5) rfl (.cons (k := 6) rfl (.cons (k := 7) rfl (.cons (k := 9) rfl (.cons (k := 10) rfl (.cons (k := 24) rfl (.cons (k := 25) rfl (.cons (k := 26) rfl (.cons (k := 37) rfl (.cons (k := 103) rfl .nil)))))))))) (.cons (k := 0) rfl (.cons (k := 1) rfl (.cons (k := 109) rfl (.cons (k := 123) rfl (.cons (k := 170) rfl (.cons (k := 171) rfl .nil)))))) ?_
              first | refine W.condD rfl (fun hc103 => ?_) (fun hc103 => ?_) | (refine W.cond rfl (fun hc103 => ?_) (fun hc103 => ?_) <;> try simp only [Bool.or_eq_true, Bool.and_eq_true, Bool.not_eq_true', Bool.not_eq_false', decide_eq_true_eq, Bool.or_eq_false_iff, Bool.and_eq_false_iff, decide_eq_false_iff_not, beq_iff_eq, beq_eq_false_iff_ne, ne_eq, Decidable.not_not] at hc103)
              ·
                refine W.region ?_
                refine RL.q (Yld.move rfl) rfl ?_
                refine RL.q (Yld.fieldAddr fo39_1 rfl) rfl ?_
                refine RL.q (Yld.load1 (c := 109) Try.underlying3 rfl rfl rfl (by first | exact single_self _ _ | exact pset_self _ _ _ | assumption) rfl) rfl ?_
                refine RL.q (Yld.fieldAddr fo39_2 rfl) rfl ?_
                refine RL.q (Yld.load1 (c := 109) Try.underlying3 rfl rfl rfl (by first | exact single_self _ _ | exact pset_self _ _ _ | assumption) rfl) rfl ?_
                refine RL.q (Yld.fieldAddr fo39_3 rfl) rfl ?_
                refine RL.q (Yld.load1 (c := 109) Try.underlying4 rfl rfl rfl (by first | exact single_self _ _ | exact pset_self _ _ _ | assumption) rfl) rfl ?_
                refine RL.e (Eff.call ent22 [170, 171] [170, 171] (.cons rfl (.cons rfl (.cons rfl (.cons rfl .nil)))) (vcount_ct y.bp y.v y.o y.G hy.vm o.a (bOf y.v o) o.y) rfl rfl rfl rfl (by rintro _ _ ⟨_, _, _, rfl⟩; rfl)) rfl ?_
                rintro _ _ ⟨_, ⟨rfl, G', hG', rfl⟩, rfl⟩
                refine RL.nil ?_
                refine N.block_normal ?_
                exact N.famK { y with G := G', v := cnt y.v o.a (bOf y.v o) o.y } ⟨hy.cnt hG', Int.le_of_eq (cnt_tm _ _ _ _).1.symm⟩ (.as rfl (by first | rfl | (simp; done) | (congr 1; simp; done) | (congr 1; omega)) .nil) (.cons rfl (.cons rfl (.cons rfl (.cons rfl (.cons rfl (.cons rfl .nil)))))) (.cons rfl (.cons rfl (.cons rfl .nil))) (.cons rfl (.cons rfl (.cons rfl .nil)))
              ·
                refine W.seq ?_
                refine W.region ?_
                refine RL.q (Yld.bin rfl rfl BinV.eql) rfl ?_
                refine RL.q (Yld.assign rfl) rfl ?_
                refine RL.nil ?_
                refine N.next ?_
                refine W.keep (.cons (k := 5) rfl (.cons (k := 6) rfl (.cons (k := 7) rfl (.cons (k := 10) rfl (.cons (k := 24) rfl (.cons (k := 25) rfl (.cons (k := 26) rfl (.cons (k := 113) rfl .nil)))))))) (.cons (k := 0) rfl (.cons (k := 1) rfl (.cons (k := 109) rfl (.cons (k := 123) rfl (.cons (k := 170) rfl (.cons (k := 171) rfl .nil)))))) ?_
                first | refine W.condD rfl (fun hc113 => ?_) (fun hc113 => ?_) | (refine W.cond rfl (fun hc113 => ?_) (fun hc113 => ?_) <;> try simp only [Bool.or_eq_true, Bool.and_eq_true, Bool.not_eq_true', Bool.not_eq_false', decide_eq_true_eq, Bool.or_eq_false_iff, Bool.and_eq_false_iff, decide_eq_false_iff_not, beq_iff_eq, beq_eq_false_iff_ne, ne_eq, Decidable.not_not] at hc113)
                ·
                  refine W.seq ?_
                  refine W.region ?_
                  refine RL.q (Yld.move rfl) rfl ?_
                  refine RL.q (Yld.move rfl) rfl ?_
                  refine RL.e (Eff.call ent17 [170] [170] (.cons rfl .nil) (vterm_ct y.bp y.v y.o) rfl rfl rfl rfl (by rintro _ _ ⟨_, rfl⟩; rfl)) rfl ?_
                  rintro _ _ ⟨_, ⟨rfl, rfl⟩, rfl⟩
                  refine RL.q (Yld.move rfl) rfl ?_
                  refine RL.e (Eff.call ent20 [170] [170] (.cons rfl .nil) (vvoted_ct y.bp y.v y.o) rfl rfl rfl rfl (by rintro _ _ ⟨_, rfl⟩; rfl)) rfl ?_
                  rintro _ _ ⟨_, ⟨rfl, rfl⟩, rfl⟩
                  refine RL.e (Eff.call ent16 [] [180] (.cons rfl (.cons rfl (.cons rfl .nil))) (vnew_ct (1 + me % 400) y.v.tm y.v.vd) rfl rfl rfl rfl (by rintro _ _ ⟨_, _, rfl⟩; rfl)) rfl ?_
                  rintro _ _ ⟨_, ⟨bq, rfl, rfl⟩, rfl⟩
                  refine RL.imp (Imp.move (c := 180) (c' := 170) rfl rfl) ?_
                  refine RL.q (Yld.assign rfl) rfl ?_
                  refine RL.nil ?_
                  refine N.next ?_
                  refine W.keep (.cons (k := 5) rfl (.cons (k := 6) rfl (.cons (k := 7) rfl (.cons (k := 10) rfl (.cons (k := 24) rfl (.cons (k := 25) rfl (.cons (k := 26) rfl .nil))))))) (.cons (k := 0) rfl (.cons (k := 1) rfl (.cons (k := 109) rfl (.cons (k := 123) rfl (.cons (k := 170) rfl (.cons (k := 171) rfl (.cons (k := 180) rfl .nil))))))) ?_
                  refine W.seq ?_
                  refine W.region ?_
                  refine RL.q (Yld.move rfl) rfl ?_
                  refine RL.q (Yld.bin rfl rfl (BinV.eqlPN Try.underlying35)) rfl ?_
                  refine RL.nil ?_
                  refine N.next ?_
                  first | (refine W.as (t := 122) rfl (boolF (by first | assumption | omega | (simp; done))) ?_; refine W.condF rfl ?_) | refine W.condF rfl ?_
                  refine W.skip ?_
                  refine N.block_normal ?_
                  exact N.famK { y with bp := bq, o := none, v := nw (1 + me % 400) y.v.tm y.v.vd } ⟨hy.new bq, by show y.v.tm ≤ max y.v.tm 0; omega⟩ (.as rfl (by first | rfl | (simp; done) | (congr 1; simp; done) | (congr 1; omega)) .nil) (.cons rfl (.cons rfl (.cons rfl (.cons rfl (.cons rfl (.cons rfl .nil)))))) (.cons rfl (.cons rfl (.cons rfl .nil))) (.cons rfl (.cons rfl (.cons rfl .nil)))
                ·
                  refine W.skip ?_
                  refine N.block_normal ?_
                  exact N.famK y ⟨hy.idle, Int.le_refl _⟩ (.as rfl (by first | rfl | (simp; done) | (congr 1; simp; done) | (congr 1; omega)) .nil) (.cons rfl (.cons rfl (.cons rfl (.cons rfl (.cons rfl (.cons rfl .nil)))))) (.cons rfl (.cons rfl (.cons rfl .nil))) (.cons rfl (.cons rfl (.cons rfl .nil)))
      rintro w ⟨hw, htm⟩
      refine W.keep (.cons (k := 6) rfl (.cons (k := 5) rfl (.cons (k := 7) rfl (.cons (k := 10) rfl (.cons (k := 24) rfl (.cons (k := 25) rfl (.cons (k := 26) rfl .nil))))))) (.cons (k := 123) rfl (.cons (k := 170) rfl (.cons (k := 171) rfl (.cons (k := 0) rfl (.cons (k := 1) rfl (.cons (k := 109) rfl .nil)))))) ?_
      have hMw := hw.mp
      refine W.seq ?_
      refine W.draw (.q 0 (.q 2 (.one 1 (.q 3 (.q 4 (.q 5 (.q 6 (.q 9 (.one 7 (.q 8 (.one 10 (.q 11 (.q 12 .done))))))))))))) (.cons (k := 0) rfl (.cons (k := 1) rfl (.cons (k := 109) rfl (.cons (k := 123) rfl (.cons (k := 171) rfl .nil))))) mix (by kernel_rfl) (by kernel_rfl) ?_
      refine DL.q rfl (Yld.move rfl) rfl ?_
      refine DL.q rfl (Yld.move rfl) rfl ?_
      refine DL.one rfl (Eff.call ent17 [170] [170] (.cons rfl .nil) (vterm_ct w.bp w.v w.o) rfl rfl rfl rfl (by rintro _ _ ⟨_, rfl⟩; rfl)) rfl (by rintro _ _ ⟨_, ⟨rfl, rfl⟩, rfl⟩; repeat (first | exact .nil | refine .cons rfl ?_)) ?_
      rintro _ _ ⟨_, ⟨rfl, rfl⟩, rfl⟩
      refine DL.q rfl (Yld.bin rfl rfl BinV.lss) rfl ?_
      refine DL.q rfl (Yld.move rfl) rfl ?_
      refine' DL.or (t := 127) (d := 135) 8 rfl (.cons (k := 5) rfl (.cons (k := 6) rfl (.cons (k := 7) rfl (.cons (k := 10) rfl (.cons (k := 24) rfl (.cons (k := 25) rfl (.cons (k := 26) rfl (.cons (k := 123) rfl (.cons (k := 124) rfl (.cons (k := 125) rfl (.cons (k := 126) rfl .nil))))))))))) (.cons (k := 0) rfl (.cons (k := 1) rfl (.cons (k := 109) rfl (.cons (k := 123) rfl (.cons (k := 170) rfl (.cons (k := 171) rfl .nil)))))) ?_ ?_ ?_
      rotate_left 1
      ·
        intro hg127
        refine DL.gq rfl rfl rfl (Yld.move rfl) rfl ?_
        refine DL.gq rfl rfl rfl (Yld.move rfl) rfl ?_
        refine DL.gq rfl rfl rfl (Yld.move rfl) rfl ?_
        refine DL.gone rfl rfl rfl (Eff.call ent17 [170] [170] (.cons rfl .nil) (vterm_ct w.bp w.v w.o) rfl rfl rfl rfl (by rintro _ _ ⟨_, rfl⟩; rfl)) rfl (by rintro _ _ ⟨_, ⟨rfl, rfl⟩, rfl⟩; repeat (first | exact .nil | refine .cons rfl ?_)) ?_
        rintro _ _ ⟨_, ⟨rfl, rfl⟩, rfl⟩
        refine DL.gq rfl rfl rfl (Yld.eq (v' := .int .i64 (w.g w.v.tm)) (Yld.lookup (c := 123) Try.underlying37 (keyInt Try.underlying3) zv3 rfl rfl rfl (by assumption)) (hw.gm _)) rfl ?_
        refine DL.gone rfl rfl rfl (Eff.call ent20 [170] [170] (.cons rfl .nil) (vvoted_ct w.bp w.v w.o) rfl rfl rfl rfl (by rintro _ _ ⟨_, rfl⟩; rfl)) rfl (by rintro _ _ ⟨_, ⟨rfl, rfl⟩, rfl⟩; repeat (first | exact .nil | refine .cons rfl ?_)) ?_
        rintro _ _ ⟨_, ⟨rfl, rfl⟩, rfl⟩
        refine DL.gq rfl rfl rfl (Yld.bin rfl rfl BinV.neq) rfl ?_
        refine DL.q rfl (by first | exact Yld.pickT rfl rfl | exact Yld.pickF rfl rfl) rfl ?_
        exact DL.meet (.cons rfl (.cons rfl (.cons rfl (.cons rfl (.cons rfl (.cons rfl (.cons rfl (.cons rfl (.cons rfl (.cons rfl (.cons rfl (.cons rfl .nil)))))))))))) (.cons rfl (.cons rfl (.cons rfl (.cons rfl (.cons rfl (.cons rfl .nil))))))
      ·
        intro hg127
        refine DL.gskip rfl rfl rfl rfl rfl ?_
        refine DL.gskip rfl rfl rfl rfl rfl ?_
        refine DL.gskip rfl rfl rfl rfl rfl ?_
        refine DL.gskip1 rfl rfl rfl rfl rfl ?_
        refine DL.gskip rfl rfl rfl rfl rfl ?_
        refine DL.gskip1 rfl rfl rfl rfl rfl ?_
        refine DL.gskip rfl rfl rfl rfl rfl ?_
        refine DL.q rfl (by first | exact Yld.pickT rfl rfl | exact Yld.pickF rfl rfl) rfl ?_
        exact DL.meet (.cons rfl (.cons rfl (.cons rfl (.cons rfl (.cons rfl (.cons rfl (.cons rfl (.cons rfl (.cons rfl (.cons rfl (.cons rfl (.cons rfl .nil)))))))))))) (.cons rfl (.cons rfl (.cons rfl (.cons rfl (.cons rfl (.cons rfl .nil))))))
      refine DL.done ?_
      refine N.next ?_
      refine W.keep (.cons (k := 5) rfl (.cons (k := 6) rfl (.cons (k := 7) rfl (.cons (k := 24) rfl (.cons (k := 25) rfl (.cons (k := 26) rfl (.cons (k := 135) rfl .nil))))))) (.cons (k := 0) rfl (.cons (k := 1) rfl (.cons (k := 109) rfl (.cons (k := 123) rfl (.cons (k := 170) rfl (.cons (k := 171) rfl .nil)))))) ?_
      refine W.cond rfl (fun hc135 => ?_) (fun hc135 => ?_)
      ·
        exfalso
        have h1 := hw.at_
        rw [h1] at hc135
        simp only [Bool.or_eq_true, decide_eq_true_eq] at hc135
        omega --stop
      ·
        refine W.skip ?_
        refine N.block_normal ?_
        refine N.next ?_
        refine W.region ?_
        refine RL.q (Yld.bin rfl rfl (by first | exact BinV.add (by omega) (by omega) | exact BinV.addW)) rfl ?_
        refine RL.q (Yld.move rfl) rfl ?_
        refine RL.nil ?_
        exact N.famK ⟨y.i + 1, w.bp, w.o, w.G, w.v, w.es, w.ck, w.m, w.g⟩ ⟨⟨by dsimp only; omega, hw.vm, hw.ok, hw.me, hw.mp, hw.gm, hw.at_, hw.up⟩, by dsimp only; omega⟩ (.as rfl (by first | rfl | (simp; done) | (congr 1; simp; done) | (congr 1; omega)) (.as rfl (by first | rfl | (simp; done) | (congr 1; simp; done) | (congr 1; omega)) .nil)) (.cons rfl (.cons rfl (.cons rfl (.cons rfl .nil)))) (.cons rfl (.cons rfl (.cons rfl .nil))) (.cons rfl (.cons rfl .nil))
    ·
      refine W.exit ?_
      refine N.then_exit ?_
      refine N.then_exit ?_
      refine N.block_eq ?_
      refine N.next ?_
      refine W.keep .nil (.cons (k := 0) rfl (.cons (k := 1) rfl (.cons (k := 123) rfl (.cons (k := 170) rfl (.cons (k := 171) rfl .nil))))) ?_
      refine W.seq ?_
      refine W.region ?_
      refine RL.q (Yld.assign rfl) rfl ?_
      refine RL.nil ?_
      refine N.next ?_
      refine W.ret ?_
      exact N.retBy [1] (.cons (.tmp rfl) .nil) rfl rfl rfl rfl ⟨rfl, rfl⟩

end Go.Proofs.Ytldnbbnaighakaa
