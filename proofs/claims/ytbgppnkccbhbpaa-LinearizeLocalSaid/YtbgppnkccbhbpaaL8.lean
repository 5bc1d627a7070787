/- Merge. Written by program (walk.py). -/
import Derived.Test.YtbgppnkccbhbpaaL7
import Derived.Test.YtbgppnkccbhbpaaSlMrg
namespace Go.Proofs.Ytbgppnkccbhbpaa
open SL HistLaw Cfg
set_option linter.unusedVariables false
set_option linter.unusedSimpArgs false
theorem ent37 : Ent Try.prog 37 := ⟨_, _, Try.func37, by kernel_rfl, rfl⟩
theorem ent39 : Ent Try.prog 39 := ⟨_, _, Try.func39, by kernel_rfl, rfl⟩
set_option maxRecDepth 100000 in
set_option maxHeartbeats 6400000 in
theorem merge_ct (l : List O) (hv : Valid l) (hl60 : l.length ≤ 60) (gs : List (List Nat)) (R : GR l gs) (ss : List (Option Addr × Nat × List Int)) (hss : ss.map (·.2.2) = gs.map zsN) (H1 : PH) (p : Option Addr) (c0 : Nat) (hS : Sl H1 p c0 12 (l.map O.c)) (G H : PH) (q : Option Addr) (d : Nat) (hG : Sl G q d 1 (ss.map SV)) (hH : ∀ s ∈ ss, Sl H s.1 s.2.1 1 (iz s.2.2)) : Ct Try.prog 16 [.slice p (l.map O.c).length c0, .slice q ss.length d] [H1, G, H] (fun v Hs => ∃ out H' p' c', v = .tuple #[.slice p' (zsN out).length c', .int .i64 0] ∧ Own H' p' c' 3 1 (iz (zsN out)) ∧ VerOK l (zsN out) ∧ Hs = [H1, G, H, H']) := by
  refine Ct.body Try.func16 rfl Try.ntmps16 rfl ?_
  intro E F
  have hmax := hS.len_le
  simp only [maxLen] at hmax
  have hll : (l.map O.c).length = l.length := by simp
  have hGl := hG.len_le
  simp only [List.length_map, maxLen] at hGl
  have hssl : ss.length = gs.length := by have := congrArg List.length hss; simpa using this
  have hgl := R.G.len
  have hkl := keysO_len l
  have hcat : catL ss = zsN gs.flatten := by rw [← zs_flat, ← hss]; simp [catL, List.flatMap]
  have hfn := R.G.flat
  have hcn := zsN_nodup hfn
  have hcr : ∀ z ∈ catL ss, 0 ≤ z ∧ z < l.length := fun z hz => by
    rw [hcat] at hz
    obtain ⟨w, rfl, hw⟩ := zsN_mem.1 hz
    have := R.G.lt (wt_mem.2 hw)
    omega
  have hcl : (catL ss).length ≤ 60 := by
    rw [hcat, zsN_len]
    exact Nat.le_trans (nodup_lt hfn fun x hx => R.G.lt (wt_mem.2 hx)) hl60
  refine W.seq ?_
  refine W.region ?_
  refine RL.e (Eff.box 102 _ rfl rfl) rfl ?_
  rintro _ _ ⟨b2, rfl, rfl⟩
  refine RL.q (Yld.assign rfl) rfl ?_
  refine RL.q (Yld.assign rfl) rfl ?_
  refine RL.nil ?_
  refine N.next ?_
  refine W.seq ?_
  refine W.imp (Imp.empty _ 90) ?_
  refine W.region ?_
  refine RL.e (Eff.makeMap 116) rfl ?_
  rintro _ _ ⟨b16, rfl, rfl⟩
  refine RL.e (Eff.alloc 106 zc73) rfl ?_
  rintro _ _ ⟨b6, rfl, rfl⟩
  refine RL.e0 (Eff.storeS (c := 106) _ sz73 rfl rfl rfl rfl rfl rfl rfl (by (try simp only [putAt, List.take, List.drop, List.nil_append, List.cons_append, List.append_nil, List.length_cons, List.length_nil, Nat.add_zero, Nat.zero_add, Nat.reduceAdd]); rfl)) ?_
  rintro _ _ rfl
  refine RL.nil ?_
  refine N.next ?_
  refine W.keep (.cons (k := 1) rfl (.cons (k := 2) rfl (.cons (k := 6) rfl .nil))) (.cons (k := 0) rfl (.cons (k := 1) rfl (.cons (k := 2) rfl (.cons (k := 3) rfl (.cons (k := 90) rfl (.cons (k := 102) rfl (.cons (k := 106) rfl (.cons (k := 116) rfl .nil)))))))) ?_
  refine W.seq ?_
  refine W.seq ?_
  refine W.region ?_
  refine RL.q (Yld.move rfl) rfl ?_
  refine RL.e (Eff.call ent37 [2, 3] [2, 3, 130] (.cons rfl .nil) (concat_ct ss G H q d hG hH (by omega)) rfl rfl rfl rfl (by rintro _ _ ⟨_, _, _, _, _, rfl⟩; rfl)) rfl ?_
  rintro _ _ ⟨_, ⟨Hc, pc, cc, rfl, hOc, rfl⟩, rfl⟩
  refine RL.q (Yld.lenSl Try.underlying25 rfl) rfl ?_
  refine RL.q (Yld.move rfl) rfl ?_
  refine RL.nil ?_
  refine N.next ?_
  refine W.block ?_
  refine W.loopK (ι := MM) (fun y => (y.j ≤ (catL ss).length ∧ MapP (fun a : Int => Value.int .i64 a) y.es y.ck y.m ∧ (∀ z v, mget y.m z = some v → v = .bool true) ∧ ∀ z, (mget y.m z).isSome = true ↔ z ∈ (catL ss).take y.j)) (fun y => [(20, .int .i64 (y.j : Nat))]) (fun y => [(116, single b16 (.map y.es y.ck))]) (fun y => (catL ss).length - y.j) (.cons (k := 1) rfl (.cons (k := 2) rfl (.cons (k := 6) rfl (.cons (k := 18) rfl (.cons (k := 19) rfl .nil))))) (.cons (k := 0) rfl (.cons (k := 1) rfl (.cons (k := 2) rfl (.cons (k := 3) rfl (.cons (k := 90) rfl (.cons (k := 102) rfl (.cons (k := 106) rfl (.cons (k := 130) rfl .nil)))))))) ⟨0, #[], 0, []⟩ ?_ ?_ ?_ ?_
  · exact ⟨Nat.zero_le _, MapP.empty _, (fun z v h => by simp [mget] at h), fun z => by simp [mget]⟩
  · exact (.as rfl (by first | rfl | (simp; done) | (congr 1; simp; done) | (congr 1; omega)) .nil)
  · exact (.cons rfl .nil)
  rintro y ⟨hj, hM, hT, hW⟩
  refine W.keep (.cons (k := 20) rfl (.cons (k := 1) rfl (.cons (k := 2) rfl (.cons (k := 6) rfl (.cons (k := 18) rfl (.cons (k := 19) rfl .nil)))))) (.cons (k := 116) rfl (.cons (k := 0) rfl (.cons (k := 1) rfl (.cons (k := 2) rfl (.cons (k := 3) rfl (.cons (k := 90) rfl (.cons (k := 102) rfl (.cons (k := 106) rfl (.cons (k := 130) rfl .nil))))))))) ?_
  refine W.seq ?_
  refine W.region ?_
  refine RL.q (Yld.bin rfl rfl BinV.lss) rfl ?_
  refine RL.nil ?_
  refine N.next ?_
  refine W.seq ?_
  first | refine W.condD rfl (fun hc21 => ?_) (fun hc21 => ?_) | (refine W.cond rfl (fun hc21 => ?_) (fun hc21 => ?_) <;> try simp only [Bool.or_eq_true, Bool.and_eq_true, Bool.not_eq_true', Bool.not_eq_false', decide_eq_true_eq, Bool.or_eq_false_iff, Bool.and_eq_false_iff, decide_eq_false_iff_not, beq_iff_eq, beq_eq_false_iff_ne, ne_eq, Decidable.not_not] at hc21)
  ·
    obtain ⟨z, hz, hlz⟩ := iz_at (show y.j < (catL ss).length by omega)
    obtain ⟨hz0, hz1⟩ := hcr z (List.mem_of_getElem? hz)
    have hzn : (mget y.m z).isSome = false := by
      cases e : (mget y.m z).isSome with
      | false => rfl
      | true =>
        have h1 := (hW z).1 e
        rw [hcat] at h1 hz
        obtain ⟨j2, hj2⟩ := List.getElem?_of_mem h1
        rw [List.getElem?_take] at hj2
        split at hj2
        · rename_i hlt
          obtain ⟨p1, q1⟩ := List.getElem?_eq_some_iff.1 hj2
          obtain ⟨p2, q2⟩ := List.getElem?_eq_some_iff.1 hz
          have := (List.getElem_inj hcn).1 (q1.trans q2.symm)
          omega
        · cases hj2
    have htk : (catL ss).take (y.j + 1) = (catL ss).take y.j ++ [z] := by rw [List.take_add_one, hz]; rfl
    have hT2 : ∀ z2 v, mget (mset y.m z (.bool true)) z2 = some v → v = .bool true := fun z2 v hv2 => by
      rw [mget_mset] at hv2
      split at hv2
      · cases hv2; rfl
      · exact hT z2 v hv2
    have hW2 : ∀ z2, (mget (mset y.m z (.bool true)) z2).isSome = true ↔ z2 ∈ (catL ss).take (y.j + 1) := fun z2 => by
      rw [mget_mset, htk, List.mem_append, List.mem_singleton, ← hW z2]
      by_cases e : z = z2
      · subst e; simp
      · rw [if_neg e]; simp [Ne.symm e]
    refine W.skip ?_
    refine N.next ?_
    refine W.seq ?_
    refine W.block ?_
    refine W.seq ?_
    refine W.region ?_
    refine RL.q (Yld.indexRow Try.underlying25 sz3 rfl rfl (by first | assumption | exact Own.sl (by assumption)) (by first | rfl | omega | (simp; done) | (simp; omega)) (by omega) (by first | omega | (simp; done) | (simp; omega))) rfl ?_
    refine RL.q (by first | exact (by first | exact Yld.loadRow1 (cl := 1) Try.underlying3 rfl rfl rfl (by first | assumption | exact Own.sl (by assumption)) (by assumption) | exact Yld.loadRow1 (cl := 2) Try.underlying3 rfl rfl rfl (by first | assumption | exact Own.sl (by assumption)) (by assumption) | exact Yld.loadRow1 (cl := 3) Try.underlying3 rfl rfl rfl (by first | assumption | exact Own.sl (by assumption)) (by assumption) | exact Yld.loadRow1 (cl := 90) Try.underlying3 rfl rfl rfl (by first | assumption | exact Own.sl (by assumption)) (by assumption) | exact Yld.loadRow1 (cl := 102) Try.underlying3 rfl rfl rfl (by first | assumption | exact Own.sl (by assumption)) (by assumption) | exact Yld.loadRow1 (cl := 106) Try.underlying3 rfl rfl rfl (by first | assumption | exact Own.sl (by assumption)) (by assumption) | exact Yld.loadRow1 (cl := 130) Try.underlying3 rfl rfl rfl (by first | assumption | exact Own.sl (by assumption)) (by assumption) | exact Yld.loadRow1 (cl := 116) Try.underlying3 rfl rfl rfl (by first | assumption | exact Own.sl (by assumption)) (by assumption)) | exact (by first | exact Yld.loadRowF (cl := 1) (j := 0) Try.underlying3 rfl rfl rfl (by first | assumption | exact Own.sl (by assumption)) (by assumption) rfl | exact Yld.loadRowF (cl := 2) (j := 0) Try.underlying3 rfl rfl rfl (by first | assumption | exact Own.sl (by assumption)) (by assumption) rfl | exact Yld.loadRowF (cl := 3) (j := 0) Try.underlying3 rfl rfl rfl (by first | assumption | exact Own.sl (by assumption)) (by assumption) rfl | exact Yld.loadRowF (cl := 90) (j := 0) Try.underlying3 rfl rfl rfl (by first | assumption | exact Own.sl (by assumption)) (by assumption) rfl | exact Yld.loadRowF (cl := 102) (j := 0) Try.underlying3 rfl rfl rfl (by first | assumption | exact Own.sl (by assumption)) (by assumption) rfl | exact Yld.loadRowF (cl := 106) (j := 0) Try.underlying3 rfl rfl rfl (by first | assumption | exact Own.sl (by assumption)) (by assumption) rfl | exact Yld.loadRowF (cl := 130) (j := 0) Try.underlying3 rfl rfl rfl (by first | assumption | exact Own.sl (by assumption)) (by assumption) rfl | exact Yld.loadRowF (cl := 116) (j := 0) Try.underlying3 rfl rfl rfl (by first | assumption | exact Own.sl (by assumption)) (by assumption) rfl)) rfl ?_
    refine RL.q (Yld.assign rfl) rfl ?_
    refine RL.nil ?_
    refine N.next ?_
    refine W.seq ?_
    refine W.seq ?_
    refine W.region ?_
    refine RL.q (Yld.move rfl) rfl ?_
    refine RL.q (Yld.bin rfl rfl BinV.lss) rfl ?_
    refine RL.q (Yld.move rfl) rfl ?_
    refine' RL.or (t := 26) (d := 31) 5 rfl (.cons (k := 1) rfl (.cons (k := 2) rfl (.cons (k := 6) rfl (.cons (k := 8) rfl (.cons (k := 18) rfl (.cons (k := 19) rfl (.cons (k := 20) rfl (.cons (k := 21) rfl (.cons (k := 22) rfl (.cons (k := 23) rfl (.cons (k := 24) rfl (.cons (k := 25) rfl .nil)))))))))))) (.cons (k := 0) rfl (.cons (k := 1) rfl (.cons (k := 2) rfl (.cons (k := 3) rfl (.cons (k := 90) rfl (.cons (k := 102) rfl (.cons (k := 106) rfl (.cons (k := 116) rfl (.cons (k := 130) rfl .nil))))))))) ?_ ?_ ?_
    rotate_left 1
    ·
      intro hg26
      refine RL.gq rfl rfl (Yld.move rfl) rfl ?_
      refine RL.gq rfl rfl (Yld.load1 (c := 102) Try.underlying22 rfl rfl rfl (by first | exact single_self _ _ | exact pset_self _ _ _ | assumption) rfl) rfl ?_
      refine RL.gq rfl rfl (Yld.lenSl Try.underlying22 rfl) rfl ?_
      refine RL.gq rfl rfl (Yld.bin rfl rfl BinV.geq) rfl ?_
      refine RL.q (by first | exact Yld.pickT rfl rfl | exact Yld.pickF rfl rfl) rfl ?_
      exact RL.nil (N.meet (.cons rfl (.cons rfl (.cons rfl (.cons rfl (.cons rfl (.cons rfl (.cons rfl (.cons rfl (.cons rfl (.cons rfl (.cons rfl (.cons rfl (.cons rfl .nil))))))))))))) (.cons rfl (.cons rfl (.cons rfl (.cons rfl (.cons rfl (.cons rfl (.cons rfl (.cons rfl (.cons rfl .nil))))))))))
    ·
      intro hg26
      refine RL.gskip rfl rfl rfl rfl ?_
      refine RL.gskip rfl rfl rfl rfl ?_
      refine RL.gskip rfl rfl rfl rfl ?_
      refine RL.gskip rfl rfl rfl rfl ?_
      refine RL.q (by first | exact Yld.pickT rfl rfl | exact Yld.pickF rfl rfl) rfl ?_
      exact RL.nil (N.meet (.cons rfl (.cons rfl (.cons rfl (.cons rfl (.cons rfl (.cons rfl (.cons rfl (.cons rfl (.cons rfl (.cons rfl (.cons rfl (.cons rfl (.cons rfl .nil))))))))))))) (.cons rfl (.cons rfl (.cons rfl (.cons rfl (.cons rfl (.cons rfl (.cons rfl (.cons rfl (.cons rfl .nil))))))))))
    refine RL.q (Yld.move rfl) rfl ?_
    refine' RL.or (t := 32) (d := 36) 4 rfl (.cons (k := 1) rfl (.cons (k := 2) rfl (.cons (k := 6) rfl (.cons (k := 8) rfl (.cons (k := 18) rfl (.cons (k := 19) rfl (.cons (k := 20) rfl (.cons (k := 21) rfl (.cons (k := 22) rfl (.cons (k := 23) rfl (.cons (k := 24) rfl (.cons (k := 25) rfl (.cons (k := 31) rfl .nil))))))))))))) (.cons (k := 0) rfl (.cons (k := 1) rfl (.cons (k := 2) rfl (.cons (k := 3) rfl (.cons (k := 90) rfl (.cons (k := 102) rfl (.cons (k := 106) rfl (.cons (k := 116) rfl (.cons (k := 130) rfl .nil))))))))) ?_ ?_ ?_
    rotate_left 1
    ·
      intro hg32
      refine RL.gq rfl rfl (Yld.load1 (c := 106) Try.underlying73 rfl rfl rfl (by first | exact single_self _ _ | exact pset_self _ _ _ | assumption) rfl) rfl ?_
      refine RL.gq rfl rfl (Yld.move rfl) rfl ?_
      refine RL.gq rfl rfl (Yld.eq (v' := .bool (mget y.m z).isSome) (Yld.lookup (c := 116) Try.underlying73 (keyInt Try.underlying3) zv4 rfl rfl rfl (by assumption)) (by cases e : mget y.m z with | none => rfl | some v => rw [hT z v e]; rfl)) rfl ?_
      refine RL.q (by first | exact Yld.pickT rfl rfl | exact Yld.pickF rfl rfl) rfl ?_
      exact RL.nil (N.meet (.cons rfl (.cons rfl (.cons rfl (.cons rfl (.cons rfl (.cons rfl (.cons rfl (.cons rfl (.cons rfl (.cons rfl (.cons rfl (.cons rfl (.cons rfl (.cons rfl .nil)))))))))))))) (.cons rfl (.cons rfl (.cons rfl (.cons rfl (.cons rfl (.cons rfl (.cons rfl (.cons rfl (.cons rfl .nil))))))))))
    ·
      intro hg32
      refine RL.gskip rfl rfl rfl rfl ?_
      refine RL.gskip rfl rfl rfl rfl ?_
      refine RL.gskip rfl rfl rfl rfl ?_
      refine RL.q (by first | exact Yld.pickT rfl rfl | exact Yld.pickF rfl rfl) rfl ?_
      exact RL.nil (N.meet (.cons rfl (.cons rfl (.cons rfl (.cons rfl (.cons rfl (.cons rfl (.cons rfl (.cons rfl (.cons rfl (.cons rfl (.cons rfl (.cons rfl (.cons rfl (.cons rfl .nil)))))))))))))) (.cons rfl (.cons rfl (.cons rfl (.cons rfl (.cons rfl (.cons rfl (.cons rfl (.cons rfl (.cons rfl .nil))))))))))
    refine RL.nil ?_
    refine N.next ?_
    refine W.keep (.cons (k := 1) rfl (.cons (k := 2) rfl (.cons (k := 6) rfl (.cons (k := 8) rfl (.cons (k := 18) rfl (.cons (k := 19) rfl (.cons (k := 20) rfl (.cons (k := 36) rfl .nil)))))))) (.cons (k := 0) rfl (.cons (k := 1) rfl (.cons (k := 2) rfl (.cons (k := 3) rfl (.cons (k := 90) rfl (.cons (k := 102) rfl (.cons (k := 106) rfl (.cons (k := 116) rfl (.cons (k := 130) rfl .nil))))))))) ?_
    refine W.cond rfl (fun hc36 => ?_) (fun hc36 => ?_)
    ·
      exfalso
      rw [hzn, Bool.or_false, Bool.or_eq_true, decide_eq_true_eq, decide_eq_true_eq] at hc36
      omega --stop
    ·
      refine W.skip ?_
      refine N.next ?_
      refine W.region ?_
      refine RL.q (Yld.load1 (c := 106) Try.underlying73 rfl rfl rfl (by first | exact single_self _ _ | exact pset_self _ _ _ | assumption) rfl) rfl ?_
      refine RL.q (Yld.move rfl) rfl ?_
      refine RL.e0 (Eff.mapUpdate (c := 116) Try.underlying73 (keyInt Try.underlying3) rfl rfl rfl rfl (by assumption)) ?_
      rintro _ _ ⟨es1, ck1, hM1, rfl⟩
      refine RL.nil ?_
      refine N.block_normal ?_
      refine N.next ?_
      refine W.keep (.cons (k := 1) rfl (.cons (k := 2) rfl (.cons (k := 6) rfl (.cons (k := 18) rfl (.cons (k := 19) rfl (.cons (k := 20) rfl .nil)))))) (.cons (k := 0) rfl (.cons (k := 1) rfl (.cons (k := 2) rfl (.cons (k := 3) rfl (.cons (k := 90) rfl (.cons (k := 102) rfl (.cons (k := 106) rfl (.cons (k := 116) rfl (.cons (k := 130) rfl .nil))))))))) ?_
      refine W.region ?_
      refine RL.q (Yld.bin rfl rfl (by first | exact BinV.add (by omega) (by omega) | exact BinV.addW)) rfl ?_
      refine RL.q (Yld.move rfl) rfl ?_
      refine RL.nil ?_
      exact N.famK ⟨y.j + 1, _, _, mset y.m z (.bool true)⟩ ⟨⟨by show y.j + 1 ≤ _; omega, by assumption, hT2, hW2⟩, by show _ - (y.j + 1) < _; omega⟩ (.as rfl (by first | rfl | (simp; done) | (congr 1; simp; done) | (congr 1; omega)) .nil) (.cons rfl (.cons rfl (.cons rfl (.cons rfl (.cons rfl .nil))))) (.cons rfl .nil) (.cons rfl (.cons rfl (.cons rfl (.cons rfl (.cons rfl (.cons rfl (.cons rfl (.cons rfl .nil))))))))
  ·
    have hend : y.j = (catL ss).length := by omega
    have hW0 : ∀ z, (mget y.m z).isSome = true ↔ ∃ w : Nat, z = (w : Int) ∧ Wt gs w := fun z => by
      rw [hW z, hend, List.take_length, hcat, zsN_mem]
      constructor
      · rintro ⟨w, e, h⟩; exact ⟨w, e, wt_mem.2 h⟩
      · rintro ⟨w, e, h⟩; exact ⟨w, e, wt_mem.1 h⟩
    refine W.exit ?_
    refine N.then_exit ?_
    refine N.then_exit ?_
    refine N.block_eq ?_
    refine N.next ?_
    refine W.keep (.cons (k := 1) rfl (.cons (k := 2) rfl (.cons (k := 6) rfl .nil))) (.cons (k := 0) rfl (.cons (k := 1) rfl (.cons (k := 2) rfl (.cons (k := 3) rfl (.cons (k := 90) rfl (.cons (k := 102) rfl (.cons (k := 106) rfl (.cons (k := 116) rfl (.cons (k := 130) rfl .nil))))))))) ?_
    refine W.seq ?_
    refine W.region ?_
    refine RL.q (Yld.makeFunc eval0 (eval2 rfl rfl)) rfl ?_
    refine RL.q (Yld.assign rfl) rfl ?_
    refine RL.nil ?_
    refine N.next ?_
    refine W.seq ?_
    refine W.region ?_
    refine RL.q (Yld.move rfl) rfl ?_
    refine RL.e (Eff.call ent39 [2] [2, 140] (.cons rfl .nil) (clone_ct ss (by omega) _ _ _ hG) rfl rfl rfl rfl (by rintro _ _ ⟨_, _, _, _, _, rfl⟩; rfl)) rfl ?_
    rintro _ _ ⟨_, ⟨Hh, ph, ch, rfl, hOh, rfl⟩, rfl⟩
    refine RL.q (Yld.assign rfl) rfl ?_
    refine RL.nil ?_
    refine N.next ?_
    refine W.keep (.cons (k := 6) rfl (.cons (k := 9) rfl (.cons (k := 10) rfl .nil))) (.cons (k := 0) rfl (.cons (k := 1) rfl (.cons (k := 2) rfl (.cons (k := 3) rfl (.cons (k := 90) rfl (.cons (k := 102) rfl (.cons (k := 106) rfl (.cons (k := 116) rfl (.cons (k := 130) rfl (.cons (k := 140) rfl .nil)))))))))) ?_
    refine W.seq ?_
    refine W.region ?_
    refine RL.q (Yld.assign rfl) rfl ?_
    refine RL.nil ?_
    refine N.next ?_
    refine W.seq ?_
    refine W.block ?_
    refine W.loopK (ι := ME) (fun x => (MapP (fun a : Int => Value.int .i64 a) x.es x.ck x.m ∧ WMok x.m x.hs ∧ MI l (keysO l) gs x.hs x.out ∧ Own x.Hh ph ch 25 1 (x.hh.map SV) ∧ x.hh.length = ss.length ∧ x.hh.map (·.2.2) = x.hs.map zsN ∧ (∀ s ∈ x.hh, Sl H s.1 s.2.1 1 (iz s.2.2)) ∧ Own x.Ho x.po x.co 3 1 (iz (zsN x.out)))) (fun x => [(11, .slice x.po (zsN x.out).length x.co)]) (fun x => [(90, x.Ho), (116, single b16 (.map x.es x.ck)), (140, x.Hh)]) (fun x => l.length - x.out.length) (.cons (k := 6) rfl (.cons (k := 9) rfl (.cons (k := 10) rfl .nil))) (.cons (k := 0) rfl (.cons (k := 1) rfl (.cons (k := 2) rfl (.cons (k := 3) rfl (.cons (k := 102) rfl (.cons (k := 106) rfl (.cons (k := 130) rfl .nil))))))) ⟨y.es, y.ck, y.m, ss, Hh, gs, [], emp, none, 0⟩ ?_ ?_ ?_ ?_
    · exact ⟨hM, ⟨hT, hW0⟩, MI.start, hOh, rfl, hss, hH, Own.nil _ _⟩
    · exact (.as rfl (by first | rfl | (simp; done) | (congr 1; simp; done) | (congr 1; omega)) .nil)
    · exact (.cons rfl (.cons rfl (.cons rfl .nil)))
    rintro x ⟨hM, hW, hMI, hHh, hhl, hhs, hHs, hOo⟩
    refine W.keep (.cons (k := 11) rfl (.cons (k := 6) rfl (.cons (k := 9) rfl (.cons (k := 10) rfl .nil)))) (.cons (k := 90) rfl (.cons (k := 116) rfl (.cons (k := 140) rfl (.cons (k := 0) rfl (.cons (k := 1) rfl (.cons (k := 2) rfl (.cons (k := 3) rfl (.cons (k := 102) rfl (.cons (k := 106) rfl (.cons (k := 130) rfl .nil)))))))))) ?_
    refine W.seq ?_
    refine W.seq ?_
    refine W.region ?_
    refine RL.q (Yld.load1 (c := 106) Try.underlying73 rfl rfl rfl (by first | exact single_self _ _ | exact pset_self _ _ _ | assumption) rfl) rfl ?_
    refine RL.q (Yld.lenM (c := 116) Try.underlying73 rfl rfl (by assumption)) rfl ?_
    refine RL.q (Yld.bin rfl rfl BinV.gtr) rfl ?_
    refine RL.nil ?_
    refine N.next ?_
    first | refine W.condD rfl (fun hc45 => ?_) (fun hc45 => ?_) | (refine W.cond rfl (fun hc45 => ?_) (fun hc45 => ?_) <;> try simp only [Bool.or_eq_true, Bool.and_eq_true, Bool.not_eq_true', Bool.not_eq_false', decide_eq_true_eq, Bool.or_eq_false_iff, Bool.and_eq_false_iff, decide_eq_false_iff_not, beq_iff_eq, beq_eq_false_iff_ne, ne_eq, Decidable.not_not] at hc45)
    ·
      have hhsl : x.hs.length = x.hh.length := by have := congrArg List.length hhs; simpa using this.symm
      obtain ⟨w0, hw0⟩ : ∃ w, Wt x.hs w := by
        cases hm : x.m with
        | nil => rw [hm] at hc45; simp at hc45
        | cons e m2 =>
          have he : mget x.m e.1 = some e.2 := by rw [hm]; simp [mget]
          obtain ⟨w, _, hw⟩ := (hW.2 e.1).1 (by rw [he]; rfl)
          exact ⟨w, hw⟩
      refine W.skip ?_
      refine N.next ?_
      refine W.block ?_
      refine W.seq ?_
      refine W.region ?_
      refine RL.q (Yld.assign rfl) rfl ?_
      refine RL.nil ?_
      refine N.next ?_
      refine W.seq ?_
      refine W.seq ?_
      refine W.region ?_
      refine RL.q (Yld.move rfl) rfl ?_
      refine RL.q (Yld.lenSl Try.underlying31 rfl) rfl ?_
      refine RL.q (Yld.move rfl) rfl ?_
      refine RL.nil ?_
      refine N.next ?_
      refine W.block ?_
      refine W.loopK (ι := NB) (fun y => (y.n ≤ ss.length ∧ BestI l x.hs y.n y.b)) (fun y => [(12, .int .i64 y.b), (48, .int .i64 (y.n : Nat))]) (fun y => []) (fun y => ss.length - y.n) (.cons (k := 6) rfl (.cons (k := 9) rfl (.cons (k := 10) rfl (.cons (k := 11) rfl (.cons (k := 46) rfl (.cons (k := 47) rfl .nil)))))) (.cons (k := 0) rfl (.cons (k := 1) rfl (.cons (k := 2) rfl (.cons (k := 3) rfl (.cons (k := 90) rfl (.cons (k := 102) rfl (.cons (k := 106) rfl (.cons (k := 116) rfl (.cons (k := 130) rfl (.cons (k := 140) rfl .nil)))))))))) ⟨0, -1⟩ ?_ ?_ ?_ ?_
      · exact ⟨Nat.zero_le _, .inl ⟨rfl, fun n i r h => absurd h (Nat.not_lt_zero _)⟩⟩
      · exact (.as rfl (by first | rfl | (simp; done) | (congr 1; simp; done) | (congr 1; omega)) (.as rfl (by first | rfl | (simp; done) | (congr 1; simp; done) | (congr 1; omega)) .nil))
      · exact .nil
      rintro y ⟨hn, hB⟩
      refine W.keep (.cons (k := 12) rfl (.cons (k := 48) rfl (.cons (k := 6) rfl (.cons (k := 9) rfl (.cons (k := 10) rfl (.cons (k := 11) rfl (.cons (k := 46) rfl (.cons (k := 47) rfl .nil)))))))) (.cons (k := 0) rfl (.cons (k := 1) rfl (.cons (k := 2) rfl (.cons (k := 3) rfl (.cons (k := 90) rfl (.cons (k := 102) rfl (.cons (k := 106) rfl (.cons (k := 116) rfl (.cons (k := 130) rfl (.cons (k := 140) rfl .nil)))))))))) ?_
      refine W.seq ?_
      refine W.region ?_
      refine RL.q (Yld.bin rfl rfl BinV.lss) rfl ?_
      refine RL.nil ?_
      refine N.next ?_
      refine W.seq ?_
      first | refine W.condD rfl (fun hc49 => ?_) (fun hc49 => ?_) | (refine W.cond rfl (fun hc49 => ?_) (fun hc49 => ?_) <;> try simp only [Bool.or_eq_true, Bool.and_eq_true, Bool.not_eq_true', Bool.not_eq_false', decide_eq_true_eq, Bool.or_eq_false_iff, Bool.and_eq_false_iff, decide_eq_false_iff_not, beq_iff_eq, beq_eq_false_iff_ne, ne_eq, Decidable.not_not] at hc49)
      ·
        obtain ⟨s, hs, hls⟩ := sb_at (show y.n < x.hh.length by omega)
        obtain ⟨g, hg, hsg⟩ := row_hs hhs hs
        have hSs := hHs s (List.mem_of_getElem? hs)
        have hsl := hSs.len_le
        simp only [iz_len, maxLen] at hsl
        have hhead : 0 < s.2.2.length → ∃ i r, g = i :: r ∧ (s.2.2.getD 0 0) = (i : Int) ∧ i < l.length := fun h => by
          rw [hsg] at h ⊢
          cases g with
          | nil => simp [zsN] at h
          | cons i r => exact ⟨i, r, rfl, rfl, hMI.lt R.G ⟨y.n, _, hg, by simp⟩⟩
        refine W.skip ?_
        refine N.next ?_
        refine W.seq ?_
        refine W.block ?_
        refine W.seq ?_
        refine W.region ?_
        refine RL.q (Yld.move rfl) rfl ?_
        refine RL.q (Yld.indexRow Try.underlying31 sz25 rfl rfl (by first | assumption | exact Own.sl (by assumption)) (by first | rfl | omega | (simp; done) | (simp; omega)) (by omega) (by first | omega | (simp; done) | (simp; omega))) rfl ?_
        refine RL.q (by first | exact (by first | exact Yld.loadRow1 (cl := 1) Try.underlying25 rfl rfl rfl (by first | assumption | exact Own.sl (by assumption)) (by assumption) | exact Yld.loadRow1 (cl := 2) Try.underlying25 rfl rfl rfl (by first | assumption | exact Own.sl (by assumption)) (by assumption) | exact Yld.loadRow1 (cl := 3) Try.underlying25 rfl rfl rfl (by first | assumption | exact Own.sl (by assumption)) (by assumption) | exact Yld.loadRow1 (cl := 90) Try.underlying25 rfl rfl rfl (by first | assumption | exact Own.sl (by assumption)) (by assumption) | exact Yld.loadRow1 (cl := 102) Try.underlying25 rfl rfl rfl (by first | assumption | exact Own.sl (by assumption)) (by assumption) | exact Yld.loadRow1 (cl := 106) Try.underlying25 rfl rfl rfl (by first | assumption | exact Own.sl (by assumption)) (by assumption) | exact Yld.loadRow1 (cl := 116) Try.underlying25 rfl rfl rfl (by first | assumption | exact Own.sl (by assumption)) (by assumption) | exact Yld.loadRow1 (cl := 130) Try.underlying25 rfl rfl rfl (by first | assumption | exact Own.sl (by assumption)) (by assumption) | exact Yld.loadRow1 (cl := 140) Try.underlying25 rfl rfl rfl (by first | assumption | exact Own.sl (by assumption)) (by assumption)) | exact (by first | exact Yld.loadRowF (cl := 1) (j := 0) Try.underlying25 rfl rfl rfl (by first | assumption | exact Own.sl (by assumption)) (by assumption) rfl | exact Yld.loadRowF (cl := 2) (j := 0) Try.underlying25 rfl rfl rfl (by first | assumption | exact Own.sl (by assumption)) (by assumption) rfl | exact Yld.loadRowF (cl := 3) (j := 0) Try.underlying25 rfl rfl rfl (by first | assumption | exact Own.sl (by assumption)) (by assumption) rfl | exact Yld.loadRowF (cl := 90) (j := 0) Try.underlying25 rfl rfl rfl (by first | assumption | exact Own.sl (by assumption)) (by assumption) rfl | exact Yld.loadRowF (cl := 102) (j := 0) Try.underlying25 rfl rfl rfl (by first | assumption | exact Own.sl (by assumption)) (by assumption) rfl | exact Yld.loadRowF (cl := 106) (j := 0) Try.underlying25 rfl rfl rfl (by first | assumption | exact Own.sl (by assumption)) (by assumption) rfl | exact Yld.loadRowF (cl := 116) (j := 0) Try.underlying25 rfl rfl rfl (by first | assumption | exact Own.sl (by assumption)) (by assumption) rfl | exact Yld.loadRowF (cl := 130) (j := 0) Try.underlying25 rfl rfl rfl (by first | assumption | exact Own.sl (by assumption)) (by assumption) rfl | exact Yld.loadRowF (cl := 140) (j := 0) Try.underlying25 rfl rfl rfl (by first | assumption | exact Own.sl (by assumption)) (by assumption) rfl)) rfl ?_
        refine RL.q (Yld.assign rfl) rfl ?_
        refine RL.q (Yld.assign rfl) rfl ?_
        refine RL.nil ?_
        refine N.next ?_
        refine W.keep (.cons (k := 6) rfl (.cons (k := 9) rfl (.cons (k := 10) rfl (.cons (k := 11) rfl (.cons (k := 12) rfl (.cons (k := 13) rfl (.cons (k := 14) rfl (.cons (k := 46) rfl (.cons (k := 47) rfl (.cons (k := 48) rfl .nil)))))))))) (.cons (k := 0) rfl (.cons (k := 1) rfl (.cons (k := 2) rfl (.cons (k := 3) rfl (.cons (k := 90) rfl (.cons (k := 102) rfl (.cons (k := 106) rfl (.cons (k := 116) rfl (.cons (k := 130) rfl (.cons (k := 140) rfl .nil)))))))))) ?_
        refine W.seq ?_
        refine W.draw (.q 0 (.q 1 (.q 2 (.q 3 (.q 4 (.q 5 (.q 6 (.q 7 (.q 8 (.q 9 (.q 10 (.q 11 (.q 12 (.q 13 (.q 14 (.q 15 (.q 16 (.q 17 (.q 18 (.q 19 (.q 20 (.q 21 (.q 22 (.q 23 (.one 24 (.q 25 .done)))))))))))))))))))))))))) (.cons (k := 0) rfl (.cons (k := 2) rfl (.cons (k := 3) rfl (.cons (k := 90) rfl (.cons (k := 130) rfl (.cons (k := 140) rfl .nil)))))) mix (by kernel_rfl) (by kernel_rfl) ?_
        refine DL.q rfl (Yld.move rfl) rfl ?_
        refine DL.q rfl (Yld.lenSl Try.underlying25 rfl) rfl ?_
        refine DL.q rfl (Yld.bin rfl rfl BinV.gtr) rfl ?_
        refine DL.q rfl (Yld.move rfl) rfl ?_
        refine' DL.and (t := 56) (d := 71) 15 rfl (.cons (k := 6) rfl (.cons (k := 9) rfl (.cons (k := 10) rfl (.cons (k := 11) rfl (.cons (k := 12) rfl (.cons (k := 13) rfl (.cons (k := 14) rfl (.cons (k := 46) rfl (.cons (k := 47) rfl (.cons (k := 48) rfl (.cons (k := 53) rfl (.cons (k := 54) rfl (.cons (k := 55) rfl .nil))))))))))))) (.cons (k := 0) rfl (.cons (k := 1) rfl (.cons (k := 2) rfl (.cons (k := 3) rfl (.cons (k := 90) rfl (.cons (k := 102) rfl (.cons (k := 106) rfl (.cons (k := 116) rfl (.cons (k := 130) rfl (.cons (k := 140) rfl .nil)))))))))) ?_ ?_ ?_
        rotate_left 1
        ·
          intro hg56
          have hg56 := of_decide_eq_true hg56
          have hl0 := iz_getD (l := s.2.2) (i := 0) (by omega)
          refine DL.gq rfl rfl rfl (Yld.move rfl) rfl ?_
          refine DL.gq rfl rfl rfl (Yld.bin rfl rfl BinV.lss) rfl ?_
          refine DL.gq rfl rfl rfl (Yld.move rfl) rfl ?_
          refine' DL.or (t := 59) (d := 70) 11 rfl (.cons (k := 6) rfl (.cons (k := 9) rfl (.cons (k := 10) rfl (.cons (k := 11) rfl (.cons (k := 12) rfl (.cons (k := 13) rfl (.cons (k := 14) rfl (.cons (k := 46) rfl (.cons (k := 47) rfl (.cons (k := 48) rfl (.cons (k := 53) rfl (.cons (k := 54) rfl (.cons (k := 55) rfl (.cons (k := 56) rfl (.cons (k := 57) rfl (.cons (k := 58) rfl .nil)))))))))))))))) (.cons (k := 0) rfl (.cons (k := 1) rfl (.cons (k := 2) rfl (.cons (k := 3) rfl (.cons (k := 90) rfl (.cons (k := 102) rfl (.cons (k := 106) rfl (.cons (k := 116) rfl (.cons (k := 130) rfl (.cons (k := 140) rfl .nil)))))))))) ?_ ?_ ?_
          rotate_left 1
          ·
            intro hg59
            have hg59 := of_decide_eq_false hg59
            obtain ⟨nb2, ib, rb, hb1, hb2, hb3, hb4⟩ := hB.resolve_left (fun h => by have := h.1; omega)
            obtain ⟨sb, hsb, hlsb⟩ := sb_at (show nb2 < x.hh.length by omega)
            obtain ⟨gb, hgb, hsgb⟩ := row_hs hhs hsb
            have hsbd : (x.hh.getD y.b.toNat (none, 0, [])) = sb := by rw [hb1, Int.toNat_natCast, List.getD_eq_getElem?_getD, hsb]; rfl
            have hzb0 : 0 < sb.2.2.length := by rw [hsgb]; cases hgb.symm.trans hb3; simp [zsN]
            have hSb := hHs sb (List.mem_of_getElem? hsb)
            rw [hb3] at hgb; cases hgb
            have hlb0 := iz_getD (l := sb.2.2) (i := 0) (by rw [hsgb]; simp [zsN])
            rw [← hsbd] at hlsb hSb hlb0 hzb0
            have hzb1 : 0 < (iz (x.hh.getD y.b.toNat (none, 0, [])).2.2).length := by rw [iz_len]; exact hzb0
            rw [show nb2 = y.b.toNat by omega] at hlsb
            refine DL.gq rfl rfl rfl (Yld.move rfl) rfl ?_
            refine DL.gq rfl rfl rfl (Yld.indexRow Try.underlying25 sz3 rfl rfl (by first | assumption | exact Own.sl (by assumption)) (by first | rfl | omega | (simp; done) | (simp; omega)) (by omega) (by first | omega | (simp; done) | (simp; omega))) rfl ?_
            refine DL.gq rfl rfl rfl (by first | exact (by first | exact Yld.loadRow1 (cl := 1) Try.underlying3 rfl rfl rfl (by first | assumption | exact Own.sl (by assumption)) (by assumption) | exact Yld.loadRow1 (cl := 2) Try.underlying3 rfl rfl rfl (by first | assumption | exact Own.sl (by assumption)) (by assumption) | exact Yld.loadRow1 (cl := 3) Try.underlying3 rfl rfl rfl (by first | assumption | exact Own.sl (by assumption)) (by assumption) | exact Yld.loadRow1 (cl := 90) Try.underlying3 rfl rfl rfl (by first | assumption | exact Own.sl (by assumption)) (by assumption) | exact Yld.loadRow1 (cl := 102) Try.underlying3 rfl rfl rfl (by first | assumption | exact Own.sl (by assumption)) (by assumption) | exact Yld.loadRow1 (cl := 106) Try.underlying3 rfl rfl rfl (by first | assumption | exact Own.sl (by assumption)) (by assumption) | exact Yld.loadRow1 (cl := 116) Try.underlying3 rfl rfl rfl (by first | assumption | exact Own.sl (by assumption)) (by assumption) | exact Yld.loadRow1 (cl := 130) Try.underlying3 rfl rfl rfl (by first | assumption | exact Own.sl (by assumption)) (by assumption) | exact Yld.loadRow1 (cl := 140) Try.underlying3 rfl rfl rfl (by first | assumption | exact Own.sl (by assumption)) (by assumption)) | exact (by first | exact Yld.loadRowF (cl := 1) (j := 0) Try.underlying3 rfl rfl rfl (by first | assumption | exact Own.sl (by assumption)) (by assumption) rfl | exact Yld.loadRowF (cl := 2) (j := 0) Try.underlying3 rfl rfl rfl (by first | assumption | exact Own.sl (by assumption)) (by assumption) rfl | exact Yld.loadRowF (cl := 3) (j := 0) Try.underlying3 rfl rfl rfl (by first | assumption | exact Own.sl (by assumption)) (by assumption) rfl | exact Yld.loadRowF (cl := 90) (j := 0) Try.underlying3 rfl rfl rfl (by first | assumption | exact Own.sl (by assumption)) (by assumption) rfl | exact Yld.loadRowF (cl := 102) (j := 0) Try.underlying3 rfl rfl rfl (by first | assumption | exact Own.sl (by assumption)) (by assumption) rfl | exact Yld.loadRowF (cl := 106) (j := 0) Try.underlying3 rfl rfl rfl (by first | assumption | exact Own.sl (by assumption)) (by assumption) rfl | exact Yld.loadRowF (cl := 116) (j := 0) Try.underlying3 rfl rfl rfl (by first | assumption | exact Own.sl (by assumption)) (by assumption) rfl | exact Yld.loadRowF (cl := 130) (j := 0) Try.underlying3 rfl rfl rfl (by first | assumption | exact Own.sl (by assumption)) (by assumption) rfl | exact Yld.loadRowF (cl := 140) (j := 0) Try.underlying3 rfl rfl rfl (by first | assumption | exact Own.sl (by assumption)) (by assumption) rfl)) rfl ?_
            refine DL.gq rfl rfl rfl (Yld.move rfl) rfl ?_
            refine DL.gq rfl rfl rfl (Yld.move rfl) rfl ?_
            refine DL.gq rfl rfl rfl (Yld.indexRow Try.underlying31 sz25 rfl rfl (by first | assumption | exact Own.sl (by assumption)) (by first | rfl | omega | (simp; done) | (simp; omega)) (by omega) (by first | omega | (simp; done) | (simp; omega))) rfl ?_
            refine DL.gq rfl rfl rfl (by first | exact (by first | exact Yld.loadRow1 (cl := 1) Try.underlying25 rfl rfl rfl (by first | assumption | exact Own.sl (by assumption)) (by assumption) | exact Yld.loadRow1 (cl := 2) Try.underlying25 rfl rfl rfl (by first | assumption | exact Own.sl (by assumption)) (by assumption) | exact Yld.loadRow1 (cl := 3) Try.underlying25 rfl rfl rfl (by first | assumption | exact Own.sl (by assumption)) (by assumption) | exact Yld.loadRow1 (cl := 90) Try.underlying25 rfl rfl rfl (by first | assumption | exact Own.sl (by assumption)) (by assumption) | exact Yld.loadRow1 (cl := 102) Try.underlying25 rfl rfl rfl (by first | assumption | exact Own.sl (by assumption)) (by assumption) | exact Yld.loadRow1 (cl := 106) Try.underlying25 rfl rfl rfl (by first | assumption | exact Own.sl (by assumption)) (by assumption) | exact Yld.loadRow1 (cl := 116) Try.underlying25 rfl rfl rfl (by first | assumption | exact Own.sl (by assumption)) (by assumption) | exact Yld.loadRow1 (cl := 130) Try.underlying25 rfl rfl rfl (by first | assumption | exact Own.sl (by assumption)) (by assumption) | exact Yld.loadRow1 (cl := 140) Try.underlying25 rfl rfl rfl (by first | assumption | exact Own.sl (by assumption)) (by assumption)) | exact (by first | exact Yld.loadRowF (cl := 1) (j := 0) Try.underlying25 rfl rfl rfl (by first | assumption | exact Own.sl (by assumption)) (by assumption) rfl | exact Yld.loadRowF (cl := 2) (j := 0) Try.underlying25 rfl rfl rfl (by first | assumption | exact Own.sl (by assumption)) (by assumption) rfl | exact Yld.loadRowF (cl := 3) (j := 0) Try.underlying25 rfl rfl rfl (by first | assumption | exact Own.sl (by assumption)) (by assumption) rfl | exact Yld.loadRowF (cl := 90) (j := 0) Try.underlying25 rfl rfl rfl (by first | assumption | exact Own.sl (by assumption)) (by assumption) rfl | exact Yld.loadRowF (cl := 102) (j := 0) Try.underlying25 rfl rfl rfl (by first | assumption | exact Own.sl (by assumption)) (by assumption) rfl | exact Yld.loadRowF (cl := 106) (j := 0) Try.underlying25 rfl rfl rfl (by first | assumption | exact Own.sl (by assumption)) (by assumption) rfl | exact Yld.loadRowF (cl := 116) (j := 0) Try.underlying25 rfl rfl rfl (by first | assumption | exact Own.sl (by assumption)) (by assumption) rfl | exact Yld.loadRowF (cl := 130) (j := 0) Try.underlying25 rfl rfl rfl (by first | assumption | exact Own.sl (by assumption)) (by assumption) rfl | exact Yld.loadRowF (cl := 140) (j := 0) Try.underlying25 rfl rfl rfl (by first | assumption | exact Own.sl (by assumption)) (by assumption) rfl)) rfl ?_
            refine DL.gq rfl rfl rfl (Yld.indexRow Try.underlying25 sz3 rfl rfl (by first | assumption | exact Own.sl (by assumption)) (by first | rfl | omega | (simp; done) | (simp; omega)) (by omega) (by first | omega | (simp; done) | (simp; omega))) rfl ?_
            refine DL.gq rfl rfl rfl (by first | exact (by first | exact Yld.loadRow1 (cl := 1) Try.underlying3 rfl rfl rfl (by first | assumption | exact Own.sl (by assumption)) (by assumption) | exact Yld.loadRow1 (cl := 2) Try.underlying3 rfl rfl rfl (by first | assumption | exact Own.sl (by assumption)) (by assumption) | exact Yld.loadRow1 (cl := 3) Try.underlying3 rfl rfl rfl (by first | assumption | exact Own.sl (by assumption)) (by assumption) | exact Yld.loadRow1 (cl := 90) Try.underlying3 rfl rfl rfl (by first | assumption | exact Own.sl (by assumption)) (by assumption) | exact Yld.loadRow1 (cl := 102) Try.underlying3 rfl rfl rfl (by first | assumption | exact Own.sl (by assumption)) (by assumption) | exact Yld.loadRow1 (cl := 106) Try.underlying3 rfl rfl rfl (by first | assumption | exact Own.sl (by assumption)) (by assumption) | exact Yld.loadRow1 (cl := 116) Try.underlying3 rfl rfl rfl (by first | assumption | exact Own.sl (by assumption)) (by assumption) | exact Yld.loadRow1 (cl := 130) Try.underlying3 rfl rfl rfl (by first | assumption | exact Own.sl (by assumption)) (by assumption) | exact Yld.loadRow1 (cl := 140) Try.underlying3 rfl rfl rfl (by first | assumption | exact Own.sl (by assumption)) (by assumption)) | exact (by first | exact Yld.loadRowF (cl := 1) (j := 0) Try.underlying3 rfl rfl rfl (by first | assumption | exact Own.sl (by assumption)) (by assumption) rfl | exact Yld.loadRowF (cl := 2) (j := 0) Try.underlying3 rfl rfl rfl (by first | assumption | exact Own.sl (by assumption)) (by assumption) rfl | exact Yld.loadRowF (cl := 3) (j := 0) Try.underlying3 rfl rfl rfl (by first | assumption | exact Own.sl (by assumption)) (by assumption) rfl | exact Yld.loadRowF (cl := 90) (j := 0) Try.underlying3 rfl rfl rfl (by first | assumption | exact Own.sl (by assumption)) (by assumption) rfl | exact Yld.loadRowF (cl := 102) (j := 0) Try.underlying3 rfl rfl rfl (by first | assumption | exact Own.sl (by assumption)) (by assumption) rfl | exact Yld.loadRowF (cl := 106) (j := 0) Try.underlying3 rfl rfl rfl (by first | assumption | exact Own.sl (by assumption)) (by assumption) rfl | exact Yld.loadRowF (cl := 116) (j := 0) Try.underlying3 rfl rfl rfl (by first | assumption | exact Own.sl (by assumption)) (by assumption) rfl | exact Yld.loadRowF (cl := 130) (j := 0) Try.underlying3 rfl rfl rfl (by first | assumption | exact Own.sl (by assumption)) (by assumption) rfl | exact Yld.loadRowF (cl := 140) (j := 0) Try.underlying3 rfl rfl rfl (by first | assumption | exact Own.sl (by assumption)) (by assumption) rfl)) rfl ?_
            refine DL.gq rfl rfl rfl (Yld.bin rfl rfl BinV.lss) rfl ?_
            refine DL.gq rfl rfl rfl (by first | exact Yld.pickT rfl rfl | exact Yld.pickF rfl rfl) rfl ?_
            exact DL.meet (.cons rfl (.cons rfl (.cons rfl (.cons rfl (.cons rfl (.cons rfl (.cons rfl (.cons rfl (.cons rfl (.cons rfl (.cons rfl (.cons rfl (.cons rfl (.cons rfl (.cons rfl (.cons rfl (.cons rfl .nil))))))))))))))))) (.cons rfl (.cons rfl (.cons rfl (.cons rfl (.cons rfl (.cons rfl (.cons rfl (.cons rfl (.cons rfl (.cons rfl .nil))))))))))
          ·
            intro hg59
            refine DL.gskip rfl rfl rfl rfl rfl ?_
            refine DL.gskip rfl rfl rfl rfl rfl ?_
            refine DL.gskip rfl rfl rfl rfl rfl ?_
            refine DL.gskip rfl rfl rfl rfl rfl ?_
            refine DL.gskip rfl rfl rfl rfl rfl ?_
            refine DL.gskip rfl rfl rfl rfl rfl ?_
            refine DL.gskip rfl rfl rfl rfl rfl ?_
            refine DL.gskip rfl rfl rfl rfl rfl ?_
            refine DL.gskip rfl rfl rfl rfl rfl ?_
            refine DL.gskip rfl rfl rfl rfl rfl ?_
            refine DL.gq rfl rfl rfl (by first | exact Yld.pickT rfl rfl | exact Yld.pickF rfl rfl) rfl ?_
            exact DL.meet (.cons rfl (.cons rfl (.cons rfl (.cons rfl (.cons rfl (.cons rfl (.cons rfl (.cons rfl (.cons rfl (.cons rfl (.cons rfl (.cons rfl (.cons rfl (.cons rfl (.cons rfl (.cons rfl (.cons rfl .nil))))))))))))))))) (.cons rfl (.cons rfl (.cons rfl (.cons rfl (.cons rfl (.cons rfl (.cons rfl (.cons rfl (.cons rfl (.cons rfl .nil))))))))))
          refine DL.q rfl (by first | exact Yld.pickT rfl rfl | exact Yld.pickF rfl rfl) rfl ?_
          exact DL.meet (.cons rfl (.cons rfl (.cons rfl (.cons rfl (.cons rfl (.cons rfl (.cons rfl (.cons rfl (.cons rfl (.cons rfl (.cons rfl (.cons rfl (.cons rfl (.cons rfl .nil)))))))))))))) (.cons rfl (.cons rfl (.cons rfl (.cons rfl (.cons rfl (.cons rfl (.cons rfl (.cons rfl (.cons rfl (.cons rfl .nil))))))))))
        ·
          intro hg56
          refine DL.gskip rfl rfl rfl rfl rfl ?_
          refine DL.gskip rfl rfl rfl rfl rfl ?_
          refine DL.gskip rfl rfl rfl rfl rfl ?_
          refine DL.gskipU rfl rfl rfl rfl ?_
          refine DL.gskipU rfl rfl rfl rfl ?_
          refine DL.gskipU rfl rfl rfl rfl ?_
          refine DL.gskipU rfl rfl rfl rfl ?_
          refine DL.gskipU rfl rfl rfl rfl ?_
          refine DL.gskipU rfl rfl rfl rfl ?_
          refine DL.gskipU rfl rfl rfl rfl ?_
          refine DL.gskipU rfl rfl rfl rfl ?_
          refine DL.gskipU rfl rfl rfl rfl ?_
          refine DL.gskipU rfl rfl rfl rfl ?_
          refine DL.gskip rfl rfl rfl rfl rfl ?_
          refine DL.q rfl (by first | exact Yld.pickT rfl rfl | exact Yld.pickF rfl rfl) rfl ?_
          exact DL.meet (.cons rfl (.cons rfl (.cons rfl (.cons rfl (.cons rfl (.cons rfl (.cons rfl (.cons rfl (.cons rfl (.cons rfl (.cons rfl (.cons rfl (.cons rfl (.cons rfl .nil)))))))))))))) (.cons rfl (.cons rfl (.cons rfl (.cons rfl (.cons rfl (.cons rfl (.cons rfl (.cons rfl (.cons rfl (.cons rfl .nil))))))))))
        refine DL.q rfl (Yld.move rfl) rfl ?_
        refine' DL.and (t := 72) (d := 78) 6 rfl (.cons (k := 6) rfl (.cons (k := 9) rfl (.cons (k := 10) rfl (.cons (k := 11) rfl (.cons (k := 12) rfl (.cons (k := 13) rfl (.cons (k := 14) rfl (.cons (k := 46) rfl (.cons (k := 47) rfl (.cons (k := 48) rfl (.cons (k := 53) rfl (.cons (k := 54) rfl (.cons (k := 55) rfl (.cons (k := 71) rfl .nil)))))))))))))) (.cons (k := 0) rfl (.cons (k := 1) rfl (.cons (k := 2) rfl (.cons (k := 3) rfl (.cons (k := 90) rfl (.cons (k := 102) rfl (.cons (k := 106) rfl (.cons (k := 116) rfl (.cons (k := 130) rfl (.cons (k := 140) rfl .nil)))))))))) ?_ ?_ ?_
        rotate_left 1
        ·
          intro hg72
          have hlen0 : 0 < s.2.2.length := by
            rw [Bool.and_eq_true] at hg72
            have := of_decide_eq_true hg72.1
            omega
          obtain ⟨i, r, hgi, hzi, hil⟩ := hhead hlen0
          have hl0 := iz_getD (l := s.2.2) (i := 0) hlen0
          refine DL.gq rfl rfl rfl (Yld.move rfl) rfl ?_
          refine DL.gq rfl rfl rfl (Yld.move rfl) rfl ?_
          refine DL.gq rfl rfl rfl (Yld.indexRow Try.underlying25 sz3 rfl rfl (by first | assumption | exact Own.sl (by assumption)) (by first | rfl | omega | (simp; done) | (simp; omega)) (by omega) (by first | omega | (simp; done) | (simp; omega))) rfl ?_
          refine DL.gq rfl rfl rfl (by first | exact (by first | exact Yld.loadRow1 (cl := 1) Try.underlying3 rfl rfl rfl (by first | assumption | exact Own.sl (by assumption)) (by assumption) | exact Yld.loadRow1 (cl := 2) Try.underlying3 rfl rfl rfl (by first | assumption | exact Own.sl (by assumption)) (by assumption) | exact Yld.loadRow1 (cl := 3) Try.underlying3 rfl rfl rfl (by first | assumption | exact Own.sl (by assumption)) (by assumption) | exact Yld.loadRow1 (cl := 90) Try.underlying3 rfl rfl rfl (by first | assumption | exact Own.sl (by assumption)) (by assumption) | exact Yld.loadRow1 (cl := 102) Try.underlying3 rfl rfl rfl (by first | assumption | exact Own.sl (by assumption)) (by assumption) | exact Yld.loadRow1 (cl := 106) Try.underlying3 rfl rfl rfl (by first | assumption | exact Own.sl (by assumption)) (by assumption) | exact Yld.loadRow1 (cl := 116) Try.underlying3 rfl rfl rfl (by first | assumption | exact Own.sl (by assumption)) (by assumption) | exact Yld.loadRow1 (cl := 130) Try.underlying3 rfl rfl rfl (by first | assumption | exact Own.sl (by assumption)) (by assumption) | exact Yld.loadRow1 (cl := 140) Try.underlying3 rfl rfl rfl (by first | assumption | exact Own.sl (by assumption)) (by assumption)) | exact (by first | exact Yld.loadRowF (cl := 1) (j := 0) Try.underlying3 rfl rfl rfl (by first | assumption | exact Own.sl (by assumption)) (by assumption) rfl | exact Yld.loadRowF (cl := 2) (j := 0) Try.underlying3 rfl rfl rfl (by first | assumption | exact Own.sl (by assumption)) (by assumption) rfl | exact Yld.loadRowF (cl := 3) (j := 0) Try.underlying3 rfl rfl rfl (by first | assumption | exact Own.sl (by assumption)) (by assumption) rfl | exact Yld.loadRowF (cl := 90) (j := 0) Try.underlying3 rfl rfl rfl (by first | assumption | exact Own.sl (by assumption)) (by assumption) rfl | exact Yld.loadRowF (cl := 102) (j := 0) Try.underlying3 rfl rfl rfl (by first | assumption | exact Own.sl (by assumption)) (by assumption) rfl | exact Yld.loadRowF (cl := 106) (j := 0) Try.underlying3 rfl rfl rfl (by first | assumption | exact Own.sl (by assumption)) (by assumption) rfl | exact Yld.loadRowF (cl := 116) (j := 0) Try.underlying3 rfl rfl rfl (by first | assumption | exact Own.sl (by assumption)) (by assumption) rfl | exact Yld.loadRowF (cl := 130) (j := 0) Try.underlying3 rfl rfl rfl (by first | assumption | exact Own.sl (by assumption)) (by assumption) rfl | exact Yld.loadRowF (cl := 140) (j := 0) Try.underlying3 rfl rfl rfl (by first | assumption | exact Own.sl (by assumption)) (by assumption) rfl)) rfl ?_
          refine DL.gone rfl rfl rfl (Eff.callV ent38 [106, 116, 102, 1] [106, 116, 102, 1] rfl (.cons rfl .nil) (mergeC_ct b6 b16 b2 x.es x.ck x.m hM l H1 p c0 hS x.hs hW (fun w hw => hMI.lt R.G hw) (s.2.2.getD 0 0) (by omega) (by omega)) rfl rfl rfl rfl (by rintro _ _ ⟨_, rfl⟩; rfl)) rfl (by rintro _ _ ⟨_, ⟨rfl, rfl⟩, rfl⟩; repeat (first | exact .nil | refine .cons rfl ?_)) ?_
          rintro _ _ ⟨_, ⟨rfl, rfl⟩, rfl⟩
          refine DL.q rfl (by first | exact Yld.pickT rfl rfl | exact Yld.pickF rfl rfl) rfl ?_
          exact DL.meet (.cons rfl (.cons rfl (.cons rfl (.cons rfl (.cons rfl (.cons rfl (.cons rfl (.cons rfl (.cons rfl (.cons rfl (.cons rfl (.cons rfl (.cons rfl (.cons rfl (.cons rfl .nil))))))))))))))) (.cons rfl (.cons rfl (.cons rfl (.cons rfl (.cons rfl (.cons rfl (.cons rfl (.cons rfl (.cons rfl (.cons rfl .nil))))))))))
        ·
          intro hg72
          refine DL.gskip rfl rfl rfl rfl rfl ?_
          refine DL.gskip rfl rfl rfl rfl rfl ?_
          refine DL.gskip rfl rfl rfl rfl rfl ?_
          refine DL.gskip rfl rfl rfl rfl rfl ?_
          refine DL.gskip1 rfl rfl rfl rfl rfl ?_
          refine DL.q rfl (by first | exact Yld.pickT rfl rfl | exact Yld.pickF rfl rfl) rfl ?_
          exact DL.meet (.cons rfl (.cons rfl (.cons rfl (.cons rfl (.cons rfl (.cons rfl (.cons rfl (.cons rfl (.cons rfl (.cons rfl (.cons rfl (.cons rfl (.cons rfl (.cons rfl (.cons rfl .nil))))))))))))))) (.cons rfl (.cons rfl (.cons rfl (.cons rfl (.cons rfl (.cons rfl (.cons rfl (.cons rfl (.cons rfl (.cons rfl .nil))))))))))
        refine DL.done ?_
        refine N.next ?_
        refine W.keep (.cons (k := 6) rfl (.cons (k := 9) rfl (.cons (k := 10) rfl (.cons (k := 11) rfl (.cons (k := 12) rfl (.cons (k := 13) rfl (.cons (k := 46) rfl (.cons (k := 47) rfl (.cons (k := 48) rfl (.cons (k := 78) rfl .nil)))))))))) (.cons (k := 0) rfl (.cons (k := 1) rfl (.cons (k := 2) rfl (.cons (k := 3) rfl (.cons (k := 90) rfl (.cons (k := 102) rfl (.cons (k := 106) rfl (.cons (k := 116) rfl (.cons (k := 130) rfl (.cons (k := 140) rfl .nil)))))))))) ?_
        refine W.cond rfl (fun hc78 => ?_) (fun hc78 => ?_)
        ·
          rw [Bool.and_eq_true, Bool.and_eq_true] at hc78
          obtain ⟨i, r, hgi, hzi, hil⟩ := hhead (by have := of_decide_eq_true hc78.1.1; omega)
          subst hgi
          have hyes : BestI l x.hs (y.n + 1) (y.n : Int) := .inr ⟨y.n, i, r, rfl, by omega, hg, by have := freeB_iff.1 hc78.2; rw [hzi, Int.toNat_natCast] at this; exact this⟩
          refine W.region ?_
          refine RL.q (Yld.move rfl) rfl ?_
          refine RL.q (Yld.assign rfl) rfl ?_
          refine RL.nil ?_
          refine N.block_normal ?_
          refine N.next ?_
          refine W.region ?_
          refine RL.q (Yld.bin rfl rfl (by first | exact BinV.add (by omega) (by omega) | exact BinV.addW)) rfl ?_
          refine RL.q (Yld.move rfl) rfl ?_
          refine RL.nil ?_
          exact N.famK ⟨y.n + 1, (y.n : Int)⟩ ⟨⟨by dsimp only; omega, hyes⟩, by dsimp only; omega⟩ (.as rfl (by first | rfl | (simp; done) | (congr 1; simp; done) | (congr 1; omega)) (.as rfl (by first | rfl | (simp; done) | (congr 1; simp; done) | (congr 1; omega)) .nil)) (.cons rfl (.cons rfl (.cons rfl (.cons rfl (.cons rfl (.cons rfl .nil)))))) .nil (.cons rfl (.cons rfl (.cons rfl (.cons rfl (.cons rfl (.cons rfl (.cons rfl (.cons rfl (.cons rfl (.cons rfl .nil))))))))))
        ·
          have hno : BestI l x.hs (y.n + 1) y.b := hB.no fun hb0 i r hh hf => by
            rw [hg] at hh; cases hh
            have e0 : (s.2.2.getD 0 0) = (i : Int) := by rw [hsg]; rfl
            have e1 : 0 < s.2.2.length := by rw [hsg]; simp [zsN]
            rw [e0, Int.toNat_natCast, freeB_iff.2 hf, Bool.and_true, decide_eq_true (show y.b < 0 from hb0), Bool.true_or, Bool.and_true] at hc78
            have := of_decide_eq_false hc78
            omega
          refine W.skip ?_
          refine N.block_normal ?_
          refine N.next ?_
          refine W.region ?_
          refine RL.q (Yld.bin rfl rfl (by first | exact BinV.add (by omega) (by omega) | exact BinV.addW)) rfl ?_
          refine RL.q (Yld.move rfl) rfl ?_
          refine RL.nil ?_
          exact N.famK ⟨y.n + 1, y.b⟩ ⟨⟨by dsimp only; omega, hno⟩, by dsimp only; omega⟩ (.as rfl (by first | rfl | (simp; done) | (congr 1; simp; done) | (congr 1; omega)) (.as rfl (by first | rfl | (simp; done) | (congr 1; simp; done) | (congr 1; omega)) .nil)) (.cons rfl (.cons rfl (.cons rfl (.cons rfl (.cons rfl (.cons rfl .nil)))))) .nil (.cons rfl (.cons rfl (.cons rfl (.cons rfl (.cons rfl (.cons rfl (.cons rfl (.cons rfl (.cons rfl (.cons rfl .nil))))))))))
      ·
        have hend : y.n = x.hs.length := by omega
        obtain ⟨nb, i, r, hyb, hnb, hhd, hfr⟩ := hB.resolve_left (fun ⟨_, h2⟩ => by
          obtain ⟨n1, h1, hn1, hw1⟩ := hw0
          cases h1 with
          | nil => cases hw1
          | cons i1 r1 =>
            obtain ⟨a1, ha1, _⟩ := hMI.keyW R.G hn1 (w := i1) (by simp)
            obtain ⟨n2, i2, r2, hh2, hf2⟩ := MI.free hv R.G hMI a1.inv.toNat n1 i1 r1 a1 hn1 ha1 (Nat.le_refl _)
            exact h2 n2 i2 r2 (by rw [hend]; exact (List.getElem?_eq_some_iff.1 hh2).1) hh2 hf2)
        have hMI2 := hMI.pop R.G hhd hfr
        obtain ⟨sb, hsb, hlsb0⟩ := sb_at (show nb < x.hh.length by omega)
        obtain ⟨gb, hgb, hsgb⟩ := row_hs hhs hsb
        rw [hhd] at hgb; cases hgb
        obtain ⟨q1, c1, L1⟩ := sb
        dsimp only at hsgb hlsb0
        subst hsgb
        have hSb := hHs _ (List.mem_of_getElem? hsb)
        dsimp only at hSb
        have hlb0 : (iz (zsN (i :: r)))[0]? = some [.int .i64 (i : Int)] := rfl
        have hSb2 := hSb.drop (k := 1) (by simp)
        have hlsb : (x.hh.map SV)[y.b.toNat]? = some [.slice q1 (zsN (i :: r)).length c1] := by rw [hyb, Int.toNat_natCast]; exact hlsb0
        have hHs2 : ∀ s ∈ x.hh.set nb (subP q1 c1 1 1, c1 - 1, zsN r), Sl H s.1 s.2.1 1 (iz s.2.2) := fun s hs => by
          rcases List.mem_or_eq_of_mem_set hs with h | h
          · exact hHs s h
          · subst h; exact hSb2
        refine W.exit ?_
        refine N.then_exit ?_
        refine N.then_exit ?_
        refine N.block_eq ?_
        refine N.next ?_
        refine W.keep (.cons (k := 6) rfl (.cons (k := 9) rfl (.cons (k := 10) rfl (.cons (k := 11) rfl (.cons (k := 12) rfl .nil))))) (.cons (k := 0) rfl (.cons (k := 1) rfl (.cons (k := 2) rfl (.cons (k := 3) rfl (.cons (k := 90) rfl (.cons (k := 102) rfl (.cons (k := 106) rfl (.cons (k := 116) rfl (.cons (k := 130) rfl (.cons (k := 140) rfl .nil)))))))))) ?_
        refine W.seq ?_
        refine W.seq ?_
        refine W.region ?_
        refine RL.q (Yld.move rfl) rfl ?_
        refine RL.q (Yld.bin rfl rfl BinV.lss) rfl ?_
        refine RL.nil ?_
        refine N.next ?_
        first | (refine W.as (t := 82) rfl (boolF (by first | assumption | omega | (simp; done))) ?_; refine W.condF rfl ?_) | refine W.condF rfl ?_
        refine W.skip ?_
        refine N.next ?_
        refine W.seq ?_
        refine W.region ?_
        refine RL.q (Yld.move rfl) rfl ?_
        refine RL.q (Yld.move rfl) rfl ?_
        refine RL.q (Yld.indexRow Try.underlying31 sz25 rfl rfl (by first | assumption | exact Own.sl (by assumption)) (by first | rfl | omega | (simp; done) | (simp; omega)) (by omega) (by first | omega | (simp; done) | (simp; omega))) rfl ?_
        refine RL.q (by first | exact (by first | exact Yld.loadRow1 (cl := 1) Try.underlying25 rfl rfl rfl (by first | assumption | exact Own.sl (by assumption)) (by assumption) | exact Yld.loadRow1 (cl := 2) Try.underlying25 rfl rfl rfl (by first | assumption | exact Own.sl (by assumption)) (by assumption) | exact Yld.loadRow1 (cl := 3) Try.underlying25 rfl rfl rfl (by first | assumption | exact Own.sl (by assumption)) (by assumption) | exact Yld.loadRow1 (cl := 90) Try.underlying25 rfl rfl rfl (by first | assumption | exact Own.sl (by assumption)) (by assumption) | exact Yld.loadRow1 (cl := 102) Try.underlying25 rfl rfl rfl (by first | assumption | exact Own.sl (by assumption)) (by assumption) | exact Yld.loadRow1 (cl := 106) Try.underlying25 rfl rfl rfl (by first | assumption | exact Own.sl (by assumption)) (by assumption) | exact Yld.loadRow1 (cl := 116) Try.underlying25 rfl rfl rfl (by first | assumption | exact Own.sl (by assumption)) (by assumption) | exact Yld.loadRow1 (cl := 130) Try.underlying25 rfl rfl rfl (by first | assumption | exact Own.sl (by assumption)) (by assumption) | exact Yld.loadRow1 (cl := 140) Try.underlying25 rfl rfl rfl (by first | assumption | exact Own.sl (by assumption)) (by assumption)) | exact (by first | exact Yld.loadRowF (cl := 1) (j := 0) Try.underlying25 rfl rfl rfl (by first | assumption | exact Own.sl (by assumption)) (by assumption) rfl | exact Yld.loadRowF (cl := 2) (j := 0) Try.underlying25 rfl rfl rfl (by first | assumption | exact Own.sl (by assumption)) (by assumption) rfl | exact Yld.loadRowF (cl := 3) (j := 0) Try.underlying25 rfl rfl rfl (by first | assumption | exact Own.sl (by assumption)) (by assumption) rfl | exact Yld.loadRowF (cl := 90) (j := 0) Try.underlying25 rfl rfl rfl (by first | assumption | exact Own.sl (by assumption)) (by assumption) rfl | exact Yld.loadRowF (cl := 102) (j := 0) Try.underlying25 rfl rfl rfl (by first | assumption | exact Own.sl (by assumption)) (by assumption) rfl | exact Yld.loadRowF (cl := 106) (j := 0) Try.underlying25 rfl rfl rfl (by first | assumption | exact Own.sl (by assumption)) (by assumption) rfl | exact Yld.loadRowF (cl := 116) (j := 0) Try.underlying25 rfl rfl rfl (by first | assumption | exact Own.sl (by assumption)) (by assumption) rfl | exact Yld.loadRowF (cl := 130) (j := 0) Try.underlying25 rfl rfl rfl (by first | assumption | exact Own.sl (by assumption)) (by assumption) rfl | exact Yld.loadRowF (cl := 140) (j := 0) Try.underlying25 rfl rfl rfl (by first | assumption | exact Own.sl (by assumption)) (by assumption) rfl)) rfl ?_
        refine RL.q (Yld.indexRow Try.underlying25 sz3 rfl rfl (by first | assumption | exact Own.sl (by assumption)) (by first | rfl | omega | (simp; done) | (simp; omega)) (by omega) (by first | omega | (simp; done) | (simp; omega))) rfl ?_
        refine RL.q (by first | exact (by first | exact Yld.loadRow1 (cl := 1) Try.underlying3 rfl rfl rfl (by first | assumption | exact Own.sl (by assumption)) (by assumption) | exact Yld.loadRow1 (cl := 2) Try.underlying3 rfl rfl rfl (by first | assumption | exact Own.sl (by assumption)) (by assumption) | exact Yld.loadRow1 (cl := 3) Try.underlying3 rfl rfl rfl (by first | assumption | exact Own.sl (by assumption)) (by assumption) | exact Yld.loadRow1 (cl := 90) Try.underlying3 rfl rfl rfl (by first | assumption | exact Own.sl (by assumption)) (by assumption) | exact Yld.loadRow1 (cl := 102) Try.underlying3 rfl rfl rfl (by first | assumption | exact Own.sl (by assumption)) (by assumption) | exact Yld.loadRow1 (cl := 106) Try.underlying3 rfl rfl rfl (by first | assumption | exact Own.sl (by assumption)) (by assumption) | exact Yld.loadRow1 (cl := 116) Try.underlying3 rfl rfl rfl (by first | assumption | exact Own.sl (by assumption)) (by assumption) | exact Yld.loadRow1 (cl := 130) Try.underlying3 rfl rfl rfl (by first | assumption | exact Own.sl (by assumption)) (by assumption) | exact Yld.loadRow1 (cl := 140) Try.underlying3 rfl rfl rfl (by first | assumption | exact Own.sl (by assumption)) (by assumption)) | exact (by first | exact Yld.loadRowF (cl := 1) (j := 0) Try.underlying3 rfl rfl rfl (by first | assumption | exact Own.sl (by assumption)) (by assumption) rfl | exact Yld.loadRowF (cl := 2) (j := 0) Try.underlying3 rfl rfl rfl (by first | assumption | exact Own.sl (by assumption)) (by assumption) rfl | exact Yld.loadRowF (cl := 3) (j := 0) Try.underlying3 rfl rfl rfl (by first | assumption | exact Own.sl (by assumption)) (by assumption) rfl | exact Yld.loadRowF (cl := 90) (j := 0) Try.underlying3 rfl rfl rfl (by first | assumption | exact Own.sl (by assumption)) (by assumption) rfl | exact Yld.loadRowF (cl := 102) (j := 0) Try.underlying3 rfl rfl rfl (by first | assumption | exact Own.sl (by assumption)) (by assumption) rfl | exact Yld.loadRowF (cl := 106) (j := 0) Try.underlying3 rfl rfl rfl (by first | assumption | exact Own.sl (by assumption)) (by assumption) rfl | exact Yld.loadRowF (cl := 116) (j := 0) Try.underlying3 rfl rfl rfl (by first | assumption | exact Own.sl (by assumption)) (by assumption) rfl | exact Yld.loadRowF (cl := 130) (j := 0) Try.underlying3 rfl rfl rfl (by first | assumption | exact Own.sl (by assumption)) (by assumption) rfl | exact Yld.loadRowF (cl := 140) (j := 0) Try.underlying3 rfl rfl rfl (by first | assumption | exact Own.sl (by assumption)) (by assumption) rfl)) rfl ?_
        refine RL.q (Yld.assign rfl) rfl ?_
        refine RL.nil ?_
        refine N.next ?_
        refine W.keep (.cons (k := 6) rfl (.cons (k := 9) rfl (.cons (k := 10) rfl (.cons (k := 11) rfl (.cons (k := 12) rfl (.cons (k := 15) rfl .nil)))))) (.cons (k := 0) rfl (.cons (k := 1) rfl (.cons (k := 2) rfl (.cons (k := 3) rfl (.cons (k := 90) rfl (.cons (k := 102) rfl (.cons (k := 106) rfl (.cons (k := 116) rfl (.cons (k := 130) rfl (.cons (k := 140) rfl .nil)))))))))) ?_
        refine W.seq ?_
        refine W.region ?_
        refine RL.q (Yld.move rfl) rfl ?_
        refine RL.q (Yld.move rfl) rfl ?_
        refine RL.q (Yld.move rfl) rfl ?_
        refine RL.q (Yld.move rfl) rfl ?_
        refine RL.q (Yld.indexRow Try.underlying31 sz25 rfl rfl (by first | assumption | exact Own.sl (by assumption)) (by first | rfl | omega | (simp; done) | (simp; omega)) (by omega) (by first | omega | (simp; done) | (simp; omega))) rfl ?_
        refine RL.q (by first | exact (by first | exact Yld.loadRow1 (cl := 1) Try.underlying25 rfl rfl rfl (by first | assumption | exact Own.sl (by assumption)) (by assumption) | exact Yld.loadRow1 (cl := 2) Try.underlying25 rfl rfl rfl (by first | assumption | exact Own.sl (by assumption)) (by assumption) | exact Yld.loadRow1 (cl := 3) Try.underlying25 rfl rfl rfl (by first | assumption | exact Own.sl (by assumption)) (by assumption) | exact Yld.loadRow1 (cl := 90) Try.underlying25 rfl rfl rfl (by first | assumption | exact Own.sl (by assumption)) (by assumption) | exact Yld.loadRow1 (cl := 102) Try.underlying25 rfl rfl rfl (by first | assumption | exact Own.sl (by assumption)) (by assumption) | exact Yld.loadRow1 (cl := 106) Try.underlying25 rfl rfl rfl (by first | assumption | exact Own.sl (by assumption)) (by assumption) | exact Yld.loadRow1 (cl := 116) Try.underlying25 rfl rfl rfl (by first | assumption | exact Own.sl (by assumption)) (by assumption) | exact Yld.loadRow1 (cl := 130) Try.underlying25 rfl rfl rfl (by first | assumption | exact Own.sl (by assumption)) (by assumption) | exact Yld.loadRow1 (cl := 140) Try.underlying25 rfl rfl rfl (by first | assumption | exact Own.sl (by assumption)) (by assumption)) | exact (by first | exact Yld.loadRowF (cl := 1) (j := 0) Try.underlying25 rfl rfl rfl (by first | assumption | exact Own.sl (by assumption)) (by assumption) rfl | exact Yld.loadRowF (cl := 2) (j := 0) Try.underlying25 rfl rfl rfl (by first | assumption | exact Own.sl (by assumption)) (by assumption) rfl | exact Yld.loadRowF (cl := 3) (j := 0) Try.underlying25 rfl rfl rfl (by first | assumption | exact Own.sl (by assumption)) (by assumption) rfl | exact Yld.loadRowF (cl := 90) (j := 0) Try.underlying25 rfl rfl rfl (by first | assumption | exact Own.sl (by assumption)) (by assumption) rfl | exact Yld.loadRowF (cl := 102) (j := 0) Try.underlying25 rfl rfl rfl (by first | assumption | exact Own.sl (by assumption)) (by assumption) rfl | exact Yld.loadRowF (cl := 106) (j := 0) Try.underlying25 rfl rfl rfl (by first | assumption | exact Own.sl (by assumption)) (by assumption) rfl | exact Yld.loadRowF (cl := 116) (j := 0) Try.underlying25 rfl rfl rfl (by first | assumption | exact Own.sl (by assumption)) (by assumption) rfl | exact Yld.loadRowF (cl := 130) (j := 0) Try.underlying25 rfl rfl rfl (by first | assumption | exact Own.sl (by assumption)) (by assumption) rfl | exact Yld.loadRowF (cl := 140) (j := 0) Try.underlying25 rfl rfl rfl (by first | assumption | exact Own.sl (by assumption)) (by assumption) rfl)) rfl ?_
        refine RL.q (Yld.eq (v' := .slice (subP q1 c1 1 1) (zsN r).length (c1 - 1)) (Yld.sliceL Try.underlying25 sz3 rfl rfl (by omega) (by first | omega | (simp; done) | (simp; omega))) (rfl)) rfl ?_
        refine RL.q (Yld.indexRow Try.underlying31 sz25 rfl rfl (by first | assumption | exact Own.sl (by assumption)) (by first | rfl | omega | (simp; done) | (simp; omega)) (by omega) (by first | omega | (simp; done) | (simp; omega))) rfl ?_
        refine RL.e0 (Eff.storeRow (tc := 140) (j := 0) sz25 rfl rfl rfl hHh hlsb rfl rfl rfl rfl rfl) ?_
        rintro _ _ ⟨Hq, hHq0, rfl⟩
        have hHq : Own Hq ph ch 25 1 ((x.hh.map SV).set nb (SV (subP q1 c1 1 1, c1 - 1, zsN r))) := by rw [show nb = y.b.toNat by omega]; exact hHq0
        refine RL.nil ?_
        refine N.next ?_
        refine W.keep (.cons (k := 6) rfl (.cons (k := 9) rfl (.cons (k := 10) rfl (.cons (k := 11) rfl (.cons (k := 15) rfl .nil))))) (.cons (k := 0) rfl (.cons (k := 1) rfl (.cons (k := 2) rfl (.cons (k := 3) rfl (.cons (k := 90) rfl (.cons (k := 102) rfl (.cons (k := 106) rfl (.cons (k := 116) rfl (.cons (k := 130) rfl (.cons (k := 140) rfl .nil)))))))))) ?_
        refine W.seq ?_
        refine W.region ?_
        refine RL.q (Yld.load1 (c := 106) Try.underlying73 rfl rfl rfl (by first | exact single_self _ _ | exact pset_self _ _ _ | assumption) rfl) rfl ?_
        refine RL.q (Yld.move rfl) rfl ?_
        refine RL.e0 (Eff.delete (c := 116) Try.underlying73 (keyInt Try.underlying3) rfl rfl rfl (by assumption)) ?_
        rintro _ _ ⟨rfl, es2, ck2, hM2, rfl⟩
        refine RL.nil ?_
        refine N.next ?_
        refine W.region ?_
        refine RL.q (Yld.move rfl) rfl ?_
        refine RL.q (Yld.move rfl) rfl ?_
        refine RL.e (Eff.buildSlice 201 Try.underlying25 sz3 zc3 rfl rfl (.cons rfl rfl .nil) rfl) rfl ?_
        rintro _ _ ⟨b101, rfl, rfl⟩
        refine RL.e (Eff.appendE (tc := 90) (sc := 201) (fun z : Int => [Value.int .i64 z]) Try.underlying25 el3 rfl rfl rfl rfl hOo rfl (iz_single rfl) rfl (iz_one1 _) (by decide) (by have := hMI.outlen R.G; simp; omega) (by have := hMI.outlen R.G; simp [maxLen]; omega)) rfl ?_
        rintro _ _ ⟨Ha, pa, ca, rfl, hOa, rfl⟩
        refine RL.q (Yld.assign rfl) rfl ?_
        refine RL.nil ?_
        refine N.block_normal ?_
        exact N.famK ⟨_, _, mdel x.m (i : Int), x.hh.set nb (subP q1 c1 1 1, c1 - 1, zsN r), Hq, x.hs.set nb r, x.out ++ [i], Ha, pa, ca⟩ ⟨⟨by assumption, hW.del hM R.G hMI hhd, hMI2, by rw [List.map_set]; exact hHq, by rw [List.length_set]; exact hhl, by rw [List.map_set, List.map_set, hhs], hHs2, by rw [zsN_app]; exact hOa⟩, by show l.length - (x.out ++ [i]).length < _; have := hMI2.outlen R.G; rw [List.length_append] at *; simp only [List.length_cons, List.length_nil] at *; omega⟩ (.as rfl (by show Value.slice _ _ _ = Value.slice _ _ _; rw [zsN_app]; rfl) .nil) (.cons rfl (.cons rfl (.cons rfl .nil))) (.cons rfl (.cons rfl (.cons rfl .nil))) (.cons rfl (.cons rfl (.cons rfl (.cons rfl (.cons rfl (.cons rfl (.cons rfl .nil)))))))
    ·
      have hno : ∀ w, ¬ Wt x.hs w := fun w hw => by
        have h1 := (hW.2 (w : Int)).2 ⟨w, rfl, hw⟩
        cases hm : x.m with
        | nil => rw [hm] at h1; simp [mget] at h1
        | cons e m2 => rw [hm] at hc45; simp at hc45
      have hver := GR.ver hv R hMI hno
      refine W.exit ?_
      refine N.then_exit ?_
      refine N.then_exit ?_
      refine N.block_eq ?_
      refine N.next ?_
      refine W.keep (.cons (k := 11) rfl .nil) (.cons (k := 0) rfl (.cons (k := 1) rfl (.cons (k := 2) rfl (.cons (k := 3) rfl (.cons (k := 90) rfl (.cons (k := 102) rfl (.cons (k := 106) rfl (.cons (k := 116) rfl (.cons (k := 130) rfl (.cons (k := 140) rfl .nil)))))))))) ?_
      refine W.seq ?_
      refine W.region ?_
      refine RL.q (Yld.move rfl) rfl ?_
      refine RL.q (Yld.assign rfl) rfl ?_
      refine RL.q (Yld.assign rfl) rfl ?_
      refine RL.nil ?_
      refine N.next ?_
      refine W.ret ?_
      exact N.retBy [1, 2, 3, 90] (.cons (.tmp rfl) (.cons (.tmp rfl) .nil)) rfl rfl rfl rfl ⟨x.out, x.Ho, x.po, x.co, rfl, hOo, hver, rfl⟩

end Go.Proofs.Ytbgppnkccbhbpaa
