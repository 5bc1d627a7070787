/- ReplicateMembers. Written by program (walk2.py). -/
import Derived.Test.YtdkefpnebmmhlaaP12
namespace Go.Proofs.Ytdkefpnebmmhlaa
open SL Cfg Rep
set_option linter.unusedVariables false
set_option linter.unusedSimpArgs false

theorem Rep.set234 : setL [2, 3, 4] = [2, 3, 4] := (IsSet.eq ⟨by decide, by intro z; simp; omega⟩).symm
theorem Rep.ids0 (s : Int) : (chg 1 s [] [2, 3, 4]).map (·.r) = [2, 3, 4] := by rw [chg_map, set234]; decide
theorem Rep.fnd_ids {ms : List Mb} {z : Int} (h : ms.map (·.r) = [2, 3, 4]) : (∃ x, fnd ms z = some x) ↔ (2 ≤ z ∧ z ≤ 4) := by
  have h1 : (∃ x, fnd ms z = some x) ↔ z ∈ ms.map (·.r) := by
    constructor
    · rintro ⟨x, hx⟩; exact List.mem_map.2 ⟨x, (fnd_some hx).1, (fnd_some hx).2⟩
    · intro hm
      obtain ⟨x, hx, hr⟩ := List.mem_map.1 hm
      cases hf : fnd ms z with
      | some y => exact ⟨y, rfl⟩
      | none => exact absurd hr (fnd_none.1 hf x hx)
  rw [h1, h]; simp; omega
theorem Rep.out_none {ms : List Mb} {last z : Int} {l : List Int} (h : z < 1 ∨ z = 1) : (decide (nxOf (chg 1 last ms l) z ≠ 0) || decide (mtOf (chg 1 last ms l) z ≠ 0)) = false := by
  unfold nxOf mtOf; rw [fnd_chg, if_neg (by omega)]; rfl
theorem Rep.keep_in {ms : List Mb} {last z : Int} {l : List Int} {x : Mb} (hz : z ∈ l) (h1 : 2 ≤ z) (hx : fnd ms z = some x) : (decide (nxOf (chg 1 last ms l) z ≠ nxOf ms z) || decide (mtOf (chg 1 last ms l) z ≠ mtOf ms z)) = false := by
  unfold nxOf mtOf; rw [fnd_chg, if_pos ⟨hz, by omega, by omega⟩, hx]; simp
theorem Rep.new_in {ms : List Mb} {s z : Int} {l : List Int} (hs : 0 ≤ s) (hz : z ∈ l) (h1 : 2 ≤ z) (hx : fnd ms z = none) : (decide (nxOf (chg 1 (s + 7) ms l) z ≠ s + 8) || decide (mtOf (chg 1 (s + 7) ms l) z ≠ 0)) = false := by
  unfold nxOf mtOf; rw [fnd_chg, if_pos ⟨hz, by omega, by omega⟩, hx]
  simp only [Option.map_some, Option.getD_some, ne_eq, not_true_eq_false, decide_false, Bool.or_false, decide_eq_false_iff_not, Classical.not_not]; omega
theorem Rep.gone {ms : List Mb} {last z : Int} {l : List Int} (hz : ¬ z ∈ l) : nxOf (chg 1 last ms l) z = 0 := by
  unfold nxOf; rw [fnd_chg, if_neg (fun h => hz h.1)]; rfl
theorem Rep.caught_all {ms : List Mb} {last : Int} {l : List Int} (hK : MOK (chg 1 last ms l)) : (caught 1 0 (chg 1 last ms l)).length = 1 + (minusL (setL l) [1]).length := by
  have h1 : (chg 1 last ms l).filter (fun x => decide (0 ≤ x.mt)) = chg 1 last ms l := List.filter_eq_self.2 fun x hx => by simp [(hK.mt x hx).1]
  have h2 : minusL (setL l) [1] = (setL l).filter fun r => !decide (r = 1) := List.filter_congr fun z _ => by simp
  have h3 : IsSet (1 :: (setL l).filter fun r => !decide (r = 1)) (1 :: (setL l).filter fun r => !decide (r = 1)) := by
    refine ⟨List.pairwise_cons.2 ⟨fun z hz => ?_, filter_sorted (setL_is l).sorted⟩, fun z => ⟨fun h => ⟨h, ?_⟩, fun h => h.1⟩⟩
    · obtain ⟨h4, h5⟩ := List.mem_filter.1 hz
      have := setL_pos h4; simp at h5; omega
    · rcases List.mem_cons.1 h with rfl | h
      · omega
      · exact setL_pos (List.mem_filter.1 h).1
  unfold caught
  rw [h1, chg_map, h2, ← h3.eq, List.length_cons]; omega

set_option maxRecDepth 100000 in
set_option maxHeartbeats 3200000 in
theorem membersL_ct (ops : List OpS) (H1 : PH) (p : Option Addr) (c : Nat) (hS : Sl H1 p c 4 (ops.map OpS.cells)) (hL : ∀ o ∈ ops, Sl H1 o.p o.c 1 (iz o.l)) (s : Int) (hs0 : 0 ≤ s) (hs1 : s ≤ 255) (l : List Int) (q : Option Addr) (d : Nat) (hl : Sl H1 q d 1 (iz l)) : Ct Try.prog 7 [.slice p ops.length c, .int .u8 s, .slice q l.length d] [H1] (fun v Hs => v = .bool true ∧ Hs = [H1]) := by
  refine Ct.body Try.func7 rfl Try.ntmps7 rfl ?_
  intro E F
  have hmx := hS.len_le
  simp only [List.length_map, maxLen] at hmx
  have hmxl := hl.len_le
  simp only [iz_len, maxLen] at hmxl
  refine W.seq ?_
  refine W.region ?_
  refine RL.q (Yld.assign rfl) rfl ?_
  refine RL.nil ?_
  refine N.next ?_
  refine W.seq ?_
  refine W.seq ?_
  refine W.region ?_
  refine RL.e (Eff.call ent9 [] [] .nil awake_ct rfl rfl rfl rfl (by rintro _ _ ⟨_, rfl⟩; rfl)) rfl ?_
  rintro _ _ ⟨_, ⟨rfl, rfl⟩, rfl⟩
  refine RL.q (by first | exact Yld.notD rfl | exact Yld.not rfl) rfl ?_
  refine RL.nil ?_
  refine N.next ?_
  first | (refine W.as (t := 17) rfl (boolF (by first | assumption | omega | (simp; done))) ?_; refine W.condF rfl ?_) | refine W.condF rfl ?_
  refine W.skip ?_
  refine N.next ?_
  refine W.seq ?_
  refine W.seq ?_
  refine W.region ?_
  refine RL.q (Yld.move rfl) rfl ?_
  refine RL.e (Eff.call ent10 [1] [1] (.cons rfl (.cons rfl .nil)) (few_ct ops _ _ _ hS hL 16) rfl rfl rfl rfl (by rintro _ _ ⟨_, rfl⟩; rfl)) rfl ?_
  rintro _ _ ⟨_, ⟨rfl, rfl⟩, rfl⟩
  refine RL.q (by first | exact Yld.notD rfl | exact Yld.not rfl) rfl ?_
  refine RL.q (Yld.move rfl) rfl ?_
  refine' RL.or (t := 21) (d := 25) 4 rfl (.cons (k := 0) rfl (.cons (k := 1) rfl (.cons (k := 2) rfl (.cons (k := 6) rfl (.cons (k := 16) rfl (.cons (k := 17) rfl (.cons (k := 18) rfl (.cons (k := 19) rfl (.cons (k := 20) rfl .nil))))))))) (.cons (k := 0) rfl (.cons (k := 1) rfl .nil)) ?_ ?_ ?_
  rotate_left 1
  ·
    intro hg21
    refine RL.gq rfl rfl (Yld.move rfl) rfl ?_
    refine RL.gq rfl rfl (Yld.lenSl Try.underlying22 rfl) rfl ?_
    refine RL.gq rfl rfl (Yld.bin rfl rfl BinV.gtr) rfl ?_
    refine RL.q (by first | exact Yld.pickT rfl rfl | exact Yld.pickF rfl rfl) rfl ?_
    exact RL.nil (N.meet (.cons rfl (.cons rfl (.cons rfl (.cons rfl (.cons rfl (.cons rfl (.cons rfl (.cons rfl (.cons rfl (.cons rfl .nil)))))))))) (.cons rfl (.cons rfl .nil)))
  ·
    intro hg21
    refine RL.gskip rfl rfl rfl rfl ?_
    refine RL.gskip rfl rfl rfl rfl ?_
    refine RL.gskip rfl rfl rfl rfl ?_
    refine RL.q (by first | exact Yld.pickT rfl rfl | exact Yld.pickF rfl rfl) rfl ?_
    exact RL.nil (N.meet (.cons rfl (.cons rfl (.cons rfl (.cons rfl (.cons rfl (.cons rfl (.cons rfl (.cons rfl (.cons rfl (.cons rfl .nil)))))))))) (.cons rfl (.cons rfl .nil)))
  refine RL.nil ?_
  refine N.next ?_
  refine W.keep (.cons (k := 0) rfl (.cons (k := 1) rfl (.cons (k := 2) rfl (.cons (k := 25) rfl .nil)))) (.cons (k := 0) rfl (.cons (k := 1) rfl .nil)) ?_
  refine W.cond rfl (fun hc25 => ?_) (fun hc25 => ?_)
  ·
    refine W.seq ?_
    refine W.region ?_
    refine RL.q (Yld.assign rfl) rfl ?_
    refine RL.nil ?_
    refine N.next ?_
    refine W.keep (.cons (k := 6) rfl .nil) (.cons (k := 0) rfl (.cons (k := 1) rfl .nil)) ?_
    refine W.ret ?_
    refine N.then_ret ?_
    exact N.retBy [1] (.cons (.tmp rfl) .nil) rfl rfl rfl rfl ⟨rfl, rfl⟩
  ·
    simp only [Bool.or_eq_false_iff, Bool.not_eq_false', decide_eq_true_eq, decide_eq_false_iff_not, Classical.not_not] at hc25
    have hok := hc25.1.1
    have hl8 : l.length ≤ 8 := by omega
    refine W.skip ?_
    refine N.next ?_
    refine W.seq ?_
    refine W.region ?_
    refine RL.q (Yld.move rfl) rfl ?_
    refine RL.q (Yld.convIs Try.underlying5 Try.underlying3 rfl (by first | exact IntWalk.i64_in _ ⟨by omega, by omega⟩ | rfl)) rfl ?_
    refine RL.e (Eff.buildSlice 128 Try.underlying22 sz3 zc3 rfl rfl (.cons rfl rfl (.cons rfl rfl (.cons rfl rfl .nil))) rfl) rfl ?_
    rintro _ _ ⟨b28, rfl, rfl⟩
    refine RL.e (Eff.call ent11 [128] [128, 240, 241] (.cons rfl (.cons rfl (.cons rfl .nil))) (pnew_ct s (by omega) [2, 3, 4] _ _ _ (iz_lit (b := b28) (l := [2, 3, 4]) rfl rfl (by decide)).sl) rfl rfl rfl rfl (by rintro _ _ ⟨_, _, _, _, _, _, _, _, rfl⟩; rfl)) rfl ?_
    rintro _ _ ⟨_, ⟨bp, bm, es0, ck0, m0, rfl, hM0, hR0, rfl⟩, rfl⟩
    refine RL.q (Yld.assign rfl) rfl ?_
    refine RL.nil ?_
    refine N.next ?_
    refine W.keep (.cons (k := 0) rfl (.cons (k := 1) rfl (.cons (k := 2) rfl (.cons (k := 7) rfl .nil)))) (.cons (k := 0) rfl (.cons (k := 1) rfl (.cons (k := 128) rfl (.cons (k := 240) rfl (.cons (k := 241) rfl .nil))))) ?_
    refine W.seq ?_
    refine W.seq ?_
    refine W.region ?_
    refine RL.q (Yld.move rfl) rfl ?_
    refine RL.q (Yld.lenSl Try.underlying23 rfl) rfl ?_
    refine RL.q (Yld.move rfl) rfl ?_
    refine RL.nil ?_
    refine N.next ?_
    refine W.block ?_
    refine W.loopK (ι := HI) (fun x => (x.i ≤ ops.length ∧ MapP (fun a : Int => Value.int .i64 a) x.es x.ck x.m ∧ MR x.m x.ms ∧ MOK x.ms ∧ x.ms.map (·.r) = [2, 3, 4])) (fun x => [(32, .int .i64 (x.i : Nat))]) (fun x => [(241, single bm (.map x.es x.ck))]) (fun x => ops.length - x.i) (.cons (k := 1) rfl (.cons (k := 2) rfl (.cons (k := 7) rfl (.cons (k := 30) rfl (.cons (k := 31) rfl .nil))))) (.cons (k := 0) rfl (.cons (k := 1) rfl (.cons (k := 128) rfl (.cons (k := 240) rfl .nil)))) ⟨0, es0, ck0, m0, chg 1 s [] [2, 3, 4]⟩ ?_ ?_ ?_ ?_
    · exact ⟨Nat.zero_le _, hM0, hR0, MOK.nil.chg (by omega) (by simp), ids0 s⟩
    · exact (.as rfl (by first | rfl | (simp; done) | (congr 1; simp; done) | (congr 1; omega)) .nil)
    · exact (.cons rfl .nil)
    rintro x ⟨hi, hMx, hRx, hKx, hid⟩
    refine W.keep (.cons (k := 32) rfl (.cons (k := 1) rfl (.cons (k := 2) rfl (.cons (k := 7) rfl (.cons (k := 30) rfl (.cons (k := 31) rfl .nil)))))) (.cons (k := 241) rfl (.cons (k := 0) rfl (.cons (k := 1) rfl (.cons (k := 128) rfl (.cons (k := 240) rfl .nil))))) ?_
    refine W.seq ?_
    refine W.region ?_
    refine RL.q (Yld.bin rfl rfl BinV.lss) rfl ?_
    refine RL.nil ?_
    refine N.next ?_
    refine W.seq ?_
    first | refine W.condD rfl (fun hc33 => ?_) (fun hc33 => ?_) | (refine W.cond rfl (fun hc33 => ?_) (fun hc33 => ?_) <;> try simp only [Bool.or_eq_true, Bool.and_eq_true, Bool.not_eq_true', Bool.not_eq_false', decide_eq_true_eq, Bool.or_eq_false_iff, Bool.and_eq_false_iff, decide_eq_false_iff_not, beq_iff_eq, beq_eq_false_iff_ne, ne_eq, Decidable.not_not] at hc33)
    ·
      obtain ⟨o, ho⟩ : ∃ o, ops[x.i]? = some o := ⟨_, List.getElem?_eq_getElem (show x.i < ops.length by omega)⟩
      have hlo : (ops.map OpS.cells)[x.i]? = some [.int .i64 o.kd, .int .i64 o.a, .int .i64 o.b, .slice o.p o.l.length o.c] := by simp [ho, OpS.cells]
      have hlo2 := hL o (List.mem_of_getElem? ho)
      have hlo3 := hlo2.len_le
      simp only [iz_len, maxLen] at hlo3
      have hoo := hok o (List.mem_of_getElem? ho)
      refine W.skip ?_
      refine N.next ?_
      refine W.seq ?_
      refine W.block ?_
      refine W.seq ?_
      refine W.region ?_
      refine RL.q (Yld.indexRow Try.underlying23 sz36 rfl rfl (by first | assumption | exact Own.sl (by assumption)) (by first | rfl | omega | (simp; done) | (simp; omega)) (by omega) (by first | omega | (simp; done) | (simp; omega))) rfl ?_
      refine RL.q (by first | exact Yld.loadRow (cl := 1) Try.underlying36 rfl sz36 rfl rfl (by first | assumption | exact Own.sl (by assumption)) (by assumption) | exact Yld.loadRow (cl := 128) Try.underlying36 rfl sz36 rfl rfl (by first | assumption | exact Own.sl (by assumption)) (by assumption) | exact Yld.loadRow (cl := 240) Try.underlying36 rfl sz36 rfl rfl (by first | assumption | exact Own.sl (by assumption)) (by assumption) | exact Yld.loadRow (cl := 241) Try.underlying36 rfl sz36 rfl rfl (by first | assumption | exact Own.sl (by assumption)) (by assumption)) rfl ?_
      refine RL.e (Eff.alloc 109 zc36) rfl ?_
      rintro _ _ ⟨b9, rfl, rfl⟩
      refine RL.e0 (Eff.storeS (c := 109) _ sz36 rfl rfl rfl rfl rfl rfl rfl (by (try simp only [putAt, List.take, List.drop, List.nil_append, List.cons_append, List.append_nil, List.length_cons, List.length_nil, Nat.add_zero, Nat.zero_add, Nat.reduceAdd]); rfl)) ?_
      rintro _ _ rfl
      refine RL.nil ?_
      refine N.next ?_
      refine W.seq ?_
      refine W.region ?_
      refine RL.q (Yld.fieldAddr fo36_0 rfl) rfl ?_
      refine RL.q (Yld.load1 (c := 109) Try.underlying3 rfl rfl rfl (by first | exact single_self _ _ | exact pset_self _ _ _ | assumption) rfl) rfl ?_
      refine RL.nil ?_
      refine N.next ?_
      refine W.keep (.cons (k := 1) rfl (.cons (k := 2) rfl (.cons (k := 7) rfl (.cons (k := 9) rfl (.cons (k := 30) rfl (.cons (k := 31) rfl (.cons (k := 32) rfl (.cons (k := 37) rfl .nil)))))))) (.cons (k := 0) rfl (.cons (k := 1) rfl (.cons (k := 109) rfl (.cons (k := 128) rfl (.cons (k := 240) rfl (.cons (k := 241) rfl .nil)))))) ?_
      refine W.block ?_
      refine W.seq ?_
      refine W.region ?_
      refine RL.q (Yld.bin rfl rfl BinV.eql) rfl ?_
      refine RL.q (Yld.assign rfl) rfl ?_
      refine RL.nil ?_
      refine N.next ?_
      first | refine W.condD rfl (fun hc38 => ?_) (fun hc38 => ?_) | (refine W.cond rfl (fun hc38 => ?_) (fun hc38 => ?_) <;> try simp only [Bool.or_eq_true, Bool.and_eq_true, Bool.not_eq_true', Bool.not_eq_false', decide_eq_true_eq, Bool.or_eq_false_iff, Bool.and_eq_false_iff, decide_eq_false_iff_not, beq_iff_eq, beq_eq_false_iff_ne, ne_eq, Decidable.not_not] at hc38)
      ·
        refine W.region ?_
        refine RL.q (Yld.move rfl) rfl ?_
        refine RL.q (Yld.fieldAddr fo36_1 rfl) rfl ?_
        refine RL.q (Yld.load1 (c := 109) Try.underlying3 rfl rfl rfl (by first | exact single_self _ _ | exact pset_self _ _ _ | assumption) rfl) rfl ?_
        refine RL.q (Yld.fieldAddr fo36_2 rfl) rfl ?_
        refine RL.q (Yld.load1 (c := 109) Try.underlying3 rfl rfl rfl (by first | exact single_self _ _ | exact pset_self _ _ _ | assumption) rfl) rfl ?_
        refine RL.e (Eff.call ent30 [240, 241] [240, 241] (.cons rfl (.cons rfl (.cons rfl .nil))) (paccept_ct bp bm x.es x.ck x.m x.ms hMx hRx hKx o.a o.b hoo.2.2.1) rfl rfl rfl rfl (by rintro _ _ ⟨_, _, _, _, _, _, rfl⟩; rfl)) rfl ?_
        rintro _ _ ⟨_, ⟨rfl, es', ck', m', hM', hR', rfl⟩, rfl⟩
        refine RL.nil ?_
        refine N.block_normal ?_
        refine N.block_normal ?_
        refine N.next ?_
        refine W.keep (.cons (k := 1) rfl (.cons (k := 2) rfl (.cons (k := 7) rfl (.cons (k := 30) rfl (.cons (k := 31) rfl (.cons (k := 32) rfl .nil)))))) (.cons (k := 0) rfl (.cons (k := 1) rfl (.cons (k := 109) rfl (.cons (k := 128) rfl (.cons (k := 240) rfl (.cons (k := 241) rfl .nil)))))) ?_
        refine W.region ?_
        refine RL.q (Yld.bin rfl rfl (by first | exact BinV.add (by omega) (by omega) | exact BinV.addW)) rfl ?_
        refine RL.q (Yld.move rfl) rfl ?_
        refine RL.nil ?_
        exact N.famK ⟨x.i + 1, es', ck', m', _⟩ ⟨⟨by dsimp only; omega, hM', hR', hKx.acc hoo.2.2.1, (upd_map (f := accM o.b) (fun _ => rfl)).trans hid⟩, by dsimp only; omega⟩ (.as rfl (by first | rfl | (simp; done) | (congr 1; simp; done) | (congr 1; omega)) .nil) (.cons rfl (.cons rfl (.cons rfl (.cons rfl (.cons rfl .nil))))) (.cons rfl .nil) (.cons rfl (.cons rfl (.cons rfl (.cons rfl .nil))))
      ·
        refine W.seq ?_
        refine W.region ?_
        refine RL.q (Yld.bin rfl rfl BinV.eql) rfl ?_
        refine RL.q (Yld.assign rfl) rfl ?_
        refine RL.nil ?_
        refine N.next ?_
        refine W.keep (.cons (k := 1) rfl (.cons (k := 2) rfl (.cons (k := 7) rfl (.cons (k := 9) rfl (.cons (k := 30) rfl (.cons (k := 31) rfl (.cons (k := 32) rfl (.cons (k := 46) rfl .nil)))))))) (.cons (k := 0) rfl (.cons (k := 1) rfl (.cons (k := 109) rfl (.cons (k := 128) rfl (.cons (k := 240) rfl (.cons (k := 241) rfl .nil)))))) ?_
        first | refine W.condD rfl (fun hc46 => ?_) (fun hc46 => ?_) | (refine W.cond rfl (fun hc46 => ?_) (fun hc46 => ?_) <;> try simp only [Bool.or_eq_true, Bool.and_eq_true, Bool.not_eq_true', Bool.not_eq_false', decide_eq_true_eq, Bool.or_eq_false_iff, Bool.and_eq_false_iff, decide_eq_false_iff_not, beq_iff_eq, beq_eq_false_iff_ne, ne_eq, Decidable.not_not] at hc46)
        ·
          refine W.region ?_
          refine RL.q (Yld.move rfl) rfl ?_
          refine RL.q (Yld.fieldAddr fo36_1 rfl) rfl ?_
          refine RL.q (Yld.load1 (c := 109) Try.underlying3 rfl rfl rfl (by first | exact single_self _ _ | exact pset_self _ _ _ | assumption) rfl) rfl ?_
          refine RL.q (Yld.fieldAddr fo36_2 rfl) rfl ?_
          refine RL.q (Yld.load1 (c := 109) Try.underlying3 rfl rfl rfl (by first | exact single_self _ _ | exact pset_self _ _ _ | assumption) rfl) rfl ?_
          refine RL.e (Eff.call ent31 [240, 241] [240, 241] (.cons rfl (.cons rfl (.cons rfl .nil))) (preject_ct bp bm x.es x.ck x.m x.ms hMx hRx hKx o.a o.b hoo.2.2.2) rfl rfl rfl rfl (by rintro _ _ ⟨_, _, _, _, _, _, rfl⟩; rfl)) rfl ?_
          rintro _ _ ⟨_, ⟨rfl, es', ck', m', hM', hR', rfl⟩, rfl⟩
          refine RL.nil ?_
          refine N.block_normal ?_
          refine N.block_normal ?_
          refine N.next ?_
          refine W.keep (.cons (k := 1) rfl (.cons (k := 2) rfl (.cons (k := 7) rfl (.cons (k := 30) rfl (.cons (k := 31) rfl (.cons (k := 32) rfl .nil)))))) (.cons (k := 0) rfl (.cons (k := 1) rfl (.cons (k := 109) rfl (.cons (k := 128) rfl (.cons (k := 240) rfl (.cons (k := 241) rfl .nil)))))) ?_
          refine W.region ?_
          refine RL.q (Yld.bin rfl rfl (by first | exact BinV.add (by omega) (by omega) | exact BinV.addW)) rfl ?_
          refine RL.q (Yld.move rfl) rfl ?_
          refine RL.nil ?_
          exact N.famK ⟨x.i + 1, es', ck', m', _⟩ ⟨⟨by dsimp only; omega, hM', hR', hKx.rej, (upd_map (f := rejM o.b) (fun _ => rfl)).trans hid⟩, by dsimp only; omega⟩ (.as rfl (by first | rfl | (simp; done) | (congr 1; simp; done) | (congr 1; omega)) .nil) (.cons rfl (.cons rfl (.cons rfl (.cons rfl (.cons rfl .nil))))) (.cons rfl .nil) (.cons rfl (.cons rfl (.cons rfl (.cons rfl .nil))))
        ·
          refine W.skip ?_
          refine N.block_normal ?_
          refine N.block_normal ?_
          refine N.next ?_
          refine W.region ?_
          refine RL.q (Yld.bin rfl rfl (by first | exact BinV.add (by omega) (by omega) | exact BinV.addW)) rfl ?_
          refine RL.q (Yld.move rfl) rfl ?_
          refine RL.nil ?_
          exact N.famK ⟨x.i + 1, x.es, x.ck, x.m, _⟩ ⟨⟨by dsimp only; omega, hMx, hRx, hKx, hid⟩, by dsimp only; omega⟩ (.as rfl (by first | rfl | (simp; done) | (congr 1; simp; done) | (congr 1; omega)) .nil) (.cons rfl (.cons rfl (.cons rfl (.cons rfl (.cons rfl .nil))))) (.cons rfl .nil) (.cons rfl (.cons rfl (.cons rfl (.cons rfl .nil))))
    ·
      refine W.exit ?_
      refine N.then_exit ?_
      refine N.then_exit ?_
      refine N.block_eq ?_
      refine N.next ?_
      refine W.keep (.cons (k := 1) rfl (.cons (k := 2) rfl (.cons (k := 7) rfl .nil))) (.cons (k := 0) rfl (.cons (k := 1) rfl (.cons (k := 128) rfl (.cons (k := 240) rfl (.cons (k := 241) rfl .nil))))) ?_
      refine W.seq ?_
      refine W.region ?_
      refine RL.q (Yld.move rfl) rfl ?_
      refine RL.e (Eff.call ent29 [240, 241] [240, 241] (.cons rfl (.cons rfl .nil)) (pnextN_ct bp bm x.es x.ck x.m x.ms hMx hRx hKx (2)) rfl rfl rfl rfl (by rintro _ _ ⟨_, rfl⟩; rfl)) rfl ?_
      rintro _ _ ⟨_, ⟨rfl, rfl⟩, rfl⟩
      refine RL.q (Yld.move rfl) rfl ?_
      refine RL.e (Eff.call ent29 [240, 241] [240, 241] (.cons rfl (.cons rfl .nil)) (pnextN_ct bp bm x.es x.ck x.m x.ms hMx hRx hKx (3)) rfl rfl rfl rfl (by rintro _ _ ⟨_, rfl⟩; rfl)) rfl ?_
      rintro _ _ ⟨_, ⟨rfl, rfl⟩, rfl⟩
      refine RL.q (Yld.move rfl) rfl ?_
      refine RL.e (Eff.call ent29 [240, 241] [240, 241] (.cons rfl (.cons rfl .nil)) (pnextN_ct bp bm x.es x.ck x.m x.ms hMx hRx hKx (4)) rfl rfl rfl rfl (by rintro _ _ ⟨_, rfl⟩; rfl)) rfl ?_
      rintro _ _ ⟨_, ⟨rfl, rfl⟩, rfl⟩
      refine RL.e (Eff.buildSlice 161 Try.underlying22 sz3 zc3 rfl rfl (.cons rfl rfl (.cons rfl rfl (.cons rfl rfl .nil))) rfl) rfl ?_
      rintro _ _ ⟨b61, rfl, rfl⟩
      refine RL.q (Yld.move rfl) rfl ?_
      refine RL.e (Eff.call ent26 [240, 241] [240, 241] (.cons rfl (.cons rfl .nil)) (pmatchM_ct bp bm x.es x.ck x.m x.ms hMx hRx hKx (2)) rfl rfl rfl rfl (by rintro _ _ ⟨_, rfl⟩; rfl)) rfl ?_
      rintro _ _ ⟨_, ⟨rfl, rfl⟩, rfl⟩
      refine RL.q (Yld.move rfl) rfl ?_
      refine RL.e (Eff.call ent26 [240, 241] [240, 241] (.cons rfl (.cons rfl .nil)) (pmatchM_ct bp bm x.es x.ck x.m x.ms hMx hRx hKx (3)) rfl rfl rfl rfl (by rintro _ _ ⟨_, rfl⟩; rfl)) rfl ?_
      rintro _ _ ⟨_, ⟨rfl, rfl⟩, rfl⟩
      refine RL.q (Yld.move rfl) rfl ?_
      refine RL.e (Eff.call ent26 [240, 241] [240, 241] (.cons rfl (.cons rfl .nil)) (pmatchM_ct bp bm x.es x.ck x.m x.ms hMx hRx hKx (4)) rfl rfl rfl rfl (by rintro _ _ ⟨_, rfl⟩; rfl)) rfl ?_
      rintro _ _ ⟨_, ⟨rfl, rfl⟩, rfl⟩
      refine RL.e (Eff.buildSlice 168 Try.underlying22 sz3 zc3 rfl rfl (.cons rfl rfl (.cons rfl rfl (.cons rfl rfl .nil))) rfl) rfl ?_
      rintro _ _ ⟨b68, rfl, rfl⟩
      refine RL.q (Yld.assign rfl) rfl ?_
      refine RL.q (Yld.assign rfl) rfl ?_
      refine RL.nil ?_
      refine N.next ?_
      refine W.keep (.cons (k := 1) rfl (.cons (k := 2) rfl (.cons (k := 7) rfl (.cons (k := 10) rfl (.cons (k := 11) rfl .nil))))) (.cons (k := 0) rfl (.cons (k := 1) rfl (.cons (k := 128) rfl (.cons (k := 161) rfl (.cons (k := 168) rfl (.cons (k := 240) rfl (.cons (k := 241) rfl .nil))))))) ?_
      refine W.seq ?_
      refine W.region ?_
      refine RL.q (Yld.move rfl) rfl ?_
      refine RL.q (Yld.move rfl) rfl ?_
      refine RL.q (Yld.convIs Try.underlying5 Try.underlying3 rfl (by first | exact IntWalk.i64_in _ ⟨by omega, by omega⟩ | rfl)) rfl ?_
      refine RL.q (Yld.bin rfl rfl (by first | exact BinV.add (by omega) (by omega) | exact BinV.addW)) rfl ?_
      refine RL.q (Yld.move rfl) rfl ?_
      refine RL.e (Eff.call ent32 [240, 241, 1] [240, 241, 1] (.cons rfl (.cons rfl (.cons rfl .nil))) (members_ct bp bm x.es x.ck x.m x.ms hMx hRx hKx (s + 7) (by omega) l _ _ _ hl) rfl rfl rfl rfl (by rintro _ _ ⟨_, _, _, _, _, _, rfl⟩; rfl)) rfl ?_
      rintro _ _ ⟨_, ⟨rfl, es', ck', m', hM', hR', rfl⟩, rfl⟩
      have hKn : MOK (chg 1 (s + 7) x.ms l) := hKx.chg (by omega) (by omega)
      refine RL.nil ?_
      refine N.next ?_
      refine W.keep (.cons (k := 1) rfl (.cons (k := 2) rfl (.cons (k := 7) rfl (.cons (k := 10) rfl (.cons (k := 11) rfl .nil))))) (.cons (k := 0) rfl (.cons (k := 1) rfl (.cons (k := 128) rfl (.cons (k := 161) rfl (.cons (k := 168) rfl (.cons (k := 240) rfl (.cons (k := 241) rfl .nil))))))) ?_
      refine W.seq ?_
      refine W.seq ?_
      refine W.region ?_
      refine RL.q (Yld.move rfl) rfl ?_
      refine RL.q (Yld.lenSl Try.underlying22 rfl) rfl ?_
      refine RL.q (Yld.move rfl) rfl ?_
      refine RL.nil ?_
      refine N.next ?_
      refine W.block ?_
      refine W.loopK (ι := Nat) (fun j => (j ≤ l.length)) (fun j => [(77, .int .i64 (j : Nat))]) (fun j => []) (fun j => l.length - j) (.cons (k := 1) rfl (.cons (k := 2) rfl (.cons (k := 7) rfl (.cons (k := 10) rfl (.cons (k := 11) rfl (.cons (k := 75) rfl (.cons (k := 76) rfl .nil))))))) (.cons (k := 0) rfl (.cons (k := 1) rfl (.cons (k := 128) rfl (.cons (k := 161) rfl (.cons (k := 168) rfl (.cons (k := 240) rfl (.cons (k := 241) rfl .nil))))))) 0 ?_ ?_ ?_ ?_
      · exact Nat.zero_le _
      · exact (.as rfl (by first | rfl | (simp; done) | (congr 1; simp; done) | (congr 1; omega)) .nil)
      · exact .nil
      rintro j hj
      refine W.keep (.cons (k := 77) rfl (.cons (k := 1) rfl (.cons (k := 2) rfl (.cons (k := 7) rfl (.cons (k := 10) rfl (.cons (k := 11) rfl (.cons (k := 75) rfl (.cons (k := 76) rfl .nil)))))))) (.cons (k := 0) rfl (.cons (k := 1) rfl (.cons (k := 128) rfl (.cons (k := 161) rfl (.cons (k := 168) rfl (.cons (k := 240) rfl (.cons (k := 241) rfl .nil))))))) ?_
      refine W.seq ?_
      refine W.region ?_
      refine RL.q (Yld.bin rfl rfl BinV.lss) rfl ?_
      refine RL.nil ?_
      refine N.next ?_
      refine W.seq ?_
      first | refine W.condD rfl (fun hc78 => ?_) (fun hc78 => ?_) | (refine W.cond rfl (fun hc78 => ?_) (fun hc78 => ?_) <;> try simp only [Bool.or_eq_true, Bool.and_eq_true, Bool.not_eq_true', Bool.not_eq_false', decide_eq_true_eq, Bool.or_eq_false_iff, Bool.and_eq_false_iff, decide_eq_false_iff_not, beq_iff_eq, beq_eq_false_iff_ne, ne_eq, Decidable.not_not] at hc78)
      ·
        obtain ⟨z, hz, hlz⟩ : ∃ z, l[j]? = some z ∧ (iz l)[j]? = some [.int .i64 z] := iz_at (show j < l.length by omega)
        have hzl : z ∈ l := List.mem_of_getElem? hz
        refine W.skip ?_
        refine N.next ?_
        refine W.seq ?_
        refine W.block ?_
        refine W.seq ?_
        refine W.region ?_
        refine RL.q (Yld.indexRow Try.underlying22 sz3 rfl rfl (by first | assumption | exact Own.sl (by assumption)) (by first | rfl | omega | (simp; done) | (simp; omega)) (by omega) (by first | omega | (simp; done) | (simp; omega))) rfl ?_
        refine RL.q (by first | exact (by first | exact Yld.loadRow1 (cl := 1) Try.underlying3 rfl rfl rfl (by first | assumption | exact Own.sl (by assumption)) (by assumption) | exact Yld.loadRow1 (cl := 128) Try.underlying3 rfl rfl rfl (by first | assumption | exact Own.sl (by assumption)) (by assumption) | exact Yld.loadRow1 (cl := 161) Try.underlying3 rfl rfl rfl (by first | assumption | exact Own.sl (by assumption)) (by assumption) | exact Yld.loadRow1 (cl := 168) Try.underlying3 rfl rfl rfl (by first | assumption | exact Own.sl (by assumption)) (by assumption) | exact Yld.loadRow1 (cl := 240) Try.underlying3 rfl rfl rfl (by first | assumption | exact Own.sl (by assumption)) (by assumption) | exact Yld.loadRow1 (cl := 241) Try.underlying3 rfl rfl rfl (by first | assumption | exact Own.sl (by assumption)) (by assumption)) | exact (by first | exact Yld.loadRowF (cl := 1) (j := 0) Try.underlying3 rfl rfl rfl (by first | assumption | exact Own.sl (by assumption)) (by assumption) rfl | exact Yld.loadRowF (cl := 128) (j := 0) Try.underlying3 rfl rfl rfl (by first | assumption | exact Own.sl (by assumption)) (by assumption) rfl | exact Yld.loadRowF (cl := 161) (j := 0) Try.underlying3 rfl rfl rfl (by first | assumption | exact Own.sl (by assumption)) (by assumption) rfl | exact Yld.loadRowF (cl := 168) (j := 0) Try.underlying3 rfl rfl rfl (by first | assumption | exact Own.sl (by assumption)) (by assumption) rfl | exact Yld.loadRowF (cl := 240) (j := 0) Try.underlying3 rfl rfl rfl (by first | assumption | exact Own.sl (by assumption)) (by assumption) rfl | exact Yld.loadRowF (cl := 241) (j := 0) Try.underlying3 rfl rfl rfl (by first | assumption | exact Own.sl (by assumption)) (by assumption) rfl)) rfl ?_
        refine RL.q (Yld.assign rfl) rfl ?_
        refine RL.nil ?_
        refine N.next ?_
        refine W.block ?_
        refine W.seq ?_
        refine W.region ?_
        refine RL.q (Yld.move rfl) rfl ?_
        refine RL.q (Yld.bin rfl rfl BinV.lss) rfl ?_
        refine RL.q (Yld.move rfl) rfl ?_
        refine' RL.or (t := 97) (d := 100) 3 rfl (.cons (k := 1) rfl (.cons (k := 2) rfl (.cons (k := 7) rfl (.cons (k := 10) rfl (.cons (k := 11) rfl (.cons (k := 13) rfl (.cons (k := 75) rfl (.cons (k := 76) rfl (.cons (k := 77) rfl (.cons (k := 78) rfl (.cons (k := 79) rfl (.cons (k := 80) rfl (.cons (k := 95) rfl (.cons (k := 96) rfl .nil)))))))))))))) (.cons (k := 0) rfl (.cons (k := 1) rfl (.cons (k := 128) rfl (.cons (k := 161) rfl (.cons (k := 168) rfl (.cons (k := 240) rfl (.cons (k := 241) rfl .nil))))))) ?_ ?_ ?_
        rotate_left 1
        ·
          intro hg97
          refine RL.gq rfl rfl (Yld.move rfl) rfl ?_
          refine RL.gq rfl rfl (Yld.bin rfl rfl BinV.eql) rfl ?_
          refine RL.q (by first | exact Yld.pickT rfl rfl | exact Yld.pickF rfl rfl) rfl ?_
          exact RL.nil (N.meet (.cons rfl (.cons rfl (.cons rfl (.cons rfl (.cons rfl (.cons rfl (.cons rfl (.cons rfl (.cons rfl (.cons rfl (.cons rfl (.cons rfl (.cons rfl (.cons rfl (.cons rfl .nil))))))))))))))) (.cons rfl (.cons rfl (.cons rfl (.cons rfl (.cons rfl (.cons rfl (.cons rfl .nil))))))))
        ·
          intro hg97
          refine RL.gskip rfl rfl rfl rfl ?_
          refine RL.gskip rfl rfl rfl rfl ?_
          refine RL.q (by first | exact Yld.pickT rfl rfl | exact Yld.pickF rfl rfl) rfl ?_
          exact RL.nil (N.meet (.cons rfl (.cons rfl (.cons rfl (.cons rfl (.cons rfl (.cons rfl (.cons rfl (.cons rfl (.cons rfl (.cons rfl (.cons rfl (.cons rfl (.cons rfl (.cons rfl (.cons rfl .nil))))))))))))))) (.cons rfl (.cons rfl (.cons rfl (.cons rfl (.cons rfl (.cons rfl (.cons rfl .nil))))))))
        refine RL.q (Yld.assign rfl) rfl ?_
        refine RL.nil ?_
        refine N.next ?_
        refine W.keep (.cons (k := 1) rfl (.cons (k := 2) rfl (.cons (k := 7) rfl (.cons (k := 10) rfl (.cons (k := 11) rfl (.cons (k := 13) rfl (.cons (k := 75) rfl (.cons (k := 76) rfl (.cons (k := 77) rfl (.cons (k := 94) rfl .nil)))))))))) (.cons (k := 0) rfl (.cons (k := 1) rfl (.cons (k := 128) rfl (.cons (k := 161) rfl (.cons (k := 168) rfl (.cons (k := 240) rfl (.cons (k := 241) rfl .nil))))))) ?_
        refine W.cond rfl (fun hc94 => ?_) (fun hc94 => ?_)
        ·
          refine W.seq ?_
          refine W.region ?_
          refine RL.q (Yld.move rfl) rfl ?_
          refine RL.q (Yld.move rfl) rfl ?_
          refine RL.e (Eff.call ent29 [240, 241] [240, 241] (.cons rfl (.cons rfl .nil)) (pnextN_ct bp bm es' ck' m' (chg 1 (s + 7) x.ms l) hM' hR' hKn (z)) rfl rfl rfl rfl (by rintro _ _ ⟨_, rfl⟩; rfl)) rfl ?_
          rintro _ _ ⟨_, ⟨rfl, rfl⟩, rfl⟩
          refine RL.q (Yld.bin rfl rfl BinV.neq) rfl ?_
          refine RL.q (Yld.move rfl) rfl ?_
          refine' RL.or (t := 105) (d := 110) 5 rfl (.cons (k := 1) rfl (.cons (k := 2) rfl (.cons (k := 7) rfl (.cons (k := 10) rfl (.cons (k := 11) rfl (.cons (k := 13) rfl (.cons (k := 75) rfl (.cons (k := 76) rfl (.cons (k := 77) rfl (.cons (k := 94) rfl (.cons (k := 101) rfl (.cons (k := 102) rfl (.cons (k := 103) rfl (.cons (k := 104) rfl .nil)))))))))))))) (.cons (k := 0) rfl (.cons (k := 1) rfl (.cons (k := 128) rfl (.cons (k := 161) rfl (.cons (k := 168) rfl (.cons (k := 240) rfl (.cons (k := 241) rfl .nil))))))) ?_ ?_ ?_
          rotate_left 1
          ·
            intro hg105
            refine RL.gq rfl rfl (Yld.move rfl) rfl ?_
            refine RL.gq rfl rfl (Yld.move rfl) rfl ?_
            refine RL.ge rfl rfl (Eff.call ent26 [240, 241] [240, 241] (.cons rfl (.cons rfl .nil)) (pmatchM_ct bp bm es' ck' m' (chg 1 (s + 7) x.ms l) hM' hR' hKn (z)) rfl rfl rfl rfl (by rintro _ _ ⟨_, rfl⟩; rfl)) rfl ?_
            rintro _ _ ⟨_, ⟨rfl, rfl⟩, rfl⟩
            refine RL.gq rfl rfl (Yld.bin rfl rfl BinV.neq) rfl ?_
            refine RL.q (by first | exact Yld.pickT rfl rfl | exact Yld.pickF rfl rfl) rfl ?_
            exact RL.nil (N.meet (.cons rfl (.cons rfl (.cons rfl (.cons rfl (.cons rfl (.cons rfl (.cons rfl (.cons rfl (.cons rfl (.cons rfl (.cons rfl (.cons rfl (.cons rfl (.cons rfl (.cons rfl .nil))))))))))))))) (.cons rfl (.cons rfl (.cons rfl (.cons rfl (.cons rfl (.cons rfl (.cons rfl .nil))))))))
          ·
            intro hg105
            refine RL.gskip rfl rfl rfl rfl ?_
            refine RL.gskip rfl rfl rfl rfl ?_
            refine RL.gskip rfl rfl rfl rfl ?_
            refine RL.gskip rfl rfl rfl rfl ?_
            refine RL.q (by first | exact Yld.pickT rfl rfl | exact Yld.pickF rfl rfl) rfl ?_
            exact RL.nil (N.meet (.cons rfl (.cons rfl (.cons rfl (.cons rfl (.cons rfl (.cons rfl (.cons rfl (.cons rfl (.cons rfl (.cons rfl (.cons rfl (.cons rfl (.cons rfl (.cons rfl (.cons rfl .nil))))))))))))))) (.cons rfl (.cons rfl (.cons rfl (.cons rfl (.cons rfl (.cons rfl (.cons rfl .nil))))))))
          refine RL.nil ?_
          refine N.next ?_
          refine W.keep (.cons (k := 1) rfl (.cons (k := 2) rfl (.cons (k := 7) rfl (.cons (k := 10) rfl (.cons (k := 11) rfl (.cons (k := 75) rfl (.cons (k := 76) rfl (.cons (k := 77) rfl (.cons (k := 110) rfl .nil))))))))) (.cons (k := 0) rfl (.cons (k := 1) rfl (.cons (k := 128) rfl (.cons (k := 161) rfl (.cons (k := 168) rfl (.cons (k := 240) rfl (.cons (k := 241) rfl .nil))))))) ?_
          refine W.cond rfl (fun hc110 => ?_) (fun hc110 => ?_)
          ·
            exfalso
            rw [out_none (by simp only [Bool.or_eq_true, decide_eq_true_eq] at hc94; exact hc94)] at hc110; cases hc110 --stop
          ·
            refine W.skip ?_
            refine N.block_normal ?_
            refine N.block_normal ?_
            refine N.next ?_
            refine W.region ?_
            refine RL.q (Yld.bin rfl rfl (by first | exact BinV.add (by omega) (by omega) | exact BinV.addW)) rfl ?_
            refine RL.q (Yld.move rfl) rfl ?_
            refine RL.nil ?_
            exact N.famK (j + 1) ⟨by omega, by omega⟩ (.as rfl (by first | rfl | (simp; done) | (congr 1; simp; done) | (congr 1; omega)) .nil) (.cons rfl (.cons rfl (.cons rfl (.cons rfl (.cons rfl (.cons rfl (.cons rfl .nil))))))) .nil (.cons rfl (.cons rfl (.cons rfl (.cons rfl (.cons rfl (.cons rfl (.cons rfl .nil)))))))
        ·
          simp only [Bool.or_eq_false_iff, decide_eq_false_iff_not] at hc94
          have hz2 : 2 ≤ z := by omega
          refine W.seq ?_
          refine W.region ?_
          refine RL.q (Yld.move rfl) rfl ?_
          refine RL.q (Yld.bin rfl rfl BinV.geq) rfl ?_
          refine RL.q (Yld.move rfl) rfl ?_
          refine' RL.and (t := 114) (d := 117) 3 rfl (.cons (k := 1) rfl (.cons (k := 2) rfl (.cons (k := 7) rfl (.cons (k := 10) rfl (.cons (k := 11) rfl (.cons (k := 13) rfl (.cons (k := 75) rfl (.cons (k := 76) rfl (.cons (k := 77) rfl (.cons (k := 94) rfl (.cons (k := 112) rfl (.cons (k := 113) rfl .nil)))))))))))) (.cons (k := 0) rfl (.cons (k := 1) rfl (.cons (k := 128) rfl (.cons (k := 161) rfl (.cons (k := 168) rfl (.cons (k := 240) rfl (.cons (k := 241) rfl .nil))))))) ?_ ?_ ?_
          rotate_left 1
          ·
            intro hg114
            refine RL.gq rfl rfl (Yld.move rfl) rfl ?_
            refine RL.gq rfl rfl (Yld.bin rfl rfl BinV.leq) rfl ?_
            refine RL.q (by first | exact Yld.pickT rfl rfl | exact Yld.pickF rfl rfl) rfl ?_
            exact RL.nil (N.meet (.cons rfl (.cons rfl (.cons rfl (.cons rfl (.cons rfl (.cons rfl (.cons rfl (.cons rfl (.cons rfl (.cons rfl (.cons rfl (.cons rfl (.cons rfl .nil))))))))))))) (.cons rfl (.cons rfl (.cons rfl (.cons rfl (.cons rfl (.cons rfl (.cons rfl .nil))))))))
          ·
            intro hg114
            refine RL.gskip rfl rfl rfl rfl ?_
            refine RL.gskip rfl rfl rfl rfl ?_
            refine RL.q (by first | exact Yld.pickT rfl rfl | exact Yld.pickF rfl rfl) rfl ?_
            exact RL.nil (N.meet (.cons rfl (.cons rfl (.cons rfl (.cons rfl (.cons rfl (.cons rfl (.cons rfl (.cons rfl (.cons rfl (.cons rfl (.cons rfl (.cons rfl (.cons rfl .nil))))))))))))) (.cons rfl (.cons rfl (.cons rfl (.cons rfl (.cons rfl (.cons rfl (.cons rfl .nil))))))))
          refine RL.q (Yld.assign rfl) rfl ?_
          refine RL.nil ?_
          refine N.next ?_
          refine W.keep (.cons (k := 1) rfl (.cons (k := 2) rfl (.cons (k := 7) rfl (.cons (k := 10) rfl (.cons (k := 11) rfl (.cons (k := 13) rfl (.cons (k := 75) rfl (.cons (k := 76) rfl (.cons (k := 77) rfl (.cons (k := 111) rfl .nil)))))))))) (.cons (k := 0) rfl (.cons (k := 1) rfl (.cons (k := 128) rfl (.cons (k := 161) rfl (.cons (k := 168) rfl (.cons (k := 240) rfl (.cons (k := 241) rfl .nil))))))) ?_
          refine W.cond rfl (fun hc111 => ?_) (fun hc111 => ?_)
          ·
            simp only [Bool.and_eq_true, decide_eq_true_eq, ge_iff_le] at hc111
            obtain ⟨xz, hxz⟩ := (fnd_ids hid).2 hc111
            have hq : (z = 2 ∨ z = 3 ∨ z = 4) := by omega
            have hlq : (iz [nxOf x.ms 2, nxOf x.ms 3, nxOf x.ms 4])[(z - 2).toNat]? = some [.int .i64 (nxOf x.ms z)] := by rcases hq with rfl | rfl | rfl <;> rfl
            have hlt : (iz [mtOf x.ms 2, mtOf x.ms 3, mtOf x.ms 4])[(z - 2).toNat]? = some [.int .i64 (mtOf x.ms z)] := by rcases hq with rfl | rfl | rfl <;> rfl
            have hS2 := (iz_lit (b := b61) (e := 3) (l := [nxOf x.ms 2, nxOf x.ms 3, nxOf x.ms 4]) rfl rfl (by simp [maxLen])).sl
            have hS3 := (iz_lit (b := b68) (e := 3) (l := [mtOf x.ms 2, mtOf x.ms 3, mtOf x.ms 4]) rfl rfl (by simp [maxLen])).sl
            refine W.seq ?_
            refine W.draw (.q 0 (.q 1 (.q 3 (.q 4 (.q 5 (.q 6 (.q 7 (.one 2 (.q 8 (.q 9 (.q 10 (.q 11 (.q 13 (.q 14 (.q 15 (.q 16 (.q 17 (.one 12 (.q 18 (.q 19 .done)))))))))))))))))))) (.cons (k := 0) rfl (.cons (k := 1) rfl (.cons (k := 128) rfl (.cons (k := 161) rfl (.cons (k := 168) rfl .nil))))) mix (by kernel_rfl) (by kernel_rfl) ?_
            refine DL.q rfl (Yld.move rfl) rfl ?_
            refine DL.q rfl (Yld.move rfl) rfl ?_
            refine DL.q rfl (Yld.move rfl) rfl ?_
            refine DL.q rfl (Yld.move rfl) rfl ?_
            refine DL.q rfl (Yld.bin rfl rfl (by first | exact BinV.sub (by omega) (by omega) | exact BinV.subW)) rfl ?_
            refine DL.q rfl (Yld.indexRow Try.underlying22 sz3 rfl rfl (by first | assumption | exact Own.sl (by assumption)) (by first | rfl | omega | (simp; done) | (simp; omega)) (by omega) (by first | omega | (simp; done) | (simp; omega))) rfl ?_
            refine DL.q rfl (by first | exact (by first | exact Yld.loadRow1 (cl := 1) Try.underlying3 rfl rfl rfl (by first | assumption | exact Own.sl (by assumption)) (by assumption) | exact Yld.loadRow1 (cl := 128) Try.underlying3 rfl rfl rfl (by first | assumption | exact Own.sl (by assumption)) (by assumption) | exact Yld.loadRow1 (cl := 161) Try.underlying3 rfl rfl rfl (by first | assumption | exact Own.sl (by assumption)) (by assumption) | exact Yld.loadRow1 (cl := 168) Try.underlying3 rfl rfl rfl (by first | assumption | exact Own.sl (by assumption)) (by assumption) | exact Yld.loadRow1 (cl := 240) Try.underlying3 rfl rfl rfl (by first | assumption | exact Own.sl (by assumption)) (by assumption) | exact Yld.loadRow1 (cl := 241) Try.underlying3 rfl rfl rfl (by first | assumption | exact Own.sl (by assumption)) (by assumption)) | exact (by first | exact Yld.loadRowF (cl := 1) (j := 0) Try.underlying3 rfl rfl rfl (by first | assumption | exact Own.sl (by assumption)) (by assumption) rfl | exact Yld.loadRowF (cl := 128) (j := 0) Try.underlying3 rfl rfl rfl (by first | assumption | exact Own.sl (by assumption)) (by assumption) rfl | exact Yld.loadRowF (cl := 161) (j := 0) Try.underlying3 rfl rfl rfl (by first | assumption | exact Own.sl (by assumption)) (by assumption) rfl | exact Yld.loadRowF (cl := 168) (j := 0) Try.underlying3 rfl rfl rfl (by first | assumption | exact Own.sl (by assumption)) (by assumption) rfl | exact Yld.loadRowF (cl := 240) (j := 0) Try.underlying3 rfl rfl rfl (by first | assumption | exact Own.sl (by assumption)) (by assumption) rfl | exact Yld.loadRowF (cl := 241) (j := 0) Try.underlying3 rfl rfl rfl (by first | assumption | exact Own.sl (by assumption)) (by assumption) rfl)) rfl ?_
            refine DL.one rfl (Eff.call ent29 [240, 241] [240, 241] (.cons rfl (.cons rfl .nil)) (pnextN_ct bp bm es' ck' m' (chg 1 (s + 7) x.ms l) hM' hR' hKn (z)) rfl rfl rfl rfl (by rintro _ _ ⟨_, rfl⟩; rfl)) rfl (by rintro _ _ ⟨_, ⟨rfl, rfl⟩, rfl⟩; repeat (first | exact .nil | refine .cons rfl ?_)) ?_
            rintro _ _ ⟨_, ⟨rfl, rfl⟩, rfl⟩
            refine DL.q rfl (Yld.bin rfl rfl BinV.neq) rfl ?_
            refine DL.q rfl (Yld.move rfl) rfl ?_
            refine' DL.or (t := 127) (d := 137) 10 rfl (.cons (k := 1) rfl (.cons (k := 2) rfl (.cons (k := 7) rfl (.cons (k := 10) rfl (.cons (k := 11) rfl (.cons (k := 13) rfl (.cons (k := 75) rfl (.cons (k := 76) rfl (.cons (k := 77) rfl (.cons (k := 111) rfl (.cons (k := 118) rfl (.cons (k := 119) rfl (.cons (k := 120) rfl (.cons (k := 121) rfl (.cons (k := 122) rfl (.cons (k := 123) rfl (.cons (k := 124) rfl (.cons (k := 125) rfl (.cons (k := 126) rfl .nil))))))))))))))))))) (.cons (k := 0) rfl (.cons (k := 1) rfl (.cons (k := 128) rfl (.cons (k := 161) rfl (.cons (k := 168) rfl (.cons (k := 240) rfl (.cons (k := 241) rfl .nil))))))) ?_ ?_ ?_
            rotate_left 1
            ·
              intro hg127
              refine DL.gq rfl rfl rfl (Yld.move rfl) rfl ?_
              refine DL.gq rfl rfl rfl (Yld.move rfl) rfl ?_
              refine DL.gq rfl rfl rfl (Yld.move rfl) rfl ?_
              refine DL.gq rfl rfl rfl (Yld.move rfl) rfl ?_
              refine DL.gq rfl rfl rfl (Yld.bin rfl rfl (by first | exact BinV.sub (by omega) (by omega) | exact BinV.subW)) rfl ?_
              refine DL.gq rfl rfl rfl (Yld.indexRow Try.underlying22 sz3 rfl rfl (by first | assumption | exact Own.sl (by assumption)) (by first | rfl | omega | (simp; done) | (simp; omega)) (by omega) (by first | omega | (simp; done) | (simp; omega))) rfl ?_
              refine DL.gq rfl rfl rfl (by first | exact (by first | exact Yld.loadRow1 (cl := 240) Try.underlying3 rfl rfl rfl (by first | assumption | exact Own.sl (by assumption)) (by assumption) | exact Yld.loadRow1 (cl := 241) Try.underlying3 rfl rfl rfl (by first | assumption | exact Own.sl (by assumption)) (by assumption) | exact Yld.loadRow1 (cl := 1) Try.underlying3 rfl rfl rfl (by first | assumption | exact Own.sl (by assumption)) (by assumption) | exact Yld.loadRow1 (cl := 128) Try.underlying3 rfl rfl rfl (by first | assumption | exact Own.sl (by assumption)) (by assumption) | exact Yld.loadRow1 (cl := 161) Try.underlying3 rfl rfl rfl (by first | assumption | exact Own.sl (by assumption)) (by assumption) | exact Yld.loadRow1 (cl := 168) Try.underlying3 rfl rfl rfl (by first | assumption | exact Own.sl (by assumption)) (by assumption)) | exact (by first | exact Yld.loadRowF (cl := 240) (j := 0) Try.underlying3 rfl rfl rfl (by first | assumption | exact Own.sl (by assumption)) (by assumption) rfl | exact Yld.loadRowF (cl := 241) (j := 0) Try.underlying3 rfl rfl rfl (by first | assumption | exact Own.sl (by assumption)) (by assumption) rfl | exact Yld.loadRowF (cl := 1) (j := 0) Try.underlying3 rfl rfl rfl (by first | assumption | exact Own.sl (by assumption)) (by assumption) rfl | exact Yld.loadRowF (cl := 128) (j := 0) Try.underlying3 rfl rfl rfl (by first | assumption | exact Own.sl (by assumption)) (by assumption) rfl | exact Yld.loadRowF (cl := 161) (j := 0) Try.underlying3 rfl rfl rfl (by first | assumption | exact Own.sl (by assumption)) (by assumption) rfl | exact Yld.loadRowF (cl := 168) (j := 0) Try.underlying3 rfl rfl rfl (by first | assumption | exact Own.sl (by assumption)) (by assumption) rfl)) rfl ?_
              refine DL.gone rfl rfl rfl (Eff.call ent26 [240, 241] [240, 241] (.cons rfl (.cons rfl .nil)) (pmatchM_ct bp bm es' ck' m' (chg 1 (s + 7) x.ms l) hM' hR' hKn (z)) rfl rfl rfl rfl (by rintro _ _ ⟨_, rfl⟩; rfl)) rfl (by rintro _ _ ⟨_, ⟨rfl, rfl⟩, rfl⟩; repeat (first | exact .nil | refine .cons rfl ?_)) ?_
              rintro _ _ ⟨_, ⟨rfl, rfl⟩, rfl⟩
              refine DL.gq rfl rfl rfl (Yld.bin rfl rfl BinV.neq) rfl ?_
              refine DL.q rfl (by first | exact Yld.pickT rfl rfl | exact Yld.pickF rfl rfl) rfl ?_
              exact DL.meet (.cons rfl (.cons rfl (.cons rfl (.cons rfl (.cons rfl (.cons rfl (.cons rfl (.cons rfl (.cons rfl (.cons rfl (.cons rfl (.cons rfl (.cons rfl (.cons rfl (.cons rfl (.cons rfl (.cons rfl (.cons rfl (.cons rfl (.cons rfl .nil)))))))))))))))))))) (.cons rfl (.cons rfl (.cons rfl (.cons rfl (.cons rfl (.cons rfl (.cons rfl .nil)))))))
            ·
              intro hg127
              refine DL.gskip rfl rfl rfl rfl rfl ?_
              refine DL.gskip rfl rfl rfl rfl rfl ?_
              refine DL.gskip rfl rfl rfl rfl rfl ?_
              refine DL.gskip rfl rfl rfl rfl rfl ?_
              refine DL.gskip rfl rfl rfl rfl rfl ?_
              refine DL.gskip rfl rfl rfl rfl rfl ?_
              refine DL.gskip rfl rfl rfl rfl rfl ?_
              refine DL.gskip1 rfl rfl rfl rfl rfl ?_
              refine DL.gskip rfl rfl rfl rfl rfl ?_
              refine DL.q rfl (by first | exact Yld.pickT rfl rfl | exact Yld.pickF rfl rfl) rfl ?_
              exact DL.meet (.cons rfl (.cons rfl (.cons rfl (.cons rfl (.cons rfl (.cons rfl (.cons rfl (.cons rfl (.cons rfl (.cons rfl (.cons rfl (.cons rfl (.cons rfl (.cons rfl (.cons rfl (.cons rfl (.cons rfl (.cons rfl (.cons rfl (.cons rfl .nil)))))))))))))))))))) (.cons rfl (.cons rfl (.cons rfl (.cons rfl (.cons rfl (.cons rfl (.cons rfl .nil)))))))
            refine DL.done ?_
            refine N.next ?_
            refine W.keep (.cons (k := 1) rfl (.cons (k := 2) rfl (.cons (k := 7) rfl (.cons (k := 10) rfl (.cons (k := 11) rfl (.cons (k := 75) rfl (.cons (k := 76) rfl (.cons (k := 77) rfl (.cons (k := 137) rfl .nil))))))))) (.cons (k := 0) rfl (.cons (k := 1) rfl (.cons (k := 128) rfl (.cons (k := 161) rfl (.cons (k := 168) rfl (.cons (k := 240) rfl (.cons (k := 241) rfl .nil))))))) ?_
            refine W.cond rfl (fun hc137 => ?_) (fun hc137 => ?_)
            ·
              exfalso
              rw [keep_in hzl hz2 hxz] at hc137; cases hc137 --stop
            ·
              refine W.skip ?_
              refine N.block_normal ?_
              refine N.block_normal ?_
              refine N.next ?_
              refine W.region ?_
              refine RL.q (Yld.bin rfl rfl (by first | exact BinV.add (by omega) (by omega) | exact BinV.addW)) rfl ?_
              refine RL.q (Yld.move rfl) rfl ?_
              refine RL.nil ?_
              exact N.famK (j + 1) ⟨by omega, by omega⟩ (.as rfl (by first | rfl | (simp; done) | (congr 1; simp; done) | (congr 1; omega)) .nil) (.cons rfl (.cons rfl (.cons rfl (.cons rfl (.cons rfl (.cons rfl (.cons rfl .nil))))))) .nil (.cons rfl (.cons rfl (.cons rfl (.cons rfl (.cons rfl (.cons rfl (.cons rfl .nil)))))))
          ·
            have hxn : fnd x.ms z = none := by
              cases h : fnd x.ms z with
              | none => rfl
              | some y => have h2 := (fnd_ids hid).1 ⟨y, h⟩; simp [h2.1, h2.2] at hc111
            refine W.seq ?_
            refine W.region ?_
            refine RL.q (Yld.move rfl) rfl ?_
            refine RL.q (Yld.move rfl) rfl ?_
            refine RL.e (Eff.call ent29 [240, 241] [240, 241] (.cons rfl (.cons rfl .nil)) (pnextN_ct bp bm es' ck' m' (chg 1 (s + 7) x.ms l) hM' hR' hKn (z)) rfl rfl rfl rfl (by rintro _ _ ⟨_, rfl⟩; rfl)) rfl ?_
            rintro _ _ ⟨_, ⟨rfl, rfl⟩, rfl⟩
            refine RL.q (Yld.move rfl) rfl ?_
            refine RL.q (Yld.convIs Try.underlying5 Try.underlying3 rfl (by first | exact IntWalk.i64_in _ ⟨by omega, by omega⟩ | rfl)) rfl ?_
            refine RL.q (Yld.bin rfl rfl (by first | exact BinV.add (by omega) (by omega) | exact BinV.addW)) rfl ?_
            refine RL.q (Yld.bin rfl rfl BinV.neq) rfl ?_
            refine RL.q (Yld.move rfl) rfl ?_
            refine' RL.or (t := 88) (d := 93) 5 rfl (.cons (k := 1) rfl (.cons (k := 2) rfl (.cons (k := 7) rfl (.cons (k := 10) rfl (.cons (k := 11) rfl (.cons (k := 13) rfl (.cons (k := 75) rfl (.cons (k := 76) rfl (.cons (k := 77) rfl (.cons (k := 81) rfl (.cons (k := 82) rfl (.cons (k := 83) rfl (.cons (k := 84) rfl (.cons (k := 85) rfl (.cons (k := 86) rfl (.cons (k := 87) rfl (.cons (k := 111) rfl .nil))))))))))))))))) (.cons (k := 0) rfl (.cons (k := 1) rfl (.cons (k := 128) rfl (.cons (k := 161) rfl (.cons (k := 168) rfl (.cons (k := 240) rfl (.cons (k := 241) rfl .nil))))))) ?_ ?_ ?_
            rotate_left 1
            ·
              intro hg88
              refine RL.gq rfl rfl (Yld.move rfl) rfl ?_
              refine RL.gq rfl rfl (Yld.move rfl) rfl ?_
              refine RL.ge rfl rfl (Eff.call ent26 [240, 241] [240, 241] (.cons rfl (.cons rfl .nil)) (pmatchM_ct bp bm es' ck' m' (chg 1 (s + 7) x.ms l) hM' hR' hKn (z)) rfl rfl rfl rfl (by rintro _ _ ⟨_, rfl⟩; rfl)) rfl ?_
              rintro _ _ ⟨_, ⟨rfl, rfl⟩, rfl⟩
              refine RL.gq rfl rfl (Yld.bin rfl rfl BinV.neq) rfl ?_
              refine RL.q (by first | exact Yld.pickT rfl rfl | exact Yld.pickF rfl rfl) rfl ?_
              exact RL.nil (N.meet (.cons rfl (.cons rfl (.cons rfl (.cons rfl (.cons rfl (.cons rfl (.cons rfl (.cons rfl (.cons rfl (.cons rfl (.cons rfl (.cons rfl (.cons rfl (.cons rfl (.cons rfl (.cons rfl (.cons rfl (.cons rfl .nil)))))))))))))))))) (.cons rfl (.cons rfl (.cons rfl (.cons rfl (.cons rfl (.cons rfl (.cons rfl .nil))))))))
            ·
              intro hg88
              refine RL.gskip rfl rfl rfl rfl ?_
              refine RL.gskip rfl rfl rfl rfl ?_
              refine RL.gskip rfl rfl rfl rfl ?_
              refine RL.gskip rfl rfl rfl rfl ?_
              refine RL.q (by first | exact Yld.pickT rfl rfl | exact Yld.pickF rfl rfl) rfl ?_
              exact RL.nil (N.meet (.cons rfl (.cons rfl (.cons rfl (.cons rfl (.cons rfl (.cons rfl (.cons rfl (.cons rfl (.cons rfl (.cons rfl (.cons rfl (.cons rfl (.cons rfl (.cons rfl (.cons rfl (.cons rfl (.cons rfl (.cons rfl .nil)))))))))))))))))) (.cons rfl (.cons rfl (.cons rfl (.cons rfl (.cons rfl (.cons rfl (.cons rfl .nil))))))))
            refine RL.nil ?_
            refine N.next ?_
            refine W.keep (.cons (k := 1) rfl (.cons (k := 2) rfl (.cons (k := 7) rfl (.cons (k := 10) rfl (.cons (k := 11) rfl (.cons (k := 75) rfl (.cons (k := 76) rfl (.cons (k := 77) rfl (.cons (k := 93) rfl .nil))))))))) (.cons (k := 0) rfl (.cons (k := 1) rfl (.cons (k := 128) rfl (.cons (k := 161) rfl (.cons (k := 168) rfl (.cons (k := 240) rfl (.cons (k := 241) rfl .nil))))))) ?_
            refine W.cond rfl (fun hc93 => ?_) (fun hc93 => ?_)
            ·
              exfalso
              rw [new_in hs0 hzl hz2 hxn] at hc93; cases hc93 --stop
            ·
              refine W.skip ?_
              refine N.block_normal ?_
              refine N.block_normal ?_
              refine N.next ?_
              refine W.region ?_
              refine RL.q (Yld.bin rfl rfl (by first | exact BinV.add (by omega) (by omega) | exact BinV.addW)) rfl ?_
              refine RL.q (Yld.move rfl) rfl ?_
              refine RL.nil ?_
              exact N.famK (j + 1) ⟨by omega, by omega⟩ (.as rfl (by first | rfl | (simp; done) | (congr 1; simp; done) | (congr 1; omega)) .nil) (.cons rfl (.cons rfl (.cons rfl (.cons rfl (.cons rfl (.cons rfl (.cons rfl .nil))))))) .nil (.cons rfl (.cons rfl (.cons rfl (.cons rfl (.cons rfl (.cons rfl (.cons rfl .nil)))))))
      ·
        refine W.exit ?_
        refine N.then_exit ?_
        refine N.then_exit ?_
        refine N.block_eq ?_
        refine N.next ?_
        refine W.keep (.cons (k := 2) rfl (.cons (k := 7) rfl .nil)) (.cons (k := 0) rfl (.cons (k := 1) rfl (.cons (k := 128) rfl (.cons (k := 161) rfl (.cons (k := 168) rfl (.cons (k := 240) rfl (.cons (k := 241) rfl .nil))))))) ?_
        refine W.seq ?_
        refine W.seq ?_
        refine W.region ?_
        refine RL.e (Eff.buildSlice 239 Try.underlying22 sz3 zc3 rfl rfl (.cons rfl rfl (.cons rfl rfl (.cons rfl rfl .nil))) rfl) rfl ?_
        rintro _ _ ⟨b139, rfl, rfl⟩
        refine RL.q (Yld.lenSl Try.underlying22 rfl) rfl ?_
        refine RL.q (Yld.move rfl) rfl ?_
        refine RL.nil ?_
        refine N.next ?_
        refine W.block ?_
        refine W.loopK (ι := Nat) (fun j => (j ≤ 3)) (fun j => [(141, .int .i64 (j : Nat))]) (fun j => []) (fun j => 3 - j) (.cons (k := 2) rfl (.cons (k := 7) rfl (.cons (k := 139) rfl (.cons (k := 140) rfl .nil)))) (.cons (k := 0) rfl (.cons (k := 1) rfl (.cons (k := 128) rfl (.cons (k := 161) rfl (.cons (k := 168) rfl (.cons (k := 239) rfl (.cons (k := 240) rfl (.cons (k := 241) rfl .nil)))))))) 0 ?_ ?_ ?_ ?_
        · exact Nat.zero_le _
        · exact (.as rfl (by first | rfl | (simp; done) | (congr 1; simp; done) | (congr 1; omega)) .nil)
        · exact .nil
        rintro j hj
        refine W.keep (.cons (k := 141) rfl (.cons (k := 2) rfl (.cons (k := 7) rfl (.cons (k := 139) rfl (.cons (k := 140) rfl .nil))))) (.cons (k := 0) rfl (.cons (k := 1) rfl (.cons (k := 128) rfl (.cons (k := 161) rfl (.cons (k := 168) rfl (.cons (k := 239) rfl (.cons (k := 240) rfl (.cons (k := 241) rfl .nil)))))))) ?_
        refine W.seq ?_
        refine W.region ?_
        refine RL.q (Yld.bin rfl rfl BinV.lss) rfl ?_
        refine RL.nil ?_
        refine N.next ?_
        refine W.seq ?_
        first | refine W.condD rfl (fun hc142 => ?_) (fun hc142 => ?_) | (refine W.cond rfl (fun hc142 => ?_) (fun hc142 => ?_) <;> try simp only [Bool.or_eq_true, Bool.and_eq_true, Bool.not_eq_true', Bool.not_eq_false', decide_eq_true_eq, Bool.or_eq_false_iff, Bool.and_eq_false_iff, decide_eq_false_iff_not, beq_iff_eq, beq_eq_false_iff_ne, ne_eq, Decidable.not_not] at hc142)
        ·
          obtain ⟨z, hz, hlz⟩ : ∃ z, ([2, 3, 4] : List Int)[j]? = some z ∧ (iz [2, 3, 4])[j]? = some [.int .i64 z] := iz_at (show j < ([2, 3, 4] : List Int).length from by simp; omega)
          have hS4 := (iz_lit (b := b139) (e := 3) (l := [2, 3, 4]) rfl rfl (by decide)).sl
          refine W.skip ?_
          refine N.next ?_
          refine W.seq ?_
          refine W.block ?_
          refine W.seq ?_
          refine W.region ?_
          refine RL.q (Yld.indexRow Try.underlying22 sz3 rfl rfl (by first | assumption | exact Own.sl (by assumption)) (by first | rfl | omega | (simp; done) | (simp; omega)) (by omega) (by first | omega | (simp; done) | (simp; omega))) rfl ?_
          refine RL.q (by first | exact (by first | exact Yld.loadRow1 (cl := 1) Try.underlying3 rfl rfl rfl (by first | assumption | exact Own.sl (by assumption)) (by assumption) | exact Yld.loadRow1 (cl := 128) Try.underlying3 rfl rfl rfl (by first | assumption | exact Own.sl (by assumption)) (by assumption) | exact Yld.loadRow1 (cl := 161) Try.underlying3 rfl rfl rfl (by first | assumption | exact Own.sl (by assumption)) (by assumption) | exact Yld.loadRow1 (cl := 168) Try.underlying3 rfl rfl rfl (by first | assumption | exact Own.sl (by assumption)) (by assumption) | exact Yld.loadRow1 (cl := 239) Try.underlying3 rfl rfl rfl (by first | assumption | exact Own.sl (by assumption)) (by assumption) | exact Yld.loadRow1 (cl := 240) Try.underlying3 rfl rfl rfl (by first | assumption | exact Own.sl (by assumption)) (by assumption) | exact Yld.loadRow1 (cl := 241) Try.underlying3 rfl rfl rfl (by first | assumption | exact Own.sl (by assumption)) (by assumption)) | exact (by first | exact Yld.loadRowF (cl := 1) (j := 0) Try.underlying3 rfl rfl rfl (by first | assumption | exact Own.sl (by assumption)) (by assumption) rfl | exact Yld.loadRowF (cl := 128) (j := 0) Try.underlying3 rfl rfl rfl (by first | assumption | exact Own.sl (by assumption)) (by assumption) rfl | exact Yld.loadRowF (cl := 161) (j := 0) Try.underlying3 rfl rfl rfl (by first | assumption | exact Own.sl (by assumption)) (by assumption) rfl | exact Yld.loadRowF (cl := 168) (j := 0) Try.underlying3 rfl rfl rfl (by first | assumption | exact Own.sl (by assumption)) (by assumption) rfl | exact Yld.loadRowF (cl := 239) (j := 0) Try.underlying3 rfl rfl rfl (by first | assumption | exact Own.sl (by assumption)) (by assumption) rfl | exact Yld.loadRowF (cl := 240) (j := 0) Try.underlying3 rfl rfl rfl (by first | assumption | exact Own.sl (by assumption)) (by assumption) rfl | exact Yld.loadRowF (cl := 241) (j := 0) Try.underlying3 rfl rfl rfl (by first | assumption | exact Own.sl (by assumption)) (by assumption) rfl)) rfl ?_
          refine RL.q (Yld.assign rfl) rfl ?_
          refine RL.nil ?_
          refine N.next ?_
          refine W.seq ?_
          refine W.region ?_
          refine RL.q (Yld.move rfl) rfl ?_
          refine RL.q (Yld.move rfl) rfl ?_
          refine RL.e (Eff.call ent33 [1] [1] (.cons rfl (.cons rfl .nil)) (has_ct l _ _ _ hl z) rfl rfl rfl rfl (by rintro _ _ ⟨_, rfl⟩; rfl)) rfl ?_
          rintro _ _ ⟨_, ⟨rfl, rfl⟩, rfl⟩
          refine RL.q (by first | exact Yld.notD rfl | exact Yld.not rfl) rfl ?_
          refine RL.q (Yld.move rfl) rfl ?_
          refine' RL.and (t := 149) (d := 154) 5 rfl (.cons (k := 2) rfl (.cons (k := 7) rfl (.cons (k := 15) rfl (.cons (k := 139) rfl (.cons (k := 140) rfl (.cons (k := 141) rfl (.cons (k := 142) rfl (.cons (k := 143) rfl (.cons (k := 144) rfl (.cons (k := 145) rfl (.cons (k := 146) rfl (.cons (k := 147) rfl (.cons (k := 148) rfl .nil))))))))))))) (.cons (k := 0) rfl (.cons (k := 1) rfl (.cons (k := 128) rfl (.cons (k := 161) rfl (.cons (k := 168) rfl (.cons (k := 239) rfl (.cons (k := 240) rfl (.cons (k := 241) rfl .nil)))))))) ?_ ?_ ?_
          rotate_left 1
          ·
            intro hg149
            refine RL.gq rfl rfl (Yld.move rfl) rfl ?_
            refine RL.gq rfl rfl (Yld.move rfl) rfl ?_
            refine RL.ge rfl rfl (Eff.call ent29 [240, 241] [240, 241] (.cons rfl (.cons rfl .nil)) (pnextN_ct bp bm es' ck' m' (chg 1 (s + 7) x.ms l) hM' hR' hKn (z)) rfl rfl rfl rfl (by rintro _ _ ⟨_, rfl⟩; rfl)) rfl ?_
            rintro _ _ ⟨_, ⟨rfl, rfl⟩, rfl⟩
            refine RL.gq rfl rfl (Yld.bin rfl rfl BinV.neq) rfl ?_
            refine RL.q (by first | exact Yld.pickT rfl rfl | exact Yld.pickF rfl rfl) rfl ?_
            exact RL.nil (N.meet (.cons rfl (.cons rfl (.cons rfl (.cons rfl (.cons rfl (.cons rfl (.cons rfl (.cons rfl (.cons rfl (.cons rfl (.cons rfl (.cons rfl (.cons rfl (.cons rfl .nil)))))))))))))) (.cons rfl (.cons rfl (.cons rfl (.cons rfl (.cons rfl (.cons rfl (.cons rfl (.cons rfl .nil)))))))))
          ·
            intro hg149
            refine RL.gskip rfl rfl rfl rfl ?_
            refine RL.gskip rfl rfl rfl rfl ?_
            refine RL.gskip rfl rfl rfl rfl ?_
            refine RL.gskip rfl rfl rfl rfl ?_
            refine RL.q (by first | exact Yld.pickT rfl rfl | exact Yld.pickF rfl rfl) rfl ?_
            exact RL.nil (N.meet (.cons rfl (.cons rfl (.cons rfl (.cons rfl (.cons rfl (.cons rfl (.cons rfl (.cons rfl (.cons rfl (.cons rfl (.cons rfl (.cons rfl (.cons rfl (.cons rfl .nil)))))))))))))) (.cons rfl (.cons rfl (.cons rfl (.cons rfl (.cons rfl (.cons rfl (.cons rfl (.cons rfl .nil)))))))))
          refine RL.nil ?_
          refine N.next ?_
          refine W.keep (.cons (k := 2) rfl (.cons (k := 7) rfl (.cons (k := 139) rfl (.cons (k := 140) rfl (.cons (k := 141) rfl (.cons (k := 154) rfl .nil)))))) (.cons (k := 0) rfl (.cons (k := 1) rfl (.cons (k := 128) rfl (.cons (k := 161) rfl (.cons (k := 168) rfl (.cons (k := 239) rfl (.cons (k := 240) rfl (.cons (k := 241) rfl .nil)))))))) ?_
          refine W.cond rfl (fun hc154 => ?_) (fun hc154 => ?_)
          ·
            exfalso
            by_cases h : z ∈ l
            · simp [h] at hc154
            · rw [gone h] at hc154; simp at hc154 --stop
          ·
            refine W.skip ?_
            refine N.block_normal ?_
            refine N.next ?_
            refine W.region ?_
            refine RL.q (Yld.bin rfl rfl (by first | exact BinV.add (by omega) (by omega) | exact BinV.addW)) rfl ?_
            refine RL.q (Yld.move rfl) rfl ?_
            refine RL.nil ?_
            exact N.famK (j + 1) ⟨by omega, by omega⟩ (.as rfl (by first | rfl | (simp; done) | (congr 1; simp; done) | (congr 1; omega)) .nil) (.cons rfl (.cons rfl (.cons rfl (.cons rfl .nil)))) .nil (.cons rfl (.cons rfl (.cons rfl (.cons rfl (.cons rfl (.cons rfl (.cons rfl (.cons rfl .nil))))))))
        ·
          refine W.exit ?_
          refine N.then_exit ?_
          refine N.then_exit ?_
          refine N.block_eq ?_
          refine N.next ?_
          refine W.keep (.cons (k := 2) rfl (.cons (k := 7) rfl .nil)) (.cons (k := 0) rfl (.cons (k := 1) rfl (.cons (k := 128) rfl (.cons (k := 161) rfl (.cons (k := 168) rfl (.cons (k := 239) rfl (.cons (k := 240) rfl (.cons (k := 241) rfl .nil)))))))) ?_
          refine W.seq ?_
          refine W.region ?_
          refine RL.q (Yld.move rfl) rfl ?_
          refine RL.e (Eff.call ent34 [240, 241] [240, 241, 242] (.cons rfl (.cons rfl .nil)) (pcaught_ct bp bm es' ck' m' (chg 1 (s + 7) x.ms l) hM' hR' hKn 0) rfl rfl rfl rfl (by rintro _ _ ⟨_, _, _, _, _, rfl⟩; rfl)) rfl ?_
          rintro _ _ ⟨_, ⟨Hc, pc, cc, rfl, hOc, rfl⟩, rfl⟩
          refine RL.q (Yld.lenSl Try.underlying22 rfl) rfl ?_
          refine RL.q (Yld.move rfl) rfl ?_
          refine RL.e (Eff.call ent36 [1] [1, 243] (.cons rfl .nil) (rset_ct l _ _ _ hl (by omega)) rfl rfl rfl rfl (by rintro _ _ ⟨_, _, _, _, _, rfl⟩; rfl)) rfl ?_
          rintro _ _ ⟨_, ⟨Hv, pv, cv, rfl, hOv, rfl⟩, rfl⟩
          have hvl := setL_len l
          refine RL.e (Eff.buildSlice 261 Try.underlying22 sz3 zc3 rfl rfl (.cons rfl rfl .nil) rfl) rfl ?_
          rintro _ _ ⟨b161, rfl, rfl⟩
          refine RL.e (Eff.call ent35 [243, 261] [243, 261, 244] (.cons rfl (.cons rfl .nil)) (rminus_ct (setL l) _ _ _ hOv.sl [1] _ _ _ (iz_lit (b := b161) (l := [1]) rfl rfl (by decide)).sl (by omega)) rfl rfl rfl rfl (by rintro _ _ ⟨_, _, _, _, _, rfl⟩; rfl)) rfl ?_
          rintro _ _ ⟨_, ⟨Hm, pm, cm, rfl, hOm, rfl⟩, rfl⟩
          have hml := minus_len (l := setL l) (m := [1])
          refine RL.q (Yld.lenSl Try.underlying22 rfl) rfl ?_
          refine RL.q (Yld.bin rfl rfl (by first | exact BinV.add (by omega) (by omega) | exact BinV.addW)) rfl ?_
          refine RL.q (Yld.bin rfl rfl BinV.eql) rfl ?_
          refine RL.q (Yld.assign rfl) rfl ?_
          refine RL.nil ?_
          refine N.next ?_
          refine W.keep (.cons (k := 6) rfl .nil) (.cons (k := 0) rfl (.cons (k := 1) rfl (.cons (k := 128) rfl (.cons (k := 161) rfl (.cons (k := 168) rfl (.cons (k := 239) rfl (.cons (k := 240) rfl (.cons (k := 241) rfl (.cons (k := 242) rfl (.cons (k := 243) rfl (.cons (k := 244) rfl (.cons (k := 261) rfl .nil)))))))))))) ?_
          refine W.ret ?_
          exact N.retBy [1] (.cons (.tmp rfl) .nil) rfl rfl rfl rfl ⟨by rw [caught_all hKn]; show Value.bool (decide _) = _; rw [Value.bool.injEq, decide_eq_true_eq]; omega, rfl⟩

end Go.Proofs.Ytdkefpnebmmhlaa
