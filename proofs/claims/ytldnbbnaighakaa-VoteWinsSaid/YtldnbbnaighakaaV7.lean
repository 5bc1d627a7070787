/- VoteStops. Written by program (walk2.py). -/
import Derived.Test.YtldnbbnaighakaaV6
namespace Go.Proofs.Ytldnbbnaighakaa
open SL Cfg Vote
set_option linter.unusedVariables false
set_option linter.unusedSimpArgs false

theorem Vote.stp_me (v : Vt) (q : OpV) : (stp v q).me = v.me := by
  unfold stp
  split
  · unfold obs; split <;> rfl
  · split
    · exact (gr_tm _ _ _ _).2
    · split
      · rfl
      · split
        · exact (cnt_tm _ _ _ _).2.1
        · split
          · rfl
          · split <;> rfl
theorem Vote.runs_me (l : List OpV) : ∀ v : Vt, (runs v l).me = v.me := by
  induction l with
  | nil => exact fun v => rfl
  | cons q r ih => exact fun v => (ih (stp v q)).trans (stp_me v q)
theorem Vote.set1 (k : Int) (h : 1 ≤ k) : setL [k] = [k] := (IsSet.eq ⟨by simp, by intro z; simp; omega⟩).symm

set_option maxRecDepth 100000 in
set_option maxHeartbeats 400000 in
theorem stops_ct (ops : List OpV) (H1 : PH) (p : Option Addr) (c : Nat) (hS : Sl H1 p c 5 (ops.map OpV.cells)) (fr up : Int) (hup : 0 ≤ up ∧ up ≤ 255) : Ct Try.prog 7 [.slice p ops.length c, .int .i64 fr, .int .u8 up] [H1] (fun r Hs => r = .bool true ∧ Hs = [H1]) := by
  refine Ct.body Try.func7 rfl Try.ntmps7 rfl ?_
  intro E F
  have hmx := hS.len_le
  simp only [List.length_map, maxLen] at hmx
  obtain ⟨v0, hv0⟩ : ∃ v, nw 3 0 0 = v := ⟨_, rfl⟩
  have hk0 : VOK 100 (nw 3 0 0) := VOK.nw (by omega) (by omega)
  have hm0 : v0.me = 3 := by rw [← hv0]; rfl
  refine W.seq ?_
  refine W.region ?_
  refine RL.q (Yld.assign rfl) rfl ?_
  refine RL.nil ?_
  refine N.next ?_
  refine W.seq ?_
  refine W.seq ?_
  refine W.region ?_
  refine RL.e (Eff.call ent9 [] [] .nil awake_ct rfl rfl rfl rfl (by rintro _ _ ⟨_, rfl⟩; rfl)) rfl ?_
  rintro _ _ ⟨_, ⟨rfl, rfl⟩, rfl⟩
  refine RL.q (by first | exact Yld.notD rfl | exact Yld.not rfl) rfl ?_
  refine RL.nil ?_
  refine N.next ?_
  first | (refine W.as (t := 15) rfl (boolF (by first | assumption | omega | (simp; done))) ?_; refine W.condF rfl ?_) | refine W.condF rfl ?_
  refine W.skip ?_
  refine N.next ?_
  refine W.seq ?_
  refine W.seq ?_
  refine W.region ?_
  refine RL.q (Yld.move rfl) rfl ?_
  refine RL.e (Eff.call ent15 [1] [1] (.cons rfl (.cons rfl .nil)) (few_ct ops _ _ _ hS 20) rfl rfl rfl rfl (by rintro _ _ ⟨_, rfl⟩; rfl)) rfl ?_
  rintro _ _ ⟨_, ⟨rfl, rfl⟩, rfl⟩
  refine RL.q (by first | exact Yld.notD rfl | exact Yld.not rfl) rfl ?_
  refine RL.nil ?_
  refine N.next ?_
  refine W.keep (.cons (k := 0) rfl (.cons (k := 1) rfl (.cons (k := 2) rfl (.cons (k := 18) rfl .nil)))) (.cons (k := 0) rfl (.cons (k := 1) rfl .nil)) ?_
  refine W.cond rfl (fun hc18 => ?_) (fun hc18 => ?_)
  ·
    refine W.seq ?_
    refine W.region ?_
    refine RL.q (Yld.assign rfl) rfl ?_
    refine RL.nil ?_
    refine N.next ?_
    refine W.keep (.cons (k := 6) rfl .nil) (.cons (k := 0) rfl (.cons (k := 1) rfl .nil)) ?_
    refine W.ret ?_
    refine N.then_ret ?_
    exact N.retBy [1] (.cons (.tmp rfl) .nil) rfl rfl rfl rfl ⟨rfl, rfl⟩
  ·
    simp only [decide_eq_false_iff_not, Classical.not_not, Bool.not_eq_false', decide_eq_true_eq] at hc18
    have hok := hc18.1
    refine W.skip ?_
    refine N.next ?_
    refine W.seq ?_
    refine W.region ?_
    refine RL.e (Eff.call ent16 [] [170] (.cons rfl (.cons rfl (.cons rfl .nil))) (vnew_ct 3 0 0) rfl rfl rfl rfl (by rintro _ _ ⟨_, _, rfl⟩; rfl)) rfl ?_
    rintro _ _ ⟨_, ⟨bp, rfl, rfl⟩, rfl⟩
    refine RL.e (Eff.call ent24 [] [] (.cons rfl (.cons rfl (.cons rfl .nil))) (rvnew_ct 3 0 0) rfl rfl rfl rfl (by rintro _ _ ⟨_, rfl⟩; rfl)) rfl ?_
    rintro _ _ ⟨_, ⟨rfl, rfl⟩, rfl⟩
    have hn0 : v0.vs = none := by rw [← hv0]; rfl
    rw [hv0] at hk0 ⊢
    refine RL.e (Eff.alloc 108 zc48) rfl ?_
    rintro _ _ ⟨b8, rfl, rfl⟩
    refine RL.q (Yld.assign rfl) rfl ?_
    refine RL.e0 (Eff.storeS (c := 108) _ sz48 rfl rfl rfl rfl rfl rfl rfl (by (try simp only [putAt, List.take, List.drop, List.nil_append, List.cons_append, List.append_nil, List.length_cons, List.length_nil, Nat.add_zero, Nat.zero_add, Nat.reduceAdd]); rfl)) ?_
    rintro _ _ rfl
    refine RL.nil ?_
    refine N.next ?_
    refine W.seq ?_
    refine W.seq ?_
    refine W.imp (Imp.empty _ 171) ?_
    refine W.imp (Imp.empty _ 172) ?_
    refine W.region ?_
    refine RL.q (Yld.move rfl) rfl ?_
    refine RL.q (Yld.lenSl Try.underlying33 rfl) rfl ?_
    refine RL.q (Yld.move rfl) rfl ?_
    refine RL.nil ?_
    refine N.next ?_
    refine W.keep (.cons (k := 0) rfl (.cons (k := 1) rfl (.cons (k := 2) rfl (.cons (k := 7) rfl (.cons (k := 8) rfl (.cons (k := 22) rfl (.cons (k := 23) rfl .nil))))))) (.cons (k := 0) rfl (.cons (k := 1) rfl (.cons (k := 108) rfl (.cons (k := 170) rfl (.cons (k := 171) rfl (.cons (k := 172) rfl .nil)))))) ?_
    refine W.block ?_
    refine W.loopK (ι := LI) (fun y => (y.i ≤ ops.length ∧ VM y.o (runs v0 (ops.take y.i)).vs y.G ∧ Sl y.H y.p y.c 1 (iz (((runs v0 (ops.take y.i))).vs.getD [])))) (fun y => [(7, .pointer (some ⟨y.bp, 0, none⟩)), (23, .int .i64 (y.i : Nat))]) (fun y => [(108, single b8 (.cells [.int .i64 ((runs v0 (ops.take y.i))).me, .int .i64 ((runs v0 (ops.take y.i))).tm, .int .i64 ((runs v0 (ops.take y.i))).vd, .bool ((runs v0 (ops.take y.i))).vs.isSome, .slice y.p (((runs v0 (ops.take y.i))).vs.getD []).length y.c].toArray 48 (0, 0))), (170, single y.bp (.cells [.int .i64 ((runs v0 (ops.take y.i))).me, .int .i64 ((runs v0 (ops.take y.i))).tm, .int .i64 ((runs v0 (ops.take y.i))).vd, .map y.o].toArray 64 (0, 0))), (171, y.G), (172, y.H)]) (fun y => ops.length - y.i) (.cons (k := 0) rfl (.cons (k := 1) rfl (.cons (k := 2) rfl (.cons (k := 8) rfl (.cons (k := 22) rfl .nil))))) (.cons (k := 0) rfl (.cons (k := 1) rfl .nil)) ⟨0, bp, none, emp, emp, none, 0⟩ ?_ ?_ ?_ ?_
    · exact ⟨Nat.zero_le _, by show VM none v0.vs emp; rw [hn0]; trivial, by show Sl emp none 0 1 (iz (v0.vs.getD [])); rw [hn0]; exact ⟨rfl, rfl⟩⟩
    · exact (.as rfl (by first | rfl | (simp; done) | (congr 1; simp; done) | (congr 1; omega)) (.as rfl (by first | rfl | (simp; done) | (congr 1; simp; done) | (congr 1; omega)) .nil))
    · exact (.cons rfl (.cons rfl (.cons rfl (.cons rfl .nil))))
    rintro y ⟨hi, hG, hSy⟩
    refine W.keep (.cons (k := 7) rfl (.cons (k := 23) rfl (.cons (k := 0) rfl (.cons (k := 1) rfl (.cons (k := 2) rfl (.cons (k := 8) rfl (.cons (k := 22) rfl .nil))))))) (.cons (k := 108) rfl (.cons (k := 170) rfl (.cons (k := 171) rfl (.cons (k := 172) rfl (.cons (k := 0) rfl (.cons (k := 1) rfl .nil)))))) ?_
    refine W.seq ?_
    refine W.region ?_
    refine RL.q (Yld.bin rfl rfl BinV.lss) rfl ?_
    refine RL.nil ?_
    refine N.next ?_
    refine W.seq ?_
    first | refine W.condD rfl (fun hc24 => ?_) (fun hc24 => ?_) | (refine W.cond rfl (fun hc24 => ?_) (fun hc24 => ?_) <;> try simp only [Bool.or_eq_true, Bool.and_eq_true, Bool.not_eq_true', Bool.not_eq_false', decide_eq_true_eq, Bool.or_eq_false_iff, Bool.and_eq_false_iff, decide_eq_false_iff_not, beq_iff_eq, beq_eq_false_iff_ne, ne_eq, Decidable.not_not] at hc24)
    ·
      obtain ⟨o, ho⟩ : ∃ o, ops[y.i]? = some o := ⟨_, List.getElem?_eq_getElem (show y.i < ops.length by omega)⟩
      have hlo : (ops.map OpV.cells)[y.i]? = some [.int .i64 o.kd, .int .i64 o.a, .int .i64 o.b, .bool o.y, .bool o.n] := by simp [ho, OpV.cells]
      have hoo := hok o (List.mem_of_getElem? ho)
      have hky : VOK 200 (runs v0 (ops.take y.i)) := (runs_ok (l := ops.take y.i) (fun o h => hok o (List.mem_of_mem_take h)) hk0).le (by rw [List.length_take]; omega)
      refine W.skip ?_
      refine N.next ?_
      refine W.seq ?_
      refine W.block ?_
      refine W.seq ?_
      refine W.region ?_
      refine RL.q (Yld.move rfl) rfl ?_
      refine RL.q (Yld.assign rfl) rfl ?_
      refine RL.nil ?_
      refine N.next ?_
      refine W.seq ?_
      refine W.draw (.q 0 (.q 1 (.q 2 (.q 3 (.q 4 (.q 5 (.two 6 (.q 7 (.q 8 (.q 9 (.q 10 (.one 11 (.q 12 (.one 13 (.q 14 .done)))))))) 11 (.one 6 (.q 7 (.q 8 (.q 9 (.q 10 (.q 12 (.one 13 (.q 14 .done))))))))))))))) (.cons (k := 0) rfl (.cons (k := 1) rfl (.cons (k := 108) rfl .nil))) mix (by kernel_rfl) (by kernel_rfl) ?_
      refine DL.q rfl (Yld.move rfl) rfl ?_
      refine DL.q rfl (Yld.loadW (c := 108) Try.underlying48 rfl sz48 rfl rfl (by first | exact single_self _ _ | exact pset_self _ _ _ | assumption) rfl) rfl ?_
      refine DL.q rfl (Yld.move rfl) rfl ?_
      refine DL.q rfl (Yld.move rfl) rfl ?_
      refine DL.q rfl (Yld.indexRow Try.underlying33 sz39 rfl rfl (by first | assumption | exact Own.sl (by assumption)) (by first | rfl | omega | (simp; done) | (simp; omega)) (by omega) (by first | omega | (simp; done) | (simp; omega))) rfl ?_
      refine DL.q rfl (by first | exact Yld.loadRow (cl := 1) Try.underlying39 rfl sz39 rfl rfl (by first | assumption | exact Own.sl (by assumption)) (by assumption) | exact Yld.loadRow (cl := 108) Try.underlying39 rfl sz39 rfl rfl (by first | assumption | exact Own.sl (by assumption)) (by assumption) | exact Yld.loadRow (cl := 170) Try.underlying39 rfl sz39 rfl rfl (by first | assumption | exact Own.sl (by assumption)) (by assumption) | exact Yld.loadRow (cl := 171) Try.underlying39 rfl sz39 rfl rfl (by first | assumption | exact Own.sl (by assumption)) (by assumption) | exact Yld.loadRow (cl := 172) Try.underlying39 rfl sz39 rfl rfl (by first | assumption | exact Own.sl (by assumption)) (by assumption)) rfl ?_
      refine DL.two ?_ ?_
      ·
        refine DL.one rfl (Eff.call ent26 [170, 171, 172] [170, 171, 172] (.cons rfl (.cons rfl (.cons rfl .nil))) (step_ct y.bp (runs v0 (ops.take y.i)) y.o y.G hG 200 (by omega) hky y.H y.p y.c hSy o hoo) rfl rfl rfl rfl (by rintro _ _ ⟨_, _, _, _, _, _, _, _, _, rfl⟩; rfl)) rfl (by rintro _ _ ⟨_, ⟨bp', o', G', H', p', c', rfl, hG', hS', rfl⟩, rfl⟩; repeat (first | exact .nil | refine .cons rfl ?_)) ?_
        rintro _ _ ⟨_, ⟨bp', o', G', H', p', c', rfl, hG', hS', rfl⟩, rfl⟩
        rw [← runs_take ho] at hG' hS' ⊢
        refine DL.q rfl (Yld.move rfl) rfl ?_
        refine DL.q rfl (Yld.extract rfl rfl) rfl ?_
        refine DL.q rfl (Yld.extract rfl rfl) rfl ?_
        refine DL.q rfl (Yld.extract rfl rfl) rfl ?_
        refine DL.one rfl (Eff.alloc 111 zc48) rfl (by rintro _ _ ⟨b11, rfl, rfl⟩; repeat (first | exact .nil | refine .cons rfl ?_)) ?_
        rintro _ _ ⟨b11, rfl, rfl⟩
        refine DL.q rfl (Yld.assign rfl) rfl ?_
        refine DL.one0 rfl (Eff.storeS (c := 111) _ sz48 rfl rfl rfl rfl rfl rfl rfl (by (try simp only [putAt, List.take, List.drop, List.nil_append, List.cons_append, List.append_nil, List.length_cons, List.length_nil, Nat.add_zero, Nat.zero_add, Nat.reduceAdd]); rfl)) (by rintro _ _ rfl; repeat (first | exact .nil | refine .cons rfl ?_)) ?_
        rintro _ _ rfl
        refine DL.q rfl (Yld.assign rfl) rfl ?_
        refine DL.done ?_
        refine N.next ?_
        refine W.keep (.cons (k := 0) rfl (.cons (k := 1) rfl (.cons (k := 2) rfl (.cons (k := 8) rfl (.cons (k := 10) rfl (.cons (k := 11) rfl (.cons (k := 12) rfl (.cons (k := 22) rfl (.cons (k := 23) rfl .nil))))))))) (.cons (k := 0) rfl (.cons (k := 1) rfl (.cons (k := 108) rfl (.cons (k := 111) rfl (.cons (k := 170) rfl (.cons (k := 171) rfl (.cons (k := 172) rfl .nil))))))) ?_
        refine W.seq ?_
        refine W.draw (.q 0 (.q 1 (.q 2 (.one 3 .done)))) (.cons (k := 0) rfl (.cons (k := 1) rfl (.cons (k := 111) rfl (.cons (k := 170) rfl (.cons (k := 171) rfl (.cons (k := 172) rfl .nil)))))) mix (by kernel_rfl) (by kernel_rfl) ?_
        refine DL.q rfl (Yld.move rfl) rfl ?_
        refine DL.q rfl (Yld.loadW (c := 111) Try.underlying48 rfl sz48 rfl rfl (by first | exact single_self _ _ | exact pset_self _ _ _ | assumption) rfl) rfl ?_
        refine DL.q rfl (Yld.assign rfl) rfl ?_
        refine DL.one0 rfl (Eff.storeS (c := 108) _ sz48 rfl rfl rfl rfl rfl rfl rfl (by (try simp only [putAt, List.take, List.drop, List.nil_append, List.cons_append, List.append_nil, List.length_cons, List.length_nil, Nat.add_zero, Nat.zero_add, Nat.reduceAdd]); rfl)) (by rintro _ _ rfl; repeat (first | exact .nil | refine .cons rfl ?_)) ?_
        rintro _ _ rfl
        refine DL.done ?_
        refine N.next ?_
        refine W.keep (.cons (k := 0) rfl (.cons (k := 1) rfl (.cons (k := 2) rfl (.cons (k := 7) rfl (.cons (k := 8) rfl (.cons (k := 12) rfl (.cons (k := 22) rfl (.cons (k := 23) rfl .nil)))))))) (.cons (k := 0) rfl (.cons (k := 1) rfl (.cons (k := 108) rfl (.cons (k := 111) rfl (.cons (k := 170) rfl (.cons (k := 171) rfl (.cons (k := 172) rfl .nil))))))) ?_
        refine W.seq ?_
        refine W.region ?_
        refine RL.q (Yld.move rfl) rfl ?_
        refine RL.q (by first | exact Yld.notD rfl | exact Yld.not rfl) rfl ?_
        refine RL.nil ?_
        refine N.next ?_
        first | (refine W.as (t := 40) rfl (boolF (by first | assumption | omega | (simp; done))) ?_; refine W.condF rfl ?_) | refine W.condF rfl ?_
        refine W.skip ?_
        refine N.block_normal ?_
        refine N.next ?_
        refine W.region ?_
        refine RL.q (Yld.bin rfl rfl (by first | exact BinV.add (by omega) (by omega) | exact BinV.addW)) rfl ?_
        refine RL.q (Yld.move rfl) rfl ?_
        refine RL.nil ?_
        exact N.famK ⟨y.i + 1, bp', o', G', H', p', c'⟩ ⟨⟨by dsimp only; omega, hG', hS'⟩, by dsimp only; omega⟩ (.as rfl (by first | rfl | (simp; done) | (congr 1; simp; done) | (congr 1; omega)) (.as rfl (by first | rfl | (simp; done) | (congr 1; simp; done) | (congr 1; omega)) .nil)) (.cons rfl (.cons rfl (.cons rfl (.cons rfl (.cons rfl .nil))))) (.cons rfl (.cons rfl (.cons rfl (.cons rfl .nil)))) (.cons rfl (.cons rfl .nil))
      ·
        refine DL.one rfl (Eff.alloc 111 zc48) rfl (by rintro _ _ ⟨b11, rfl, rfl⟩; repeat (first | exact .nil | refine .cons rfl ?_)) ?_
        rintro _ _ ⟨b11, rfl, rfl⟩
        refine DL.one rfl (Eff.call ent26 [170, 171, 172] [170, 171, 172] (.cons rfl (.cons rfl (.cons rfl .nil))) (step_ct y.bp (runs v0 (ops.take y.i)) y.o y.G hG 200 (by omega) hky y.H y.p y.c hSy o hoo) rfl rfl rfl rfl (by rintro _ _ ⟨_, _, _, _, _, _, _, _, _, rfl⟩; rfl)) rfl (by rintro _ _ ⟨_, ⟨bp', o', G', H', p', c', rfl, hG', hS', rfl⟩, rfl⟩; repeat (first | exact .nil | refine .cons rfl ?_)) ?_
        rintro _ _ ⟨_, ⟨bp', o', G', H', p', c', rfl, hG', hS', rfl⟩, rfl⟩
        rw [← runs_take ho] at hG' hS' ⊢
        refine DL.q rfl (Yld.move rfl) rfl ?_
        refine DL.q rfl (Yld.extract rfl rfl) rfl ?_
        refine DL.q rfl (Yld.extract rfl rfl) rfl ?_
        refine DL.q rfl (Yld.extract rfl rfl) rfl ?_
        refine DL.q rfl (Yld.assign rfl) rfl ?_
        refine DL.one0 rfl (Eff.storeS (c := 111) _ sz48 rfl rfl rfl rfl rfl rfl rfl (by (try simp only [putAt, List.take, List.drop, List.nil_append, List.cons_append, List.append_nil, List.length_cons, List.length_nil, Nat.add_zero, Nat.zero_add, Nat.reduceAdd]); rfl)) (by rintro _ _ rfl; repeat (first | exact .nil | refine .cons rfl ?_)) ?_
        rintro _ _ rfl
        refine DL.q rfl (Yld.assign rfl) rfl ?_
        refine DL.done ?_
        refine N.next ?_
        refine W.keep (.cons (k := 0) rfl (.cons (k := 1) rfl (.cons (k := 2) rfl (.cons (k := 8) rfl (.cons (k := 10) rfl (.cons (k := 11) rfl (.cons (k := 12) rfl (.cons (k := 22) rfl (.cons (k := 23) rfl .nil))))))))) (.cons (k := 0) rfl (.cons (k := 1) rfl (.cons (k := 108) rfl (.cons (k := 111) rfl (.cons (k := 170) rfl (.cons (k := 171) rfl (.cons (k := 172) rfl .nil))))))) ?_
        refine W.seq ?_
        refine W.draw (.q 0 (.q 1 (.q 2 (.one 3 .done)))) (.cons (k := 0) rfl (.cons (k := 1) rfl (.cons (k := 111) rfl (.cons (k := 170) rfl (.cons (k := 171) rfl (.cons (k := 172) rfl .nil)))))) mix (by kernel_rfl) (by kernel_rfl) ?_
        refine DL.q rfl (Yld.move rfl) rfl ?_
        refine DL.q rfl (Yld.loadW (c := 111) Try.underlying48 rfl sz48 rfl rfl (by first | exact single_self _ _ | exact pset_self _ _ _ | assumption) rfl) rfl ?_
        refine DL.q rfl (Yld.assign rfl) rfl ?_
        refine DL.one0 rfl (Eff.storeS (c := 108) _ sz48 rfl rfl rfl rfl rfl rfl rfl (by (try simp only [putAt, List.take, List.drop, List.nil_append, List.cons_append, List.append_nil, List.length_cons, List.length_nil, Nat.add_zero, Nat.zero_add, Nat.reduceAdd]); rfl)) (by rintro _ _ rfl; repeat (first | exact .nil | refine .cons rfl ?_)) ?_
        rintro _ _ rfl
        refine DL.done ?_
        refine N.next ?_
        refine W.keep (.cons (k := 0) rfl (.cons (k := 1) rfl (.cons (k := 2) rfl (.cons (k := 7) rfl (.cons (k := 8) rfl (.cons (k := 12) rfl (.cons (k := 22) rfl (.cons (k := 23) rfl .nil)))))))) (.cons (k := 0) rfl (.cons (k := 1) rfl (.cons (k := 108) rfl (.cons (k := 111) rfl (.cons (k := 170) rfl (.cons (k := 171) rfl (.cons (k := 172) rfl .nil))))))) ?_
        refine W.seq ?_
        refine W.region ?_
        refine RL.q (Yld.move rfl) rfl ?_
        refine RL.q (by first | exact Yld.notD rfl | exact Yld.not rfl) rfl ?_
        refine RL.nil ?_
        refine N.next ?_
        first | (refine W.as (t := 40) rfl (boolF (by first | assumption | omega | (simp; done))) ?_; refine W.condF rfl ?_) | refine W.condF rfl ?_
        refine W.skip ?_
        refine N.block_normal ?_
        refine N.next ?_
        refine W.region ?_
        refine RL.q (Yld.bin rfl rfl (by first | exact BinV.add (by omega) (by omega) | exact BinV.addW)) rfl ?_
        refine RL.q (Yld.move rfl) rfl ?_
        refine RL.nil ?_
        exact N.famK ⟨y.i + 1, bp', o', G', H', p', c'⟩ ⟨⟨by dsimp only; omega, hG', hS'⟩, by dsimp only; omega⟩ (.as rfl (by first | rfl | (simp; done) | (congr 1; simp; done) | (congr 1; omega)) (.as rfl (by first | rfl | (simp; done) | (congr 1; simp; done) | (congr 1; omega)) .nil)) (.cons rfl (.cons rfl (.cons rfl (.cons rfl (.cons rfl .nil))))) (.cons rfl (.cons rfl (.cons rfl (.cons rfl .nil)))) (.cons rfl (.cons rfl .nil))
    ·
      have hky : VOK 200 (runs v0 (ops.take y.i)) := (runs_ok (l := ops.take y.i) (fun o h => hok o (List.mem_of_mem_take h)) hk0).le (by rw [List.length_take]; omega)
      have hmr := runs_me (ops.take y.i) v0
      obtain ⟨v, hvr⟩ : ∃ v, (runs v0 (ops.take y.i)) = v := ⟨_, rfl⟩
      rw [hvr] at hG hSy hky hmr ⊢
      rw [hm0] at hmr
      obtain ⟨u, hu⟩ : ∃ u, v.tm = u := ⟨_, rfl⟩
      have hu0 := hky.t0
      have hu1 := hky.t1
      rw [hu] at hu0 hu1
      have hcv : camp v = ⟨3, u + 1, 3, some [3]⟩ := by unfold camp; rw [hmr, hu]
      have hk2' : VOK 999 (⟨3, u + 1, 3, none⟩ : Vt) := ⟨by dsimp only; omega, by dsimp only; omega, by dsimp only; omega, by dsimp only; omega, by intro l h; cases h⟩
      have hk2 := hk2'.up
      have hk3 : VOK 1000 (⟨3, u + 1 + 1, 3, some [3]⟩ : Vt) := ⟨by dsimp only; omega, by dsimp only; omega, by dsimp only; omega, by dsimp only; omega, by intro l h; cases h; exact ⟨by decide, by decide, by decide⟩⟩
      have hk4 : VOK 1000 (⟨3, u + 1 + 1 + 1 + up, 0, none⟩ : Vt) := ⟨by dsimp only; omega, by dsimp only; omega, by dsimp only; omega, by dsimp only; omega, by intro l h; cases h⟩
      have hg2 : gno (⟨3, u + 1, 3, none⟩ : Vt) 4 (u + 1) true = true := by simp [gno]
      have hr2 : gr (⟨3, u + 1, 3, none⟩ : Vt) 4 (u + 1) true = (⟨3, u + 1, 3, none⟩ : Vt) := by rw [gno_ok, if_pos hg2]
      have hg3 : gno (⟨3, u + 1 + 1, 3, some [3]⟩ : Vt) 4 (u + 1 + 1) true = true := by simp [gno]
      have hr3 : gr (⟨3, u + 1 + 1, 3, some [3]⟩ : Vt) 4 (u + 1 + 1) true = (⟨3, u + 1 + 1, 3, some [3]⟩ : Vt) := by rw [gno_ok, if_pos hg3]
      refine W.exit ?_
      refine N.then_exit ?_
      refine N.then_exit ?_
      refine N.block_eq ?_
      refine N.next ?_
      refine W.keep (.cons (k := 1) rfl (.cons (k := 2) rfl (.cons (k := 7) rfl .nil))) (.cons (k := 0) rfl (.cons (k := 1) rfl (.cons (k := 108) rfl (.cons (k := 170) rfl (.cons (k := 171) rfl (.cons (k := 172) rfl .nil)))))) ?_
      refine W.seq ?_
      refine W.region ?_
      refine RL.q (Yld.move rfl) rfl ?_
      refine RL.e (Eff.call ent21 [170] [170, 171] (.cons rfl .nil) (vcamp_ct y.bp v y.o 200 (by omega) hky) rfl rfl rfl rfl (by rintro _ _ ⟨_, _, _, _, _, _, rfl⟩; rfl)) rfl ?_
      rintro _ _ ⟨_, ⟨rfl, bm, es, ck, m, hMV, rfl⟩, rfl⟩
      rw [hcv, hu]
      refine RL.q (Yld.assign rfl) rfl ?_
      refine RL.nil ?_
      refine N.next ?_
      refine W.seq ?_
      refine W.region ?_
      refine RL.q (Yld.move rfl) rfl ?_
      refine RL.e (Eff.call ent27 [170] [170] (.cons rfl .nil) (vstop_ct y.bp (⟨3, u + 1, 3, some [3]⟩ : Vt) (some bm)) rfl rfl rfl rfl (by rintro _ _ ⟨_, rfl⟩; rfl)) rfl ?_
      rintro _ _ ⟨_, ⟨rfl, rfl⟩, rfl⟩
      rw [show stop (⟨3, u + 1, 3, some [3]⟩ : Vt) = (⟨3, u + 1, 3, none⟩ : Vt) from rfl]
      refine RL.nil ?_
      refine N.next ?_
      refine W.keep (.cons (k := 1) rfl (.cons (k := 2) rfl (.cons (k := 7) rfl (.cons (k := 13) rfl .nil)))) (.cons (k := 0) rfl (.cons (k := 1) rfl (.cons (k := 108) rfl (.cons (k := 170) rfl (.cons (k := 171) rfl (.cons (k := 172) rfl .nil)))))) ?_
      refine W.seq ?_
      refine W.seq ?_
      refine W.region ?_
      refine RL.q (Yld.move rfl) rfl ?_
      refine RL.e (Eff.call ent28 [170] [170] (.cons rfl .nil) (vcand_ct y.bp (⟨3, u + 1, 3, none⟩ : Vt) none rfl) rfl rfl rfl rfl (by rintro _ _ ⟨_, rfl⟩; rfl)) rfl ?_
      rintro _ _ ⟨_, ⟨rfl, rfl⟩, rfl⟩
      refine RL.q (Yld.move rfl) rfl ?_
      first | refine RL.as (t := 48) rfl (boolF (by first | assumption | omega | (simp; done))) ?_ | refine RL.as (t := 48) (v := .bool false) rfl rfl ?_
      refine RL.gq rfl rfl (Yld.move rfl) rfl ?_
      refine RL.ge rfl rfl (Eff.call ent17 [170] [170] (.cons rfl .nil) (vterm_ct y.bp (⟨3, u + 1, 3, none⟩ : Vt) none) rfl rfl rfl rfl (by rintro _ _ ⟨_, rfl⟩; rfl)) rfl ?_
      rintro _ _ ⟨_, ⟨rfl, rfl⟩, rfl⟩
      refine RL.gq rfl rfl (Yld.move rfl) rfl ?_
      refine RL.gq rfl rfl (Yld.bin rfl rfl BinV.neq) rfl ?_
      refine RL.q (by first | exact Yld.pickT rfl rfl | exact Yld.pickF rfl rfl) rfl ?_
      refine RL.q (Yld.move rfl) rfl ?_
      first | refine RL.as (t := 54) rfl (boolF (by first | assumption | omega | (simp; done))) ?_ | refine RL.as (t := 54) (v := .bool false) rfl rfl ?_
      refine RL.gq rfl rfl (Yld.move rfl) rfl ?_
      refine RL.ge rfl rfl (Eff.call ent20 [170] [170] (.cons rfl .nil) (vvoted_ct y.bp (⟨3, u + 1, 3, none⟩ : Vt) none) rfl rfl rfl rfl (by rintro _ _ ⟨_, rfl⟩; rfl)) rfl ?_
      rintro _ _ ⟨_, ⟨rfl, rfl⟩, rfl⟩
      refine RL.gq rfl rfl (Yld.bin rfl rfl BinV.neq) rfl ?_
      refine RL.q (by first | exact Yld.pickT rfl rfl | exact Yld.pickF rfl rfl) rfl ?_
      refine RL.q (Yld.move rfl) rfl ?_
      first | refine RL.as (t := 59) rfl (boolF (by first | assumption | omega | (simp; done))) ?_ | refine RL.as (t := 59) (v := .bool false) rfl rfl ?_
      refine RL.gq rfl rfl (Yld.move rfl) rfl ?_
      refine RL.ge rfl rfl (Eff.call ent29 [170, 171] [170, 171, 50] (.cons rfl .nil) (vvotes_ct y.bp (⟨3, u + 1, 3, none⟩ : Vt) none (single bm (.map es ck)) trivial 1000 (by omega) hk2) rfl rfl rfl rfl (by rintro _ _ ⟨_, _, _, _, _, rfl⟩; rfl)) rfl ?_
      rintro _ _ ⟨_, ⟨Hv, pv, cv, rfl, hOv, rfl⟩, rfl⟩
      refine RL.gq rfl rfl (Yld.eq (v' := .int .i64 0) (Yld.lenSl Try.underlying22 rfl) (by show Value.int _ (((setL []).length : Nat) : Int) = _; rw [setL_nil]; rfl)) rfl ?_
      refine RL.gq rfl rfl (Yld.bin rfl rfl BinV.neq) rfl ?_
      refine RL.q (by first | exact Yld.pickT rfl rfl | exact Yld.pickF rfl rfl) rfl ?_
      refine RL.q (Yld.move rfl) rfl ?_
      first | refine RL.as (t := 65) rfl (boolF (by first | assumption | omega | (simp; done))) ?_ | refine RL.as (t := 65) (v := .bool false) rfl rfl ?_
      refine RL.gq rfl rfl (Yld.move rfl) rfl ?_
      refine RL.gq rfl rfl (Yld.move rfl) rfl ?_
      refine RL.gq rfl rfl (Yld.move rfl) rfl ?_
      refine RL.ge rfl rfl (Eff.call ent22 [170, 171] [170, 171] (.cons rfl (.cons rfl (.cons rfl (.cons rfl .nil)))) (vcount_ct y.bp (⟨3, u + 1, 3, none⟩ : Vt) none (single bm (.map es ck)) trivial fr (u + 1) true) rfl rfl rfl rfl (by rintro _ _ ⟨_, _, _, rfl⟩; rfl)) rfl ?_
      rintro _ _ ⟨_, ⟨rfl, G', hG', rfl⟩, rfl⟩
      rw [show cnt (⟨3, u + 1, 3, none⟩ : Vt) fr (u + 1) true = (⟨3, u + 1, 3, none⟩ : Vt) from rfl] at hG' ⊢
      refine RL.q (by first | exact Yld.pickT rfl rfl | exact Yld.pickF rfl rfl) rfl ?_
      refine RL.q (Yld.move rfl) rfl ?_
      first | refine RL.as (t := 71) rfl (boolF (by first | assumption | omega | (simp; done))) ?_ | refine RL.as (t := 71) (v := .bool false) rfl rfl ?_
      refine RL.gq rfl rfl (Yld.move rfl) rfl ?_
      refine RL.ge rfl rfl (Eff.buildSlice 173 Try.underlying22 sz3 zc3 rfl rfl (.cons rfl rfl .nil) rfl) rfl ?_
      rintro _ _ ⟨b73, rfl, rfl⟩
      refine RL.ge rfl rfl (Eff.call ent31 [173] [173, 174] (.cons rfl .nil) (simple_ct [3] _ _ _ (iz_single rfl) (by simp)) rfl rfl rfl rfl (by rintro _ _ ⟨_, _, _, _, _, rfl⟩; rfl)) rfl ?_
      rintro _ _ ⟨_, ⟨Hs, ps, cs, rfl, hOs, rfl⟩, rfl⟩
      rw [set1 3 (by omega)] at hOs ⊢
      refine RL.ge rfl rfl (Eff.call ent30 [170, 171, 174] [170, 171, 174] (.cons rfl (.cons rfl .nil)) (vwon_ct y.bp (⟨3, u + 1, 3, none⟩ : Vt) none G' hG' 1000 (by omega) hk2 ⟨[3], [], [], ps, cs, none, 0, none, 0⟩ Hs ⟨hOs.sl, ⟨rfl, rfl⟩, ⟨rfl, rfl⟩⟩ (by simp) (by simp)) rfl rfl rfl rfl (by rintro _ _ ⟨_, rfl⟩; rfl)) rfl ?_
      rintro _ _ ⟨_, ⟨rfl, rfl⟩, rfl⟩
      refine RL.q (by first | exact Yld.pickT rfl rfl | exact Yld.pickF rfl rfl) rfl ?_
      refine RL.q (Yld.move rfl) rfl ?_
      first | refine RL.as (t := 77) rfl (boolF (by first | assumption | omega | (simp; done))) ?_ | refine RL.as (t := 77) (v := .bool false) rfl rfl ?_
      refine RL.gq rfl rfl (Yld.move rfl) rfl ?_
      refine RL.gq rfl rfl (Yld.move rfl) rfl ?_
      refine RL.ge rfl rfl (Eff.call ent19 [170] [170] (.cons rfl (.cons rfl (.cons rfl (.cons rfl .nil)))) (vgrant_ct y.bp (⟨3, u + 1, 3, none⟩ : Vt) none rfl 4 (u + 1) true) rfl rfl rfl rfl (by rintro _ _ ⟨_, rfl⟩; rfl)) rfl ?_
      rintro _ _ ⟨_, ⟨rfl, rfl⟩, rfl⟩
      rw [hg2, hr2]
      refine RL.q (by first | exact Yld.pickT rfl rfl | exact Yld.pickF rfl rfl) rfl ?_
      refine RL.nil ?_
      refine N.next ?_
      refine W.keep (.cons (k := 2) rfl (.cons (k := 7) rfl (.cons (k := 81) rfl .nil))) (.cons (k := 0) rfl (.cons (k := 1) rfl (.cons (k := 50) rfl (.cons (k := 108) rfl (.cons (k := 170) rfl (.cons (k := 171) rfl (.cons (k := 172) rfl (.cons (k := 173) rfl (.cons (k := 174) rfl .nil))))))))) ?_
      first | (refine W.as (t := 81) rfl (boolF (by first | assumption | omega | (simp; done))) ?_; refine W.condF rfl ?_) | refine W.condF rfl ?_
      refine W.skip ?_
      refine N.next ?_
      refine W.seq ?_
      refine W.region ?_
      refine RL.q (Yld.move rfl) rfl ?_
      refine RL.e (Eff.call ent21 [170] [170, 171] (.cons rfl .nil) (vcamp_ct y.bp (⟨3, u + 1, 3, none⟩ : Vt) none 999 (by omega) hk2') rfl rfl rfl rfl (by rintro _ _ ⟨_, _, _, _, _, _, rfl⟩; rfl)) rfl ?_
      rintro _ _ ⟨_, ⟨rfl, bm2, es2, ck2, m2, hMV2, rfl⟩, rfl⟩
      rw [show camp (⟨3, u + 1, 3, none⟩ : Vt) = (⟨3, u + 1 + 1, 3, some [3]⟩ : Vt) from rfl, show ((⟨3, u + 1, 3, none⟩ : Vt)).tm = u + 1 from rfl]
      refine RL.q (Yld.assign rfl) rfl ?_
      refine RL.nil ?_
      refine N.next ?_
      refine W.seq ?_
      refine W.seq ?_
      refine W.region ?_
      refine RL.q (Yld.move rfl) rfl ?_
      refine RL.e (Eff.call ent28 [170] [170] (.cons rfl .nil) (vcand_ct y.bp (⟨3, u + 1 + 1, 3, some [3]⟩ : Vt) (some bm2) rfl) rfl rfl rfl rfl (by rintro _ _ ⟨_, rfl⟩; rfl)) rfl ?_
      rintro _ _ ⟨_, ⟨rfl, rfl⟩, rfl⟩
      refine RL.q (by first | exact Yld.notD rfl | exact Yld.not rfl) rfl ?_
      refine RL.q (Yld.move rfl) rfl ?_
      first | refine RL.as (t := 87) rfl (boolF (by first | assumption | omega | (simp; done))) ?_ | refine RL.as (t := 87) (v := .bool false) rfl rfl ?_
      refine RL.gq rfl rfl (Yld.move rfl) rfl ?_
      refine RL.gq rfl rfl (Yld.move rfl) rfl ?_
      refine RL.ge rfl rfl (Eff.call ent19 [170] [170] (.cons rfl (.cons rfl (.cons rfl (.cons rfl .nil)))) (vgrant_ct y.bp (⟨3, u + 1 + 1, 3, some [3]⟩ : Vt) (some bm2) rfl 4 (u + 1 + 1) true) rfl rfl rfl rfl (by rintro _ _ ⟨_, rfl⟩; rfl)) rfl ?_
      rintro _ _ ⟨_, ⟨rfl, rfl⟩, rfl⟩
      rw [hg3, hr3]
      refine RL.q (by first | exact Yld.pickT rfl rfl | exact Yld.pickF rfl rfl) rfl ?_
      refine RL.q (Yld.move rfl) rfl ?_
      first | refine RL.as (t := 92) rfl (boolF (by first | assumption | omega | (simp; done))) ?_ | refine RL.as (t := 92) (v := .bool false) rfl rfl ?_
      refine RL.gq rfl rfl (Yld.move rfl) rfl ?_
      refine RL.ge rfl rfl (Eff.buildSlice 175 Try.underlying22 sz3 zc3 rfl rfl (.cons rfl rfl .nil) rfl) rfl ?_
      rintro _ _ ⟨b94, rfl, rfl⟩
      refine RL.ge rfl rfl (Eff.call ent31 [175] [175, 176] (.cons rfl .nil) (simple_ct [3] _ _ _ (iz_single rfl) (by simp)) rfl rfl rfl rfl (by rintro _ _ ⟨_, _, _, _, _, rfl⟩; rfl)) rfl ?_
      rintro _ _ ⟨_, ⟨Hs, ps, cs, rfl, hOs, rfl⟩, rfl⟩
      rw [set1 3 (by omega)] at hOs ⊢
      refine RL.ge rfl rfl (Eff.call ent30 [170, 171, 176] [170, 171, 176] (.cons rfl (.cons rfl .nil)) (vwon_ct y.bp (⟨3, u + 1 + 1, 3, some [3]⟩ : Vt) (some bm2) (single bm2 (.map es2 ck2)) ⟨es2, ck2, m2, rfl, hMV2⟩ 1000 (by omega) hk3 ⟨[3], [], [], ps, cs, none, 0, none, 0⟩ Hs ⟨hOs.sl, ⟨rfl, rfl⟩, ⟨rfl, rfl⟩⟩ (by simp) (by simp)) rfl rfl rfl rfl (by rintro _ _ ⟨_, rfl⟩; rfl)) rfl ?_
      rintro _ _ ⟨_, ⟨rfl, rfl⟩, rfl⟩
      refine RL.gq rfl rfl (by first | exact Yld.notD rfl | exact Yld.not rfl) rfl ?_
      refine RL.q (by first | exact Yld.pickT rfl rfl | exact Yld.pickF rfl rfl) rfl ?_
      refine RL.q (Yld.move rfl) rfl ?_
      first | refine RL.as (t := 99) rfl (boolF (by first | assumption | omega | (simp; done))) ?_ | refine RL.as (t := 99) (v := .bool false) rfl rfl ?_
      refine RL.gq rfl rfl (Yld.move rfl) rfl ?_
      refine RL.gq rfl rfl (Yld.move rfl) rfl ?_
      refine RL.ge rfl rfl (Eff.call ent18 [170] [170] (.cons rfl (.cons rfl .nil)) (vobs_ct y.bp (⟨3, u + 1 + 1, 3, some [3]⟩ : Vt) (some bm2) (u + 1 + 1)) rfl rfl rfl rfl (by rintro _ _ ⟨_, rfl⟩; rfl)) rfl ?_
      rintro _ _ ⟨_, ⟨rfl, rfl⟩, rfl⟩
      rw [show decide (u + 1 + 1 ≤ ((⟨3, u + 1 + 1, 3, some [3]⟩ : Vt)).tm) = true by simp, show obs (⟨3, u + 1 + 1, 3, some [3]⟩ : Vt) (u + 1 + 1) = (⟨3, u + 1 + 1, 3, some [3]⟩ : Vt) by unfold obs; rw [if_pos (by simp)], if_pos (show u + 1 + 1 ≤ ((⟨3, u + 1 + 1, 3, some [3]⟩ : Vt)).tm by simp)]
      refine RL.q (by first | exact Yld.pickT rfl rfl | exact Yld.pickF rfl rfl) rfl ?_
      refine RL.nil ?_
      refine N.next ?_
      refine W.keep (.cons (k := 2) rfl (.cons (k := 7) rfl (.cons (k := 13) rfl (.cons (k := 103) rfl .nil)))) (.cons (k := 0) rfl (.cons (k := 1) rfl (.cons (k := 50) rfl (.cons (k := 108) rfl (.cons (k := 170) rfl (.cons (k := 171) rfl (.cons (k := 172) rfl (.cons (k := 173) rfl (.cons (k := 174) rfl (.cons (k := 175) rfl (.cons (k := 176) rfl .nil))))))))))) ?_
      first | (refine W.as (t := 103) rfl (boolF (by first | assumption | omega | (simp; done))) ?_; refine W.condF rfl ?_) | refine W.condF rfl ?_
      refine W.skip ?_
      refine N.next ?_
      refine W.seq ?_
      refine W.region ?_
      refine RL.q (Yld.move rfl) rfl ?_
      refine RL.q (Yld.move rfl) rfl ?_
      refine RL.q (Yld.bin rfl rfl (by first | exact BinV.add (by omega) (by omega) | exact BinV.addW)) rfl ?_
      refine RL.q (Yld.move rfl) rfl ?_
      refine RL.q (Yld.convIs Try.underlying5 Try.underlying3 rfl (by first | exact IntWalk.i64_in _ ⟨by omega, by omega⟩ | rfl)) rfl ?_
      refine RL.q (Yld.bin rfl rfl (by first | exact BinV.add (by omega) (by omega) | exact BinV.addW)) rfl ?_
      refine RL.e (Eff.call ent18 [170] [170] (.cons rfl (.cons rfl .nil)) (vobs_ct y.bp (⟨3, u + 1 + 1, 3, some [3]⟩ : Vt) (some bm2) (u + 1 + 1 + 1 + up)) rfl rfl rfl rfl (by rintro _ _ ⟨_, rfl⟩; rfl)) rfl ?_
      rintro _ _ ⟨_, ⟨rfl, rfl⟩, rfl⟩
      rw [show decide (u + 1 + 1 + 1 + up ≤ ((⟨3, u + 1 + 1, 3, some [3]⟩ : Vt)).tm) = false by simp; omega, show obs (⟨3, u + 1 + 1, 3, some [3]⟩ : Vt) (u + 1 + 1 + 1 + up) = (⟨3, u + 1 + 1 + 1 + up, 0, none⟩ : Vt) by unfold obs; rw [if_neg (by simp; omega)], if_neg (show ¬ u + 1 + 1 + 1 + up ≤ ((⟨3, u + 1 + 1, 3, some [3]⟩ : Vt)).tm by simp; omega)]
      refine RL.q (Yld.move rfl) rfl ?_
      first | refine RL.as (t := 111) rfl (boolT (by first | assumption | omega | (simp; done))) ?_ | refine RL.as (t := 111) (v := .bool true) rfl rfl ?_
      refine RL.gq rfl rfl (Yld.move rfl) rfl ?_
      refine RL.ge rfl rfl (Eff.call ent28 [170] [170] (.cons rfl .nil) (vcand_ct y.bp (⟨3, u + 1 + 1 + 1 + up, 0, none⟩ : Vt) none rfl) rfl rfl rfl rfl (by rintro _ _ ⟨_, rfl⟩; rfl)) rfl ?_
      rintro _ _ ⟨_, ⟨rfl, rfl⟩, rfl⟩
      refine RL.gq rfl rfl (by first | exact Yld.notD rfl | exact Yld.not rfl) rfl ?_
      refine RL.q (by first | exact Yld.pickT rfl rfl | exact Yld.pickF rfl rfl) rfl ?_
      refine RL.q (Yld.move rfl) rfl ?_
      first | refine RL.as (t := 116) rfl (boolT (by first | assumption | omega | (simp; done))) ?_ | refine RL.as (t := 116) (v := .bool true) rfl rfl ?_
      refine RL.gq rfl rfl (Yld.move rfl) rfl ?_
      refine RL.ge rfl rfl (Eff.call ent20 [170] [170] (.cons rfl .nil) (vvoted_ct y.bp (⟨3, u + 1 + 1 + 1 + up, 0, none⟩ : Vt) none) rfl rfl rfl rfl (by rintro _ _ ⟨_, rfl⟩; rfl)) rfl ?_
      rintro _ _ ⟨_, ⟨rfl, rfl⟩, rfl⟩
      refine RL.gq rfl rfl (Yld.bin rfl rfl BinV.eql) rfl ?_
      refine RL.q (by first | exact Yld.pickT rfl rfl | exact Yld.pickF rfl rfl) rfl ?_
      refine RL.q (Yld.move rfl) rfl ?_
      first | refine RL.as (t := 121) rfl (boolT (by first | assumption | omega | (simp; done))) ?_ | refine RL.as (t := 121) (v := .bool true) rfl rfl ?_
      refine RL.gq rfl rfl (Yld.move rfl) rfl ?_
      refine RL.ge rfl rfl (Eff.call ent29 [170, 171] [170, 171, 50] (.cons rfl .nil) (vvotes_ct y.bp (⟨3, u + 1 + 1 + 1 + up, 0, none⟩ : Vt) none (single bm2 (.map es2 ck2)) trivial 1000 (by omega) hk4) rfl rfl rfl rfl (by rintro _ _ ⟨_, _, _, _, _, rfl⟩; rfl)) rfl ?_
      rintro _ _ ⟨_, ⟨Hv, pv, cv, rfl, hOv, rfl⟩, rfl⟩
      refine RL.gq rfl rfl (Yld.eq (v' := .int .i64 0) (Yld.lenSl Try.underlying22 rfl) (by show Value.int _ (((setL []).length : Nat) : Int) = _; rw [setL_nil]; rfl)) rfl ?_
      refine RL.gq rfl rfl (Yld.bin rfl rfl BinV.eql) rfl ?_
      refine RL.q (by first | exact Yld.pickT rfl rfl | exact Yld.pickF rfl rfl) rfl ?_
      refine RL.q (Yld.move rfl) rfl ?_
      first | refine RL.as (t := 127) rfl (boolT (by first | assumption | omega | (simp; done))) ?_ | refine RL.as (t := 127) (v := .bool true) rfl rfl ?_
      refine RL.gq rfl rfl (Yld.move rfl) rfl ?_
      refine RL.ge rfl rfl (Eff.call ent17 [170] [170] (.cons rfl .nil) (vterm_ct y.bp (⟨3, u + 1 + 1 + 1 + up, 0, none⟩ : Vt) none) rfl rfl rfl rfl (by rintro _ _ ⟨_, rfl⟩; rfl)) rfl ?_
      rintro _ _ ⟨_, ⟨rfl, rfl⟩, rfl⟩
      refine RL.gq rfl rfl (Yld.move rfl) rfl ?_
      refine RL.gq rfl rfl (Yld.bin rfl rfl (by first | exact BinV.add (by omega) (by omega) | exact BinV.addW)) rfl ?_
      refine RL.gq rfl rfl (Yld.move rfl) rfl ?_
      refine RL.gq rfl rfl (Yld.convIs Try.underlying5 Try.underlying3 rfl (by first | exact IntWalk.i64_in _ ⟨by omega, by omega⟩ | rfl)) rfl ?_
      refine RL.gq rfl rfl (Yld.bin rfl rfl (by first | exact BinV.add (by omega) (by omega) | exact BinV.addW)) rfl ?_
      refine RL.gq rfl rfl (Yld.bin rfl rfl BinV.eql) rfl ?_
      refine RL.q (by first | exact Yld.pickT rfl rfl | exact Yld.pickF rfl rfl) rfl ?_
      refine RL.q (Yld.assign rfl) rfl ?_
      refine RL.nil ?_
      refine N.next ?_
      refine W.keep (.cons (k := 6) rfl .nil) (.cons (k := 0) rfl (.cons (k := 1) rfl (.cons (k := 50) rfl (.cons (k := 108) rfl (.cons (k := 170) rfl (.cons (k := 171) rfl (.cons (k := 172) rfl (.cons (k := 173) rfl (.cons (k := 174) rfl (.cons (k := 175) rfl (.cons (k := 176) rfl .nil))))))))))) ?_
      refine W.ret ?_
      exact N.retBy [1] (.cons (.tmp rfl) .nil) rfl rfl rfl rfl ⟨by show Value.bool _ = _; rw [Value.bool.injEq]; simp, rfl⟩

end Go.Proofs.Ytldnbbnaighakaa
