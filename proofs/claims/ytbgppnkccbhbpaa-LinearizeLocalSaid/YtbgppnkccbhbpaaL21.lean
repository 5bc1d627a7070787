/- LinearizeLocal. Written by program (walk.py). -/
import Derived.Test.YtbgppnkccbhbpaaL20
namespace Go.Proofs.Ytbgppnkccbhbpaa
open SL HistLaw Cfg
set_option linter.unusedVariables false
set_option linter.unusedSimpArgs false

structure HistLaw.CB where
  j : Nat
  b : Bool
  ss : List (Option Addr × Nat × List Int)
  gs : List (List Nat)
  Ho : PH
  po : Option Addr
  co : Nat
  HC : PH
/-- all keys so far have an order -/
def HistLaw.AllTo (l : List O) (j : Nat) (b : Bool) : Prop := b = true ↔ ∀ (n : Nat) k, n < j → (keysO l)[n]? = some k → Live (byKey k l) 0 (false, 0)
theorem HistLaw.AllTo.step {l : List O} {j : Nat} {b c : Bool} {k : Ky} (h : AllTo l j b) (hk : (keysO l)[j]? = some k) (hc : c = true ↔ Live (byKey k l) 0 (false, 0)) : AllTo l (j + 1) (b && c) := by
  unfold AllTo at *
  rw [Bool.and_eq_true, h, hc]
  constructor
  · rintro ⟨h1, h2⟩ n k' hn hk'
    by_cases e : n = j
    · subst e; rw [hk] at hk'; cases hk'; exact h2
    · exact h1 n k' (by omega) hk'
  · intro h1
    exact ⟨fun n k' hn hk' => h1 n k' (by omega) hk', h1 j k (by omega) hk⟩
theorem HistLaw.AllTo.all {l : List O} {j : Nat} {b : Bool} (h : AllTo l j b) (hj : j = (keysO l).length) : b = true ↔ AllLive l := by
  unfold AllTo at h
  rw [h]
  constructor
  · intro h1 k hk
    obtain ⟨n, hn⟩ := List.getElem?_of_mem hk
    exact h1 n k (by have := (List.getElem?_eq_some_iff.1 hn).1; omega) hn
  · intro h1 n k _ hk
    exact h1 k (List.mem_of_getElem? hk)
theorem HistLaw.gOf_get {k : Ky} {l : List O} {r : List Nat} {i j : Nat} (h : r[i]? = some j) : (gOf k l r)[i]? = some ((ix k l).getD j 0) := by unfold gOf; rw [List.getElem?_map, h]; rfl

set_option maxRecDepth 100000 in
set_option maxHeartbeats 6400000 in
theorem linLocal_ct (l : List O) (H1 : PH) (p : Option Addr) (c : Nat) (hS : Sl H1 p c 12 (l.map O.c)) : Ct Try.prog 4 [.slice p (l.map O.c).length c] [H1] (fun v Hs => v = .bool true ∧ Hs = [H1]) := by
  refine Ct.body Try.func4 rfl Try.ntmps4 rfl ?_
  intro E F
  have hmax := hS.len_le
  simp only [maxLen] at hmax
  have hll : (l.map O.c).length = l.length := by simp
  have hkl := keysO_len l
  refine W.seq ?_
  refine W.region ?_
  refine RL.q (Yld.assign rfl) rfl ?_
  refine RL.nil ?_
  refine N.next ?_
  refine W.seq ?_
  refine W.seq ?_
  refine W.region ?_
  refine RL.q (Yld.move rfl) rfl ?_
  refine RL.e (Eff.call ent8 [1] [1] (.cons rfl (.cons rfl .nil)) (small_ct l H1 p c hS 8) rfl rfl rfl rfl (by rintro _ _ ⟨_, rfl⟩; rfl)) rfl ?_
  rintro _ _ ⟨_, ⟨⟨bS, rfl, hSm⟩, rfl⟩, rfl⟩
  refine RL.q (by first | exact Yld.notD rfl | exact Yld.not rfl) rfl ?_
  refine RL.nil ?_
  refine N.next ?_
  refine W.cond rfl (fun hc21 => ?_) (fun hc21 => ?_)
  ·
    refine W.seq ?_
    refine W.region ?_
    refine RL.e (Eff.call ent9 [] [] .nil awake57_ct rfl rfl rfl rfl (by rintro _ _ ⟨_, rfl⟩; rfl)) rfl ?_
    rintro _ _ ⟨_, ⟨rfl, rfl⟩, rfl⟩
    refine RL.q (Yld.assign rfl) rfl ?_
    refine RL.nil ?_
    refine N.next ?_
    refine W.keep (.cons (k := 2) rfl .nil) (.cons (k := 0) rfl (.cons (k := 1) rfl .nil)) ?_
    refine W.ret ?_
    refine N.then_ret ?_
    exact N.retBy [1] (.cons (.tmp rfl) .nil) rfl rfl rfl rfl ⟨rfl, rfl⟩
  ·
    obtain ⟨hl40, hv, hsm⟩ := hSm (by simpa using hc21)
    refine W.skip ?_
    refine N.next ?_
    refine W.keep (.cons (k := 0) rfl .nil) (.cons (k := 0) rfl (.cons (k := 1) rfl .nil)) ?_
    refine W.seq ?_
    refine W.region ?_
    refine RL.q (Yld.move rfl) rfl ?_
    refine RL.e (Eff.call ent10 [1] [1, 180] (.cons rfl .nil) (check_ct l (by omega) _ _ _ hS) rfl rfl rfl rfl (by rintro _ _ ⟨_, _, _, _, _, _, _, rfl⟩; rfl)) rfl ?_
    rintro _ _ ⟨_, ⟨q1, n1, c1, e1, H3, rfl, hC1, rfl⟩, rfl⟩
    refine RL.q (Yld.move rfl) rfl ?_
    refine RL.q (Yld.extract rfl rfl) rfl ?_
    refine RL.q (Yld.extract rfl rfl) rfl ?_
    refine RL.q (Yld.assign rfl) rfl ?_
    refine RL.q (Yld.assign rfl) rfl ?_
    refine RL.nil ?_
    refine N.next ?_
    refine W.keep (.cons (k := 0) rfl (.cons (k := 4) rfl .nil)) (.cons (k := 0) rfl (.cons (k := 1) rfl (.cons (k := 180) rfl .nil))) ?_
    refine W.seq ?_
    refine W.region ?_
    refine RL.q (Yld.assign rfl) rfl ?_
    refine RL.nil ?_
    refine N.next ?_
    refine W.seq ?_
    refine W.imp (Imp.empty _ 150) ?_
    refine W.imp (Imp.empty _ 190) ?_
    refine W.region ?_
    refine RL.q (Yld.assign rfl) rfl ?_
    refine RL.nil ?_
    refine N.next ?_
    refine W.seq ?_
    refine W.seq ?_
    refine W.region ?_
    refine RL.q (Yld.move rfl) rfl ?_
    refine RL.e (Eff.call ent13 [1] [1, 140] (.cons rfl .nil) (rkeys_ct l (by omega) _ _ _ hS) rfl rfl rfl rfl (by rintro _ _ ⟨_, _, _, _, _, rfl⟩; rfl)) rfl ?_
    rintro _ _ ⟨_, ⟨Hk, pk, ck0, rfl, hOk, rfl⟩, rfl⟩
    refine RL.q (Yld.lenSl Try.underlying32 rfl) rfl ?_
    refine RL.q (Yld.move rfl) rfl ?_
    refine RL.nil ?_
    refine N.next ?_
    refine W.block ?_
    refine W.loopK (ι := CB) (fun x => (x.j ≤ (keysO l).length ∧ Own x.Ho x.po x.co 25 1 (x.ss.map SV) ∧ x.ss.map (·.2.2) = x.gs.map zsN ∧ x.gs.length = x.j ∧ (∀ s ∈ x.ss, Sl x.HC s.1 s.2.1 1 (iz s.2.2)) ∧ AllTo l x.j x.b ∧ (x.b = true → ∀ (n : Nat) k g, (keysO l)[n]? = some k → x.gs[n]? = some g → ∃ r, Run (byKey k l) 0 (false, 0) r ∧ g = gOf k l r))) (fun x => [(5, .bool x.b), (6, .slice x.po x.ss.length x.co), (31, .int .i64 (x.j : Nat))]) (fun x => [(150, x.Ho), (190, x.HC)]) (fun x => (keysO l).length - x.j) (.cons (k := 0) rfl (.cons (k := 4) rfl (.cons (k := 29) rfl (.cons (k := 30) rfl .nil)))) (.cons (k := 0) rfl (.cons (k := 1) rfl (.cons (k := 140) rfl (.cons (k := 180) rfl .nil)))) ⟨0, true, [], [], emp, none, 0, emp⟩ ?_ ?_ ?_ ?_
    · exact ⟨Nat.zero_le _, Own.nil _ _, rfl, rfl, (fun s h => nomatch h), (by simp [AllTo]), (fun _ n k g h1 h2 => by simp at h2)⟩
    · exact (.as rfl (by first | rfl | (simp; done) | (congr 1; simp; done) | (congr 1; omega)) (.as rfl (by first | rfl | (simp; done) | (congr 1; simp; done) | (congr 1; omega)) (.as rfl (by first | rfl | (simp; done) | (congr 1; simp; done) | (congr 1; omega)) .nil)))
    · exact (.cons rfl (.cons rfl .nil))
    rintro x ⟨hj, hOo, hss, hgl, hSs, hA, hrun⟩
    refine W.keep (.cons (k := 5) rfl (.cons (k := 6) rfl (.cons (k := 31) rfl (.cons (k := 0) rfl (.cons (k := 4) rfl (.cons (k := 29) rfl (.cons (k := 30) rfl .nil))))))) (.cons (k := 150) rfl (.cons (k := 190) rfl (.cons (k := 0) rfl (.cons (k := 1) rfl (.cons (k := 140) rfl (.cons (k := 180) rfl .nil)))))) ?_
    refine W.seq ?_
    refine W.region ?_
    refine RL.q (Yld.bin rfl rfl BinV.lss) rfl ?_
    refine RL.nil ?_
    refine N.next ?_
    refine W.seq ?_
    first | refine W.condD rfl (fun hc32 => ?_) (fun hc32 => ?_) | (refine W.cond rfl (fun hc32 => ?_) (fun hc32 => ?_) <;> try simp only [Bool.or_eq_true, Bool.and_eq_true, Bool.not_eq_true', Bool.not_eq_false', decide_eq_true_eq, Bool.or_eq_false_iff, Bool.and_eq_false_iff, decide_eq_false_iff_not, beq_iff_eq, beq_eq_false_iff_ne, ne_eq, Decidable.not_not] at hc32)
    ·
      obtain ⟨k, hk, hlk⟩ := kz_at (show x.j < (keysO l).length by omega)
      have hbl := byKey_len k l
      have hxl := ix_len k l
      have hco := hOo.sl.len_le
      simp only [List.length_map, maxLen] at hco
      have hssl : x.ss.length = x.gs.length := by have := congrArg List.length hss; simpa using this
      refine W.skip ?_
      refine N.next ?_
      refine W.seq ?_
      refine W.block ?_
      refine W.seq ?_
      refine W.region ?_
      refine RL.q (Yld.indexRow Try.underlying32 sz9 rfl rfl (by first | assumption | exact Own.sl (by assumption)) (by first | rfl | omega | (simp; done) | (simp; omega)) (by omega) (by first | omega | (simp; done) | (simp; omega))) rfl ?_
      refine RL.q (by first | exact (by first | exact Yld.loadRow1 (cl := 1) Try.underlying9 rfl rfl rfl (by first | assumption | exact Own.sl (by assumption)) (by assumption) | exact Yld.loadRow1 (cl := 140) Try.underlying9 rfl rfl rfl (by first | assumption | exact Own.sl (by assumption)) (by assumption) | exact Yld.loadRow1 (cl := 180) Try.underlying9 rfl rfl rfl (by first | assumption | exact Own.sl (by assumption)) (by assumption) | exact Yld.loadRow1 (cl := 150) Try.underlying9 rfl rfl rfl (by first | assumption | exact Own.sl (by assumption)) (by assumption) | exact Yld.loadRow1 (cl := 190) Try.underlying9 rfl rfl rfl (by first | assumption | exact Own.sl (by assumption)) (by assumption)) | exact (by first | exact Yld.loadRowF (cl := 1) (j := 0) Try.underlying9 rfl rfl rfl (by first | assumption | exact Own.sl (by assumption)) (by assumption) rfl | exact Yld.loadRowF (cl := 140) (j := 0) Try.underlying9 rfl rfl rfl (by first | assumption | exact Own.sl (by assumption)) (by assumption) rfl | exact Yld.loadRowF (cl := 180) (j := 0) Try.underlying9 rfl rfl rfl (by first | assumption | exact Own.sl (by assumption)) (by assumption) rfl | exact Yld.loadRowF (cl := 150) (j := 0) Try.underlying9 rfl rfl rfl (by first | assumption | exact Own.sl (by assumption)) (by assumption) rfl | exact Yld.loadRowF (cl := 190) (j := 0) Try.underlying9 rfl rfl rfl (by first | assumption | exact Own.sl (by assumption)) (by assumption) rfl)) rfl ?_
      refine RL.q (Yld.assign rfl) rfl ?_
      refine RL.nil ?_
      refine N.next ?_
      refine W.seq ?_
      refine W.region ?_
      refine RL.q (Yld.move rfl) rfl ?_
      refine RL.q (Yld.move rfl) rfl ?_
      refine RL.e (Eff.call ent15 [1] [1, 141] (.cons rfl (.cons rfl .nil)) (rbyKey_ct l (by omega) _ _ _ hS k) rfl rfl rfl rfl (by rintro _ _ ⟨_, _, _, _, _, rfl⟩; rfl)) rfl ?_
      rintro _ _ ⟨_, ⟨Hb, pb, cb, rfl, hOb, rfl⟩, rfl⟩
      refine RL.e (Eff.call ent14 [141] [141, 172] (.cons rfl .nil) (key_ct (byKey k l) (hv.byKey k) (by omega) (keys1 k l) _ _ _ hOb.sl) rfl rfl rfl rfl (by rintro _ _ ⟨_, _, _, _, _, _, _, _, rfl⟩; rfl)) rfl ?_
      rintro _ _ ⟨_, ⟨bK, pq, cq, r, Hq, rfl, hK1, hK0, rfl⟩, rfl⟩
      refine RL.q (Yld.move rfl) rfl ?_
      refine RL.q (Yld.extract rfl rfl) rfl ?_
      refine RL.q (Yld.extract rfl rfl) rfl ?_
      refine RL.q (Yld.assign rfl) rfl ?_
      refine RL.q (Yld.assign rfl) rfl ?_
      refine RL.nil ?_
      refine N.next ?_
      refine W.keep (.cons (k := 0) rfl (.cons (k := 4) rfl (.cons (k := 5) rfl (.cons (k := 6) rfl (.cons (k := 8) rfl (.cons (k := 9) rfl (.cons (k := 10) rfl (.cons (k := 29) rfl (.cons (k := 30) rfl (.cons (k := 31) rfl .nil)))))))))) (.cons (k := 0) rfl (.cons (k := 1) rfl (.cons (k := 140) rfl (.cons (k := 141) rfl (.cons (k := 150) rfl (.cons (k := 172) rfl (.cons (k := 180) rfl (.cons (k := 190) rfl .nil)))))))) ?_
      refine W.seq ?_
      refine W.region ?_
      refine RL.q (Yld.move rfl) rfl ?_
      refine RL.q (Yld.move rfl) rfl ?_
      refine' RL.and (t := 43) (d := 45) 2 rfl (.cons (k := 0) rfl (.cons (k := 4) rfl (.cons (k := 5) rfl (.cons (k := 6) rfl (.cons (k := 8) rfl (.cons (k := 9) rfl (.cons (k := 10) rfl (.cons (k := 29) rfl (.cons (k := 30) rfl (.cons (k := 31) rfl (.cons (k := 42) rfl .nil))))))))))) (.cons (k := 0) rfl (.cons (k := 1) rfl (.cons (k := 140) rfl (.cons (k := 141) rfl (.cons (k := 150) rfl (.cons (k := 172) rfl (.cons (k := 180) rfl (.cons (k := 190) rfl .nil)))))))) ?_ ?_ ?_
      rotate_left 1
      ·
        intro hg43
        refine RL.gq rfl rfl (Yld.move rfl) rfl ?_
        refine RL.q (by first | exact Yld.pickT rfl rfl | exact Yld.pickF rfl rfl) rfl ?_
        exact RL.nil (N.meet (.cons rfl (.cons rfl (.cons rfl (.cons rfl (.cons rfl (.cons rfl (.cons rfl (.cons rfl (.cons rfl (.cons rfl (.cons rfl (.cons rfl .nil)))))))))))) (.cons rfl (.cons rfl (.cons rfl (.cons rfl (.cons rfl (.cons rfl (.cons rfl (.cons rfl .nil)))))))))
      ·
        intro hg43
        refine RL.gskip rfl rfl rfl rfl ?_
        refine RL.q (by first | exact Yld.pickT rfl rfl | exact Yld.pickF rfl rfl) rfl ?_
        exact RL.nil (N.meet (.cons rfl (.cons rfl (.cons rfl (.cons rfl (.cons rfl (.cons rfl (.cons rfl (.cons rfl (.cons rfl (.cons rfl (.cons rfl (.cons rfl .nil)))))))))))) (.cons rfl (.cons rfl (.cons rfl (.cons rfl (.cons rfl (.cons rfl (.cons rfl (.cons rfl .nil)))))))))
      refine RL.q (Yld.assign rfl) rfl ?_
      refine RL.nil ?_
      refine N.next ?_
      refine W.seq ?_
      refine W.imp (Imp.empty _ 170) ?_
      refine W.imp (Imp.empty _ 175) ?_
      refine W.region ?_
      refine RL.q (Yld.assign rfl) rfl ?_
      refine RL.q (Yld.assign rfl) rfl ?_
      refine RL.nil ?_
      refine N.next ?_
      refine W.seq ?_
      refine W.seq ?_
      refine W.region ?_
      refine RL.q (Yld.move rfl) rfl ?_
      refine RL.q (Yld.lenSl Try.underlying22 rfl) rfl ?_
      refine RL.q (Yld.move rfl) rfl ?_
      refine RL.nil ?_
      refine N.next ?_
      refine W.block ?_
      refine W.loopK (ι := XI) (fun y => (y.i ≤ l.length ∧ Own y.H y.p y.c 3 1 (iz (zsN (idxs k l y.i))))) (fun y => [(11, .slice y.p (zsN (idxs k l y.i)).length y.c), (48, .int .i64 (y.i : Nat))]) (fun y => [(170, y.H)]) (fun y => l.length - y.i) (.cons (k := 0) rfl (.cons (k := 4) rfl (.cons (k := 5) rfl (.cons (k := 6) rfl (.cons (k := 8) rfl (.cons (k := 9) rfl (.cons (k := 12) rfl (.cons (k := 29) rfl (.cons (k := 30) rfl (.cons (k := 31) rfl (.cons (k := 46) rfl (.cons (k := 47) rfl .nil)))))))))))) (.cons (k := 0) rfl (.cons (k := 1) rfl (.cons (k := 140) rfl (.cons (k := 141) rfl (.cons (k := 150) rfl (.cons (k := 172) rfl (.cons (k := 175) rfl (.cons (k := 180) rfl (.cons (k := 190) rfl .nil))))))))) ⟨0, emp, none, 0⟩ ?_ ?_ ?_ ?_
      · exact ⟨Nat.zero_le _, Own.nil _ _⟩
      · exact (.as rfl (by first | rfl | (simp; done) | (congr 1; simp; done) | (congr 1; omega)) (.as rfl (by first | rfl | (simp; done) | (congr 1; simp; done) | (congr 1; omega)) .nil))
      · exact (.cons rfl .nil)
      rintro y ⟨hi, hO⟩
      refine W.keep (.cons (k := 11) rfl (.cons (k := 48) rfl (.cons (k := 0) rfl (.cons (k := 4) rfl (.cons (k := 5) rfl (.cons (k := 6) rfl (.cons (k := 8) rfl (.cons (k := 9) rfl (.cons (k := 12) rfl (.cons (k := 29) rfl (.cons (k := 30) rfl (.cons (k := 31) rfl (.cons (k := 46) rfl (.cons (k := 47) rfl .nil)))))))))))))) (.cons (k := 170) rfl (.cons (k := 0) rfl (.cons (k := 1) rfl (.cons (k := 140) rfl (.cons (k := 141) rfl (.cons (k := 150) rfl (.cons (k := 172) rfl (.cons (k := 175) rfl (.cons (k := 180) rfl (.cons (k := 190) rfl .nil)))))))))) ?_
      refine W.seq ?_
      refine W.region ?_
      refine RL.q (Yld.bin rfl rfl BinV.lss) rfl ?_
      refine RL.nil ?_
      refine N.next ?_
      refine W.seq ?_
      first | refine W.condD rfl (fun hc49 => ?_) (fun hc49 => ?_) | (refine W.cond rfl (fun hc49 => ?_) (fun hc49 => ?_) <;> try simp only [Bool.or_eq_true, Bool.and_eq_true, Bool.not_eq_true', Bool.not_eq_false', decide_eq_true_eq, Bool.or_eq_false_iff, Bool.and_eq_false_iff, decide_eq_false_iff_not, beq_iff_eq, beq_eq_false_iff_ne, ne_eq, Decidable.not_not] at hc49)
      ·
        obtain ⟨o, ho⟩ : ∃ o, l[y.i]? = some o := ⟨_, List.getElem?_eq_getElem (show y.i < l.length by simp only [List.length_map] at *; omega)⟩
        have hlo : (l.map O.c)[y.i]? = some o.c := by simp [ho]
        have hsu := idxs_succ (k := k) ho
        have hil := idxs_len k l y.i
        have hcx := hO.sl.len_le
        simp only [iz_len, zsN_len, maxLen] at hcx
        refine W.skip ?_
        refine N.next ?_
        refine W.seq ?_
        refine W.block ?_
        refine W.seq ?_
        refine W.region ?_
        refine RL.q (Yld.move rfl) rfl ?_
        refine RL.q (Yld.indexRow Try.underlying22 sz42 rfl rfl (by first | assumption | exact Own.sl (by assumption)) (by first | rfl | omega | (simp; done) | (simp; omega)) (by omega) (by first | omega | (simp; done) | (simp; omega))) rfl ?_
        refine RL.q (by first | exact Yld.loadRow (cl := 1) Try.underlying42 rfl sz42 rfl rfl (by first | assumption | exact Own.sl (by assumption)) (by assumption) | exact Yld.loadRow (cl := 140) Try.underlying42 rfl sz42 rfl rfl (by first | assumption | exact Own.sl (by assumption)) (by assumption) | exact Yld.loadRow (cl := 141) Try.underlying42 rfl sz42 rfl rfl (by first | assumption | exact Own.sl (by assumption)) (by assumption) | exact Yld.loadRow (cl := 150) Try.underlying42 rfl sz42 rfl rfl (by first | assumption | exact Own.sl (by assumption)) (by assumption) | exact Yld.loadRow (cl := 172) Try.underlying42 rfl sz42 rfl rfl (by first | assumption | exact Own.sl (by assumption)) (by assumption) | exact Yld.loadRow (cl := 175) Try.underlying42 rfl sz42 rfl rfl (by first | assumption | exact Own.sl (by assumption)) (by assumption) | exact Yld.loadRow (cl := 180) Try.underlying42 rfl sz42 rfl rfl (by first | assumption | exact Own.sl (by assumption)) (by assumption) | exact Yld.loadRow (cl := 190) Try.underlying42 rfl sz42 rfl rfl (by first | assumption | exact Own.sl (by assumption)) (by assumption) | exact Yld.loadRow (cl := 170) Try.underlying42 rfl sz42 rfl rfl (by first | assumption | exact Own.sl (by assumption)) (by assumption)) rfl ?_
        refine RL.e (Eff.alloc 114 zc42) rfl ?_
        rintro _ _ ⟨b14, rfl, rfl⟩
        refine RL.q (Yld.assign rfl) rfl ?_
        refine RL.e0 (Eff.storeS (c := 114) _ sz42 rfl rfl rfl rfl rfl rfl rfl (by (try simp only [putAt, List.take, List.drop, List.nil_append, List.cons_append, List.append_nil, List.length_cons, List.length_nil, Nat.add_zero, Nat.zero_add, Nat.reduceAdd]); rfl)) ?_
        rintro _ _ rfl
        refine RL.nil ?_
        refine N.next ?_
        refine W.keep (.cons (k := 0) rfl (.cons (k := 4) rfl (.cons (k := 5) rfl (.cons (k := 6) rfl (.cons (k := 8) rfl (.cons (k := 9) rfl (.cons (k := 11) rfl (.cons (k := 12) rfl (.cons (k := 13) rfl (.cons (k := 14) rfl (.cons (k := 29) rfl (.cons (k := 30) rfl (.cons (k := 31) rfl (.cons (k := 46) rfl (.cons (k := 47) rfl (.cons (k := 48) rfl .nil)))))))))))))))) (.cons (k := 0) rfl (.cons (k := 1) rfl (.cons (k := 114) rfl (.cons (k := 140) rfl (.cons (k := 141) rfl (.cons (k := 150) rfl (.cons (k := 170) rfl (.cons (k := 172) rfl (.cons (k := 175) rfl (.cons (k := 180) rfl (.cons (k := 190) rfl .nil))))))))))) ?_
        refine W.seq ?_
        refine W.region ?_
        refine RL.q (Yld.fieldAddr fo42_3 rfl) rfl ?_
        refine RL.q (Yld.fieldAddr fo38_1 rfl) rfl ?_
        refine RL.q (Yld.load1 (c := 114) Try.underlying9 rfl rfl rfl (by first | exact single_self _ _ | exact pset_self _ _ _ | assumption) rfl) rfl ?_
        refine RL.q (Yld.move rfl) rfl ?_
        refine RL.q (Yld.bin rfl rfl BinV.eqlS) rfl ?_
        refine RL.nil ?_
        refine N.next ?_
        refine W.keep (.cons (k := 0) rfl (.cons (k := 4) rfl (.cons (k := 5) rfl (.cons (k := 6) rfl (.cons (k := 8) rfl (.cons (k := 9) rfl (.cons (k := 11) rfl (.cons (k := 12) rfl (.cons (k := 13) rfl (.cons (k := 29) rfl (.cons (k := 30) rfl (.cons (k := 31) rfl (.cons (k := 46) rfl (.cons (k := 47) rfl (.cons (k := 48) rfl (.cons (k := 57) rfl .nil)))))))))))))))) (.cons (k := 0) rfl (.cons (k := 1) rfl (.cons (k := 114) rfl (.cons (k := 140) rfl (.cons (k := 141) rfl (.cons (k := 150) rfl (.cons (k := 170) rfl (.cons (k := 172) rfl (.cons (k := 175) rfl (.cons (k := 180) rfl (.cons (k := 190) rfl .nil))))))))))) ?_
        first | refine W.condD rfl (fun hc57 => ?_) (fun hc57 => ?_) | (refine W.cond rfl (fun hc57 => ?_) (fun hc57 => ?_) <;> try simp only [Bool.or_eq_true, Bool.and_eq_true, Bool.not_eq_true', Bool.not_eq_false', decide_eq_true_eq, Bool.or_eq_false_iff, Bool.and_eq_false_iff, decide_eq_false_iff_not, beq_iff_eq, beq_eq_false_iff_ne, ne_eq, Decidable.not_not] at hc57)
        ·
          have hnx : (zsN (idxs k l (y.i + 1))) = (zsN (idxs k l y.i)) ++ [(y.i : Int)] := by rw [hsu, if_pos hc57, zsN_app]; rfl
          refine W.region ?_
          refine RL.q (Yld.move rfl) rfl ?_
          refine RL.q (Yld.move rfl) rfl ?_
          refine RL.e (Eff.buildSlice 160 Try.underlying25 sz3 zc3 rfl rfl (.cons rfl rfl .nil) rfl) rfl ?_
          rintro _ _ ⟨b60, rfl, rfl⟩
          refine RL.e (Eff.appendE (tc := 170) (sc := 160) (fun z : Int => [Value.int .i64 z]) Try.underlying25 el3 rfl rfl rfl rfl hO rfl (iz_single rfl) rfl (iz_one1 _) (by decide) (by simp; omega) (by simp [maxLen]; omega)) rfl ?_
          rintro _ _ ⟨Ha, pa, ca, rfl, hOa, rfl⟩
          refine RL.q (Yld.assign rfl) rfl ?_
          refine RL.nil ?_
          refine N.block_normal ?_
          refine N.next ?_
          refine W.keep (.cons (k := 0) rfl (.cons (k := 4) rfl (.cons (k := 5) rfl (.cons (k := 6) rfl (.cons (k := 8) rfl (.cons (k := 9) rfl (.cons (k := 11) rfl (.cons (k := 12) rfl (.cons (k := 29) rfl (.cons (k := 30) rfl (.cons (k := 31) rfl (.cons (k := 46) rfl (.cons (k := 47) rfl (.cons (k := 48) rfl .nil)))))))))))))) (.cons (k := 0) rfl (.cons (k := 1) rfl (.cons (k := 114) rfl (.cons (k := 140) rfl (.cons (k := 141) rfl (.cons (k := 150) rfl (.cons (k := 160) rfl (.cons (k := 170) rfl (.cons (k := 172) rfl (.cons (k := 175) rfl (.cons (k := 180) rfl (.cons (k := 190) rfl .nil)))))))))))) ?_
          refine W.region ?_
          refine RL.q (Yld.bin rfl rfl (by first | exact BinV.add (by omega) (by omega) | exact BinV.addW)) rfl ?_
          refine RL.q (Yld.move rfl) rfl ?_
          refine RL.nil ?_
          exact N.famK ⟨y.i + 1, Ha, pa, ca⟩ ⟨⟨by dsimp only; omega, by dsimp only; rw [hnx]; exact hOa⟩, by dsimp only; omega⟩ (.as rfl (by show Value.slice _ _ _ = Value.slice _ _ _; rw [hnx]) (.as rfl (by first | rfl | (simp; done) | (congr 1; simp; done) | (congr 1; omega)) .nil)) (.cons rfl (.cons rfl (.cons rfl (.cons rfl (.cons rfl (.cons rfl (.cons rfl (.cons rfl (.cons rfl (.cons rfl (.cons rfl (.cons rfl .nil)))))))))))) (.cons rfl .nil) (.cons rfl (.cons rfl (.cons rfl (.cons rfl (.cons rfl (.cons rfl (.cons rfl (.cons rfl (.cons rfl .nil)))))))))
        ·
          have hnx : (zsN (idxs k l (y.i + 1))) = (zsN (idxs k l y.i)) := by rw [hsu, if_neg hc57]
          refine W.skip ?_
          refine N.block_normal ?_
          refine N.next ?_
          refine W.region ?_
          refine RL.q (Yld.bin rfl rfl (by first | exact BinV.add (by omega) (by omega) | exact BinV.addW)) rfl ?_
          refine RL.q (Yld.move rfl) rfl ?_
          refine RL.nil ?_
          exact N.famK ⟨y.i + 1, y.H, y.p, y.c⟩ ⟨⟨by dsimp only; omega, by dsimp only; rw [hnx]; exact hO⟩, by dsimp only; omega⟩ (.as rfl (by show Value.slice _ _ _ = Value.slice _ _ _; rw [hnx]) (.as rfl (by first | rfl | (simp; done) | (congr 1; simp; done) | (congr 1; omega)) .nil)) (.cons rfl (.cons rfl (.cons rfl (.cons rfl (.cons rfl (.cons rfl (.cons rfl (.cons rfl (.cons rfl (.cons rfl (.cons rfl (.cons rfl .nil)))))))))))) (.cons rfl .nil) (.cons rfl (.cons rfl (.cons rfl (.cons rfl (.cons rfl (.cons rfl (.cons rfl (.cons rfl (.cons rfl .nil)))))))))
      ·
        have hendi : y.i = l.length := by omega
        rw [hendi] at hO ⊢
        have hQs : Sl Hq pq cq 1 (iz (zs r)) := by
          cases hb : bK with
          | true => exact (hK1 hb).1.sl
          | false =>
            obtain ⟨rfl, rfl, rfl, _⟩ := hK0 hb
            exact (Own.nil 3 1).sl.mono (fun _ _ h => nomatch h)
        have hrl : ∀ j ∈ r, j < (byKey k l).length := fun j hjr => by
          cases hb : bK with
          | true => exact (hK1 hb).2.lt j hjr
          | false => rw [(hK0 hb).1] at hjr; cases hjr
        have hbk : bK = true ↔ Live (byKey k l) 0 (false, 0) := by
          cases hb : bK with
          | true => exact ⟨fun _ => ⟨r, (hK1 hb).2⟩, fun _ => rfl⟩
          | false => exact ⟨fun h => Bool.noConfusion h, fun h => absurd h (hK0 hb).2.2.2⟩
        have hrle : r.length ≤ (byKey k l).length := by
          cases hb : bK with
          | true => simpa using nodup_len (l := List.range (byKey k l).length) (hK1 hb).2.fresh.1 (fun j hj => List.mem_range.2 ((hK1 hb).2.lt j hj))
          | false => rw [(hK0 hb).1]; exact Nat.zero_le _
        have hcq := hQs.len_le
        simp only [iz_len, zs_len, maxLen] at hcq
        refine W.exit ?_
        refine N.then_exit ?_
        refine N.then_exit ?_
        refine N.block_eq ?_
        refine N.next ?_
        refine W.keep (.cons (k := 0) rfl (.cons (k := 4) rfl (.cons (k := 5) rfl (.cons (k := 6) rfl (.cons (k := 9) rfl (.cons (k := 11) rfl (.cons (k := 12) rfl (.cons (k := 29) rfl (.cons (k := 30) rfl (.cons (k := 31) rfl .nil)))))))))) (.cons (k := 0) rfl (.cons (k := 1) rfl (.cons (k := 140) rfl (.cons (k := 141) rfl (.cons (k := 150) rfl (.cons (k := 170) rfl (.cons (k := 172) rfl (.cons (k := 175) rfl (.cons (k := 180) rfl (.cons (k := 190) rfl .nil)))))))))) ?_
        refine W.seq ?_
        refine W.seq ?_
        refine W.region ?_
        refine RL.q (Yld.move rfl) rfl ?_
        refine RL.q (Yld.lenSl Try.underlying25 rfl) rfl ?_
        refine RL.q (Yld.move rfl) rfl ?_
        refine RL.nil ?_
        refine N.next ?_
        refine W.block ?_
        refine W.loopK (ι := XI) (fun z => (z.i ≤ r.length ∧ Own z.H z.p z.c 3 1 (iz (zsN ((gOf k l r).take z.i))))) (fun z => [(12, .slice z.p (zsN ((gOf k l r).take z.i)).length z.c), (65, .int .i64 (z.i : Nat))]) (fun z => [(175, z.H)]) (fun z => r.length - z.i) (.cons (k := 0) rfl (.cons (k := 4) rfl (.cons (k := 5) rfl (.cons (k := 6) rfl (.cons (k := 11) rfl (.cons (k := 29) rfl (.cons (k := 30) rfl (.cons (k := 31) rfl (.cons (k := 63) rfl (.cons (k := 64) rfl .nil)))))))))) (.cons (k := 0) rfl (.cons (k := 1) rfl (.cons (k := 140) rfl (.cons (k := 141) rfl (.cons (k := 150) rfl (.cons (k := 170) rfl (.cons (k := 172) rfl (.cons (k := 180) rfl (.cons (k := 190) rfl .nil))))))))) ⟨0, emp, none, 0⟩ ?_ ?_ ?_ ?_
        · exact ⟨Nat.zero_le _, Own.nil _ _⟩
        · exact (.as rfl (by first | rfl | (simp; done) | (congr 1; simp; done) | (congr 1; omega)) (.as rfl (by first | rfl | (simp; done) | (congr 1; simp; done) | (congr 1; omega)) .nil))
        · exact (.cons rfl .nil)
        rintro z ⟨hzi, hOz⟩
        refine W.keep (.cons (k := 12) rfl (.cons (k := 65) rfl (.cons (k := 0) rfl (.cons (k := 4) rfl (.cons (k := 5) rfl (.cons (k := 6) rfl (.cons (k := 11) rfl (.cons (k := 29) rfl (.cons (k := 30) rfl (.cons (k := 31) rfl (.cons (k := 63) rfl (.cons (k := 64) rfl .nil)))))))))))) (.cons (k := 175) rfl (.cons (k := 0) rfl (.cons (k := 1) rfl (.cons (k := 140) rfl (.cons (k := 141) rfl (.cons (k := 150) rfl (.cons (k := 170) rfl (.cons (k := 172) rfl (.cons (k := 180) rfl (.cons (k := 190) rfl .nil)))))))))) ?_
        refine W.seq ?_
        refine W.region ?_
        refine RL.q (Yld.bin rfl rfl BinV.lss) rfl ?_
        refine RL.nil ?_
        refine N.next ?_
        refine W.seq ?_
        first | refine W.condD rfl (fun hc66 => ?_) (fun hc66 => ?_) | (refine W.cond rfl (fun hc66 => ?_) (fun hc66 => ?_) <;> try simp only [Bool.or_eq_true, Bool.and_eq_true, Bool.not_eq_true', Bool.not_eq_false', decide_eq_true_eq, Bool.or_eq_false_iff, Bool.and_eq_false_iff, decide_eq_false_iff_not, beq_iff_eq, beq_eq_false_iff_ne, ne_eq, Decidable.not_not] at hc66)
        ·
          have hzr : z.i < r.length := by simp only [zs_len] at *; omega
          obtain ⟨j, hr⟩ : ∃ j, r[z.i]? = some j := ⟨_, List.getElem?_eq_getElem hzr⟩
          have hjl := hrl j (List.mem_of_getElem? hr)
          have hq2 : j < (ix k l).length := by omega
          have hq5 : j < (idxs k l l.length).length := hq2
          have hq4 : (zsN (ix k l)).length = (iz (zsN (ix k l))).length := by simp
          have hl1 : (iz (zs r))[z.i]? = some [.int .i64 (j : Int)] := iz_get (zsN_get hr)
          have hl2 : (iz (zsN (ix k l)))[j]? = some [.int .i64 (((ix k l).getD j 0 : Nat) : Int)] := iz_get (zsN_get (by rw [List.getD_eq_getElem?_getD, List.getElem?_eq_getElem hq2]; rfl))
          have hnx : (zsN ((gOf k l r).take (z.i + 1))) = (zsN ((gOf k l r).take z.i)) ++ [(((ix k l).getD j 0 : Nat) : Int)] := by rw [take_snoc (gOf_get hr), zsN_app]; rfl
          have hcz := hOz.sl.len_le
          simp only [iz_len, zsN_len, maxLen] at hcz
          have hgl2 : ((gOf k l r).take z.i).length = z.i := by simp [gOf_len]; omega
          refine W.skip ?_
          refine N.next ?_
          refine W.seq ?_
          refine W.block ?_
          refine W.seq ?_
          refine W.region ?_
          refine RL.q (Yld.indexRow Try.underlying25 sz3 rfl rfl (by first | assumption | exact Own.sl (by assumption)) (by first | rfl | omega | (simp; done) | (simp; omega)) (by omega) (by first | omega | (simp; done) | (simp; omega))) rfl ?_
          refine RL.q (by first | exact (by first | exact Yld.loadRow1 (cl := 1) Try.underlying3 rfl rfl rfl (by first | assumption | exact Own.sl (by assumption)) (by assumption) | exact Yld.loadRow1 (cl := 140) Try.underlying3 rfl rfl rfl (by first | assumption | exact Own.sl (by assumption)) (by assumption) | exact Yld.loadRow1 (cl := 141) Try.underlying3 rfl rfl rfl (by first | assumption | exact Own.sl (by assumption)) (by assumption) | exact Yld.loadRow1 (cl := 150) Try.underlying3 rfl rfl rfl (by first | assumption | exact Own.sl (by assumption)) (by assumption) | exact Yld.loadRow1 (cl := 170) Try.underlying3 rfl rfl rfl (by first | assumption | exact Own.sl (by assumption)) (by assumption) | exact Yld.loadRow1 (cl := 172) Try.underlying3 rfl rfl rfl (by first | assumption | exact Own.sl (by assumption)) (by assumption) | exact Yld.loadRow1 (cl := 180) Try.underlying3 rfl rfl rfl (by first | assumption | exact Own.sl (by assumption)) (by assumption) | exact Yld.loadRow1 (cl := 190) Try.underlying3 rfl rfl rfl (by first | assumption | exact Own.sl (by assumption)) (by assumption) | exact Yld.loadRow1 (cl := 175) Try.underlying3 rfl rfl rfl (by first | assumption | exact Own.sl (by assumption)) (by assumption)) | exact (by first | exact Yld.loadRowF (cl := 1) (j := 0) Try.underlying3 rfl rfl rfl (by first | assumption | exact Own.sl (by assumption)) (by assumption) rfl | exact Yld.loadRowF (cl := 140) (j := 0) Try.underlying3 rfl rfl rfl (by first | assumption | exact Own.sl (by assumption)) (by assumption) rfl | exact Yld.loadRowF (cl := 141) (j := 0) Try.underlying3 rfl rfl rfl (by first | assumption | exact Own.sl (by assumption)) (by assumption) rfl | exact Yld.loadRowF (cl := 150) (j := 0) Try.underlying3 rfl rfl rfl (by first | assumption | exact Own.sl (by assumption)) (by assumption) rfl | exact Yld.loadRowF (cl := 170) (j := 0) Try.underlying3 rfl rfl rfl (by first | assumption | exact Own.sl (by assumption)) (by assumption) rfl | exact Yld.loadRowF (cl := 172) (j := 0) Try.underlying3 rfl rfl rfl (by first | assumption | exact Own.sl (by assumption)) (by assumption) rfl | exact Yld.loadRowF (cl := 180) (j := 0) Try.underlying3 rfl rfl rfl (by first | assumption | exact Own.sl (by assumption)) (by assumption) rfl | exact Yld.loadRowF (cl := 190) (j := 0) Try.underlying3 rfl rfl rfl (by first | assumption | exact Own.sl (by assumption)) (by assumption) rfl | exact Yld.loadRowF (cl := 175) (j := 0) Try.underlying3 rfl rfl rfl (by first | assumption | exact Own.sl (by assumption)) (by assumption) rfl)) rfl ?_
          refine RL.q (Yld.assign rfl) rfl ?_
          refine RL.nil ?_
          refine N.next ?_
          refine W.seq ?_
          refine W.seq ?_
          refine W.region ?_
          refine RL.q (Yld.move rfl) rfl ?_
          refine RL.q (Yld.bin rfl rfl BinV.lss) rfl ?_
          refine RL.q (Yld.move rfl) rfl ?_
          refine' RL.or (t := 71) (d := 76) 5 rfl (.cons (k := 0) rfl (.cons (k := 4) rfl (.cons (k := 5) rfl (.cons (k := 6) rfl (.cons (k := 11) rfl (.cons (k := 12) rfl (.cons (k := 16) rfl (.cons (k := 29) rfl (.cons (k := 30) rfl (.cons (k := 31) rfl (.cons (k := 63) rfl (.cons (k := 64) rfl (.cons (k := 65) rfl (.cons (k := 66) rfl (.cons (k := 67) rfl (.cons (k := 68) rfl (.cons (k := 69) rfl (.cons (k := 70) rfl .nil)))))))))))))))))) (.cons (k := 0) rfl (.cons (k := 1) rfl (.cons (k := 140) rfl (.cons (k := 141) rfl (.cons (k := 150) rfl (.cons (k := 170) rfl (.cons (k := 172) rfl (.cons (k := 175) rfl (.cons (k := 180) rfl (.cons (k := 190) rfl .nil)))))))))) ?_ ?_ ?_
          rotate_left 1
          ·
            intro hg71
            refine RL.gq rfl rfl (Yld.move rfl) rfl ?_
            refine RL.gq rfl rfl (Yld.move rfl) rfl ?_
            refine RL.gq rfl rfl (Yld.lenSl Try.underlying25 rfl) rfl ?_
            refine RL.gq rfl rfl (Yld.bin rfl rfl BinV.geq) rfl ?_
            refine RL.q (by first | exact Yld.pickT rfl rfl | exact Yld.pickF rfl rfl) rfl ?_
            exact RL.nil (N.meet (.cons rfl (.cons rfl (.cons rfl (.cons rfl (.cons rfl (.cons rfl (.cons rfl (.cons rfl (.cons rfl (.cons rfl (.cons rfl (.cons rfl (.cons rfl (.cons rfl (.cons rfl (.cons rfl (.cons rfl (.cons rfl (.cons rfl .nil))))))))))))))))))) (.cons rfl (.cons rfl (.cons rfl (.cons rfl (.cons rfl (.cons rfl (.cons rfl (.cons rfl (.cons rfl (.cons rfl .nil)))))))))))
          ·
            intro hg71
            refine RL.gskip rfl rfl rfl rfl ?_
            refine RL.gskip rfl rfl rfl rfl ?_
            refine RL.gskip rfl rfl rfl rfl ?_
            refine RL.gskip rfl rfl rfl rfl ?_
            refine RL.q (by first | exact Yld.pickT rfl rfl | exact Yld.pickF rfl rfl) rfl ?_
            exact RL.nil (N.meet (.cons rfl (.cons rfl (.cons rfl (.cons rfl (.cons rfl (.cons rfl (.cons rfl (.cons rfl (.cons rfl (.cons rfl (.cons rfl (.cons rfl (.cons rfl (.cons rfl (.cons rfl (.cons rfl (.cons rfl (.cons rfl (.cons rfl .nil))))))))))))))))))) (.cons rfl (.cons rfl (.cons rfl (.cons rfl (.cons rfl (.cons rfl (.cons rfl (.cons rfl (.cons rfl (.cons rfl .nil)))))))))))
          refine RL.nil ?_
          refine N.next ?_
          refine W.keep (.cons (k := 0) rfl (.cons (k := 4) rfl (.cons (k := 5) rfl (.cons (k := 6) rfl (.cons (k := 11) rfl (.cons (k := 12) rfl (.cons (k := 16) rfl (.cons (k := 29) rfl (.cons (k := 30) rfl (.cons (k := 31) rfl (.cons (k := 63) rfl (.cons (k := 64) rfl (.cons (k := 65) rfl (.cons (k := 76) rfl .nil)))))))))))))) (.cons (k := 0) rfl (.cons (k := 1) rfl (.cons (k := 140) rfl (.cons (k := 141) rfl (.cons (k := 150) rfl (.cons (k := 170) rfl (.cons (k := 172) rfl (.cons (k := 175) rfl (.cons (k := 180) rfl (.cons (k := 190) rfl .nil)))))))))) ?_
          refine W.cond rfl (fun hc76 => ?_) (fun hc76 => ?_)
          ·
            exfalso
            simp only [Bool.or_eq_true, decide_eq_true_eq] at hc76
            simp only [zsN_len] at hc76
            omega
          ·
            refine W.skip ?_
            refine N.next ?_
            refine W.region ?_
            refine RL.q (Yld.move rfl) rfl ?_
            refine RL.q (Yld.move rfl) rfl ?_
            refine RL.q (Yld.move rfl) rfl ?_
            refine RL.q (Yld.indexRow Try.underlying25 sz3 rfl rfl (by first | assumption | exact Own.sl (by assumption)) (by first | rfl | omega | (simp; done) | (simp; omega)) (by omega) (by first | omega | (simp; done) | (simp; omega))) rfl ?_
            refine RL.q (by first | exact (by first | exact Yld.loadRow1 (cl := 1) Try.underlying3 rfl rfl rfl (by first | assumption | exact Own.sl (by assumption)) (by assumption) | exact Yld.loadRow1 (cl := 140) Try.underlying3 rfl rfl rfl (by first | assumption | exact Own.sl (by assumption)) (by assumption) | exact Yld.loadRow1 (cl := 141) Try.underlying3 rfl rfl rfl (by first | assumption | exact Own.sl (by assumption)) (by assumption) | exact Yld.loadRow1 (cl := 150) Try.underlying3 rfl rfl rfl (by first | assumption | exact Own.sl (by assumption)) (by assumption) | exact Yld.loadRow1 (cl := 170) Try.underlying3 rfl rfl rfl (by first | assumption | exact Own.sl (by assumption)) (by assumption) | exact Yld.loadRow1 (cl := 172) Try.underlying3 rfl rfl rfl (by first | assumption | exact Own.sl (by assumption)) (by assumption) | exact Yld.loadRow1 (cl := 180) Try.underlying3 rfl rfl rfl (by first | assumption | exact Own.sl (by assumption)) (by assumption) | exact Yld.loadRow1 (cl := 190) Try.underlying3 rfl rfl rfl (by first | assumption | exact Own.sl (by assumption)) (by assumption) | exact Yld.loadRow1 (cl := 175) Try.underlying3 rfl rfl rfl (by first | assumption | exact Own.sl (by assumption)) (by assumption)) | exact (by first | exact Yld.loadRowF (cl := 1) (j := 0) Try.underlying3 rfl rfl rfl (by first | assumption | exact Own.sl (by assumption)) (by assumption) rfl | exact Yld.loadRowF (cl := 140) (j := 0) Try.underlying3 rfl rfl rfl (by first | assumption | exact Own.sl (by assumption)) (by assumption) rfl | exact Yld.loadRowF (cl := 141) (j := 0) Try.underlying3 rfl rfl rfl (by first | assumption | exact Own.sl (by assumption)) (by assumption) rfl | exact Yld.loadRowF (cl := 150) (j := 0) Try.underlying3 rfl rfl rfl (by first | assumption | exact Own.sl (by assumption)) (by assumption) rfl | exact Yld.loadRowF (cl := 170) (j := 0) Try.underlying3 rfl rfl rfl (by first | assumption | exact Own.sl (by assumption)) (by assumption) rfl | exact Yld.loadRowF (cl := 172) (j := 0) Try.underlying3 rfl rfl rfl (by first | assumption | exact Own.sl (by assumption)) (by assumption) rfl | exact Yld.loadRowF (cl := 180) (j := 0) Try.underlying3 rfl rfl rfl (by first | assumption | exact Own.sl (by assumption)) (by assumption) rfl | exact Yld.loadRowF (cl := 190) (j := 0) Try.underlying3 rfl rfl rfl (by first | assumption | exact Own.sl (by assumption)) (by assumption) rfl | exact Yld.loadRowF (cl := 175) (j := 0) Try.underlying3 rfl rfl rfl (by first | assumption | exact Own.sl (by assumption)) (by assumption) rfl)) rfl ?_
            refine RL.e (Eff.buildSlice 182 Try.underlying25 sz3 zc3 rfl rfl (.cons rfl rfl .nil) rfl) rfl ?_
            rintro _ _ ⟨b82, rfl, rfl⟩
            refine RL.e (Eff.appendE (tc := 175) (sc := 182) (fun z : Int => [Value.int .i64 z]) Try.underlying25 el3 rfl rfl rfl rfl hOz rfl (iz_single rfl) rfl (iz_one1 _) (by decide) (by simp; omega) (by simp [maxLen]; omega)) rfl ?_
            rintro _ _ ⟨Ha, pa, ca, rfl, hOa, rfl⟩
            refine RL.q (Yld.assign rfl) rfl ?_
            refine RL.nil ?_
            refine N.block_normal ?_
            refine N.next ?_
            refine W.keep (.cons (k := 0) rfl (.cons (k := 4) rfl (.cons (k := 5) rfl (.cons (k := 6) rfl (.cons (k := 11) rfl (.cons (k := 12) rfl (.cons (k := 29) rfl (.cons (k := 30) rfl (.cons (k := 31) rfl (.cons (k := 63) rfl (.cons (k := 64) rfl (.cons (k := 65) rfl .nil)))))))))))) (.cons (k := 0) rfl (.cons (k := 1) rfl (.cons (k := 140) rfl (.cons (k := 141) rfl (.cons (k := 150) rfl (.cons (k := 170) rfl (.cons (k := 172) rfl (.cons (k := 175) rfl (.cons (k := 180) rfl (.cons (k := 182) rfl (.cons (k := 190) rfl .nil))))))))))) ?_
            refine W.region ?_
            refine RL.q (Yld.bin rfl rfl (by first | exact BinV.add (by omega) (by omega) | exact BinV.addW)) rfl ?_
            refine RL.q (Yld.move rfl) rfl ?_
            refine RL.nil ?_
            exact N.famK ⟨z.i + 1, Ha, pa, ca⟩ ⟨⟨by dsimp only; omega, by dsimp only; rw [hnx]; exact hOa⟩, by dsimp only; omega⟩ (.as rfl (by show Value.slice _ _ _ = Value.slice _ _ _; rw [hnx]) (.as rfl (by first | rfl | (simp; done) | (congr 1; simp; done) | (congr 1; omega)) .nil)) (.cons rfl (.cons rfl (.cons rfl (.cons rfl (.cons rfl (.cons rfl (.cons rfl (.cons rfl (.cons rfl (.cons rfl .nil)))))))))) (.cons rfl .nil) (.cons rfl (.cons rfl (.cons rfl (.cons rfl (.cons rfl (.cons rfl (.cons rfl (.cons rfl (.cons rfl .nil)))))))))
        ·
          have hendz : z.i = (gOf k l r).length := by simp only [zs_len, gOf_len] at *; omega
          rw [hendz, List.take_length] at hOz ⊢
          have hSs2 : (∀ b o, z.H b = some o → hjoin x.HC z.H b = some o) → ∀ s ∈ x.ss ++ [(z.p, z.c, zsN (gOf k l r))], Sl (hjoin x.HC z.H) s.1 s.2.1 1 (iz s.2.2) := fun ha s hs => by
            rcases List.mem_append.1 hs with h | h
            · exact (hSs s h).mono hjoin_l
            · simp at h; subst h; exact hOz.sl.mono ha
          have hrun2 : (x.b && bK) = true → ∀ (n : Nat) k2 g, (keysO l)[n]? = some k2 → (x.gs ++ [gOf k l r])[n]? = some g → ∃ r, Run (byKey k2 l) 0 (false, 0) r ∧ g = gOf k2 l r := fun hbb n k2 g h1 h2 => by
            rw [Bool.and_eq_true] at hbb
            by_cases e : n < x.gs.length
            · rw [List.getElem?_append_left e] at h2; exact hrun hbb.1 n k2 g h1 h2
            · rw [List.getElem?_append_right (by omega)] at h2
              have e2 : n = x.j := by have := (List.getElem?_eq_some_iff.1 h2).1; simp at this; omega
              subst e2
              rw [hgl, Nat.sub_self] at h2
              rw [hk] at h1; cases h1; cases h2
              exact ⟨r, (hK1 hbb.2).2, rfl⟩
          refine W.exit ?_
          refine N.then_exit ?_
          refine N.then_exit ?_
          refine N.block_eq ?_
          refine N.next ?_
          refine W.keep (.cons (k := 0) rfl (.cons (k := 4) rfl (.cons (k := 5) rfl (.cons (k := 6) rfl (.cons (k := 12) rfl (.cons (k := 29) rfl (.cons (k := 30) rfl (.cons (k := 31) rfl .nil)))))))) (.cons (k := 0) rfl (.cons (k := 1) rfl (.cons (k := 140) rfl (.cons (k := 141) rfl (.cons (k := 150) rfl (.cons (k := 170) rfl (.cons (k := 172) rfl (.cons (k := 175) rfl (.cons (k := 180) rfl (.cons (k := 190) rfl .nil)))))))))) ?_
          refine W.region ?_
          refine RL.q (Yld.move rfl) rfl ?_
          refine RL.q (Yld.move rfl) rfl ?_
          refine RL.e (Eff.buildSlice 187 Try.underlying31 sz25 zc25 rfl rfl (.cons rfl rfl .nil) rfl) rfl ?_
          rintro _ _ ⟨b87, rfl, rfl⟩
          refine RL.e (Eff.appendE (tc := 150) (sc := 187) (ms := [(z.p, z.c, zsN (gOf k l r))]) SV Try.underlying31 el25 rfl rfl rfl rfl hOo rfl (Own.one (l := [Value.slice z.p (zsN (gOf k l r)).length z.c]) rfl (by simp [Value.oneCell']) rfl).sl rfl (by simp [SV, Value.oneCell']) (by decide) (by simp; omega) (by simp [maxLen]; omega)) rfl ?_
          rintro _ _ ⟨Ha, pa, ca, rfl, hOa, rfl⟩
          refine RL.q (Yld.assign rfl) rfl ?_
          refine RL.nil ?_
          refine N.block_normal ?_
          refine N.next ?_
          refine W.keep (.cons (k := 0) rfl (.cons (k := 4) rfl (.cons (k := 5) rfl (.cons (k := 6) rfl (.cons (k := 29) rfl (.cons (k := 30) rfl (.cons (k := 31) rfl .nil))))))) (.cons (k := 0) rfl (.cons (k := 1) rfl (.cons (k := 140) rfl (.cons (k := 141) rfl (.cons (k := 150) rfl (.cons (k := 170) rfl (.cons (k := 172) rfl (.cons (k := 175) rfl (.cons (k := 180) rfl (.cons (k := 187) rfl (.cons (k := 190) rfl .nil))))))))))) ?_
          refine W.region ?_
          refine RL.q (Yld.bin rfl rfl (by first | exact BinV.add (by omega) (by omega) | exact BinV.addW)) rfl ?_
          refine RL.q (Yld.move rfl) rfl ?_
          refine RL.nil ?_
          refine N.merge 190 175 rfl rfl rfl fun ha1 => ?_
          exact N.famK ⟨x.j + 1, (x.b && bK), x.ss ++ [(z.p, z.c, zsN (gOf k l r))], x.gs ++ [gOf k l r], Ha, pa, ca, hjoin x.HC z.H⟩ ⟨⟨by dsimp only; omega, hOa, by dsimp only; rw [List.map_append, List.map_append, hss]; rfl, by dsimp only; rw [List.length_append]; simp only [List.length_cons, List.length_nil]; omega, hSs2 ha1, hA.step hk hbk, hrun2⟩, by dsimp only; omega⟩ (.as rfl (by first | rfl | (simp; done) | (congr 1; simp; done) | (congr 1; omega)) (.as rfl (by first | rfl | (simp; done) | (congr 1; simp; done) | (congr 1; omega)) (.as rfl (by first | rfl | (simp; done) | (congr 1; simp; done) | (congr 1; omega)) .nil))) (.cons rfl (.cons rfl (.cons rfl (.cons rfl .nil)))) (.cons rfl (.cons rfl .nil)) (.cons rfl (.cons rfl (.cons rfl (.cons rfl .nil))))
    ·
      have hend : x.j = (keysO l).length := by omega
      have hal := hA.all hend
      refine W.exit ?_
      refine N.then_exit ?_
      refine N.then_exit ?_
      refine N.block_eq ?_
      refine N.next ?_
      refine W.keep (.cons (k := 0) rfl (.cons (k := 4) rfl (.cons (k := 5) rfl (.cons (k := 6) rfl .nil)))) (.cons (k := 0) rfl (.cons (k := 1) rfl (.cons (k := 140) rfl (.cons (k := 150) rfl (.cons (k := 180) rfl (.cons (k := 190) rfl .nil)))))) ?_
      refine W.seq ?_
      refine W.seq ?_
      refine W.region ?_
      refine RL.q (Yld.move rfl) rfl ?_
      refine RL.q (Yld.move rfl) rfl ?_
      refine RL.q (Yld.bin rfl rfl BinV.eql) rfl ?_
      refine RL.q (Yld.bin rfl rfl (BinV.neqB Try.underlying4)) rfl ?_
      refine RL.nil ?_
      refine N.next ?_
      refine W.keep (.cons (k := 0) rfl (.cons (k := 5) rfl (.cons (k := 6) rfl (.cons (k := 93) rfl .nil)))) (.cons (k := 0) rfl (.cons (k := 1) rfl (.cons (k := 140) rfl (.cons (k := 150) rfl (.cons (k := 180) rfl (.cons (k := 190) rfl .nil)))))) ?_
      refine W.cond rfl (fun hc93 => ?_) (fun hc93 => ?_)
      ·
        exfalso
        have hce := hC1.code
        unfold chk at hce
        rw [if_pos (@decide_eq_true _ (Classical.propDecidable _) hv)] at hce
        by_cases ha : AllLive l
        · rw [if_pos (allLiveB_iff.2 ha)] at hce
          rw [hal.2 ha, hce] at hc93
          simp at hc93
        · rw [if_neg (fun e => ha (allLiveB_iff.1 e))] at hce
          have hb : x.b = false := by
            cases hb : x.b with
            | false => rfl
            | true => exact absurd (hal.1 hb) ha
          rw [hb, hce] at hc93
          simp at hc93
      ·
        refine W.skip ?_
        refine N.next ?_
        refine W.seq ?_
        refine W.seq ?_
        refine W.region ?_
        refine RL.q (Yld.move rfl) rfl ?_
        refine RL.q (by first | exact Yld.notD rfl | exact Yld.not rfl) rfl ?_
        refine RL.nil ?_
        refine N.next ?_
        refine W.cond rfl (fun hc95 => ?_) (fun hc95 => ?_)
        ·
          refine W.seq ?_
          refine W.region ?_
          refine RL.e (Eff.call ent9 [] [] .nil awake57_ct rfl rfl rfl rfl (by rintro _ _ ⟨_, rfl⟩; rfl)) rfl ?_
          rintro _ _ ⟨_, ⟨rfl, rfl⟩, rfl⟩
          refine RL.q (Yld.assign rfl) rfl ?_
          refine RL.nil ?_
          refine N.next ?_
          refine W.keep (.cons (k := 2) rfl .nil) (.cons (k := 0) rfl (.cons (k := 1) rfl (.cons (k := 140) rfl (.cons (k := 150) rfl (.cons (k := 180) rfl (.cons (k := 190) rfl .nil)))))) ?_
          refine W.ret ?_
          refine N.then_ret ?_
          exact N.retBy [1] (.cons (.tmp rfl) .nil) rfl rfl rfl rfl ⟨rfl, rfl⟩
        ·
          have hbt : x.b = true := by simpa using hc95
          have hR : GR l x.gs := GR.of (by omega) (hrun hbt)
          refine W.skip ?_
          refine N.next ?_
          refine W.keep (.cons (k := 0) rfl (.cons (k := 6) rfl .nil)) (.cons (k := 0) rfl (.cons (k := 1) rfl (.cons (k := 140) rfl (.cons (k := 150) rfl (.cons (k := 180) rfl (.cons (k := 190) rfl .nil)))))) ?_
          refine W.seq ?_
          refine W.region ?_
          refine RL.q (Yld.move rfl) rfl ?_
          refine RL.q (Yld.move rfl) rfl ?_
          refine RL.e (Eff.call ent16 [1, 150, 190] [1, 150, 190, 181] (.cons rfl (.cons rfl .nil)) (merge_ct l hv (by omega) x.gs hR x.ss hss H1 p c hS x.Ho x.HC x.po x.co hOo.sl hSs) rfl rfl rfl rfl (by rintro _ _ ⟨_, _, _, _, _, _, _, rfl⟩; rfl)) rfl ?_
          rintro _ _ ⟨_, ⟨out, Hm, pm, cm, rfl, hOm, hver, rfl⟩, rfl⟩
          refine RL.q (Yld.move rfl) rfl ?_
          refine RL.q (Yld.extract rfl rfl) rfl ?_
          refine RL.q (Yld.extract rfl rfl) rfl ?_
          refine RL.q (Yld.assign rfl) rfl ?_
          refine RL.q (Yld.assign rfl) rfl ?_
          refine RL.nil ?_
          refine N.next ?_
          refine W.keep (.cons (k := 0) rfl (.cons (k := 17) rfl (.cons (k := 18) rfl .nil))) (.cons (k := 0) rfl (.cons (k := 1) rfl (.cons (k := 140) rfl (.cons (k := 150) rfl (.cons (k := 180) rfl (.cons (k := 181) rfl (.cons (k := 190) rfl .nil))))))) ?_
          refine W.seq ?_
          refine W.region ?_
          refine RL.q (Yld.move rfl) rfl ?_
          refine RL.q (Yld.bin rfl rfl BinV.eql) rfl ?_
          refine RL.q (Yld.move rfl) rfl ?_
          first | refine RL.as (t := 105) rfl (boolT (by first | assumption | omega | (simp; done))) ?_ | refine RL.as (t := 105) (v := .bool true) rfl rfl ?_
          refine RL.gq rfl rfl (Yld.move rfl) rfl ?_
          refine RL.gq rfl rfl (Yld.move rfl) rfl ?_
          refine RL.ge rfl rfl (Eff.call ent12 [1, 181] [1, 181] (.cons rfl (.cons rfl .nil)) (rverifyT_ct l (by omega) H1 p c hS (zsN out) _ _ _ hOm.sl hver) rfl rfl rfl rfl (by rintro _ _ ⟨_, rfl⟩; rfl)) rfl ?_
          rintro _ _ ⟨_, ⟨rfl, rfl⟩, rfl⟩
          refine RL.q (by first | exact Yld.pickT rfl rfl | exact Yld.pickF rfl rfl) rfl ?_
          refine RL.q (Yld.move rfl) rfl ?_
          first | refine RL.as (t := 110) rfl (boolT (by first | assumption | omega | (simp; done))) ?_ | refine RL.as (t := 110) (v := .bool true) rfl rfl ?_
          refine RL.ge rfl rfl (Eff.call ent9 [] [] .nil awake57_ct rfl rfl rfl rfl (by rintro _ _ ⟨_, rfl⟩; rfl)) rfl ?_
          rintro _ _ ⟨_, ⟨rfl, rfl⟩, rfl⟩
          refine RL.q (by first | exact Yld.pickT rfl rfl | exact Yld.pickF rfl rfl) rfl ?_
          refine RL.q (Yld.assign rfl) rfl ?_
          refine RL.nil ?_
          refine N.next ?_
          refine W.keep (.cons (k := 2) rfl .nil) (.cons (k := 0) rfl (.cons (k := 1) rfl (.cons (k := 140) rfl (.cons (k := 150) rfl (.cons (k := 180) rfl (.cons (k := 181) rfl (.cons (k := 190) rfl .nil))))))) ?_
          refine W.ret ?_
          exact N.retBy [1] (.cons (.tmp rfl) .nil) rfl rfl rfl rfl ⟨rfl, rfl⟩

end Go.Proofs.Ytbgppnkccbhbpaa
