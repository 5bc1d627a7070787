/- Check. Written by program (walk.py). -/
import Derived.Test.YtbgppnkccbhbpaaL8
namespace Go.Proofs.Ytbgppnkccbhbpaa
open SL HistLaw Cfg
set_option linter.unusedVariables false
set_option linter.unusedSimpArgs false
theorem ent27 : Ent Try.prog 27 := ⟨_, _, Try.func27, by kernel_rfl, rfl⟩
theorem ent30 : Ent Try.prog 30 := ⟨_, _, Try.func30, by kernel_rfl, rfl⟩
theorem ent14 : Ent Try.prog 14 := ⟨_, _, Try.func14, by kernel_rfl, rfl⟩
theorem ent16 : Ent Try.prog 16 := ⟨_, _, Try.func16, by kernel_rfl, rfl⟩
theorem HistLaw.keys1 (k : Ky) (l : List O) : (keysO (byKey k l)).length ≤ 1 := by
  have h : ∀ z ∈ keysO (byKey k l), z = k := fun z hz => by
    obtain ⟨a, ha, rfl⟩ := List.mem_map.1 (((keysK_is _).mem z).1 hz)
    simpa using (List.mem_filter.1 ha).2
  exact nodup_len (l := [k]) (keysO_nodup _) fun z hz => by rw [h z hz]; simp
/-- an order where the first i indices are turned -/
def HistLaw.mixG (k : Ky) (l : List O) (r : List Nat) (i : Nat) : List Nat := (gOf k l r).take i ++ r.drop i
theorem HistLaw.gOf_len (k : Ky) (l : List O) (r : List Nat) : (gOf k l r).length = r.length := by simp [gOf]
theorem HistLaw.mixG_len (k : Ky) (l : List O) (r : List Nat) (i : Nat) : (mixG k l r i).length = r.length := by simp [mixG, gOf_len]; omega
theorem HistLaw.mixG_get {k : Ky} {l : List O} {r : List Nat} {i : Nat} (h : i < r.length) : (mixG k l r i)[i]? = r[i]? := by
  unfold mixG
  rw [List.getElem?_append_right (by simp; omega), List.getElem?_drop]
  congr 1
  simp [gOf_len]; omega
theorem HistLaw.mixG_set {k : Ky} {l : List O} {r : List Nat} {i j : Nat} (h : r[i]? = some j) : (mixG k l r i).set i ((ix k l).getD j 0) = mixG k l r (i + 1) := by
  have hlt := (List.getElem?_eq_some_iff.1 h).1
  unfold mixG
  have h1 : ((gOf k l r).take i).length = i := by simp [gOf_len]; omega
  rw [List.set_append_right _ _ (by omega), h1, Nat.sub_self, List.drop_eq_getElem_cons hlt, List.set_cons_zero, List.take_add_one]
  have h2 : (gOf k l r)[i]? = some ((ix k l).getD j 0) := by unfold gOf; rw [List.getElem?_map, h]; rfl
  rw [h2]
  simp
theorem HistLaw.mixG_end (k : Ky) (l : List O) (r : List Nat) : mixG k l r r.length = gOf k l r := by
  unfold mixG
  rw [List.drop_length, List.append_nil, List.take_of_length_le (by rw [gOf_len]; exact Nat.le_refl _)]
theorem HistLaw.zsN_get {r : List Nat} {i j : Nat} (h : r[i]? = some j) : (zsN r)[i]? = some (j : Int) := by simp [zsN, h]
theorem HistLaw.zsN_set (r : List Nat) (i j : Nat) : zsN (r.set i j) = (zsN r).set i (j : Int) := by simp [zsN, List.map_set]
structure HistLaw.CH where
  j : Nat
  ss : List (Option Addr × Nat × List Int)
  gs : List (List Nat)
  Ho : PH
  po : Option Addr
  co : Nat
  HC : PH
structure HistLaw.CJ where
  i : Nat
  H : PH
def HistLaw.CheckP (l : List O) (q : Option Addr) (n c : Nat) (e : Int) (H : PH) : Prop :=
  (¬ Valid l → q = none ∧ n = 0 ∧ c = 0 ∧ e = 1) ∧ (Valid l → AllLive l → e = 0 ∧ ∃ out, n = (zsN out).length ∧ Own H q c 3 1 (iz (zsN out)) ∧ VerOK l (zsN out)) ∧ (Valid l → ¬ AllLive l → q = none ∧ n = 0 ∧ c = 0 ∧ e = 13)

set_option maxRecDepth 100000 in
set_option maxHeartbeats 6400000 in
theorem check_ct (l : List O) (hl60 : l.length ≤ 60) (H1 : PH) (p : Option Addr) (c : Nat) (hS : Sl H1 p c 12 (l.map O.c)) : Ct Try.prog 10 [.slice p (l.map O.c).length c] [H1] (fun v Hs => ∃ q n c' e H', v = .tuple #[.slice q n c', .int .i64 e] ∧ CheckP l q n c' e H' ∧ Hs = [H1, H']) := by
  refine Ct.body Try.func10 rfl Try.ntmps10 rfl ?_
  intro E F
  have hmax := hS.len_le
  simp only [maxLen] at hmax
  have hll : (l.map O.c).length = l.length := by simp
  have hkl := keysO_len l
  refine W.seq ?_
  refine W.region ?_
  refine RL.e (Eff.box 101 _ rfl rfl) rfl ?_
  rintro _ _ ⟨b1, rfl, rfl⟩
  refine RL.q (Yld.assign rfl) rfl ?_
  refine RL.q (Yld.assign rfl) rfl ?_
  refine RL.nil ?_
  refine N.next ?_
  refine W.seq ?_
  refine W.seq ?_
  refine W.imp (Imp.empty _ 150) ?_
  refine W.imp (Imp.empty _ 160) ?_
  refine W.imp (Imp.empty _ 180) ?_
  refine W.region ?_
  refine RL.q (Yld.load1 (c := 101) Try.underlying22 rfl rfl rfl (by first | exact single_self _ _ | exact pset_self _ _ _ | assumption) rfl) rfl ?_
  refine RL.e (Eff.call ent25 [1] [1] (.cons rfl .nil) (hvalidB_ct l H1 p c hS) rfl rfl rfl rfl (by rintro _ _ ⟨_, rfl⟩; rfl)) rfl ?_
  rintro _ _ ⟨_, ⟨rfl, rfl⟩, rfl⟩
  refine RL.q (by first | exact Yld.notD rfl | exact Yld.not rfl) rfl ?_
  refine RL.nil ?_
  refine N.next ?_
  refine W.keep (.cons (k := 1) rfl (.cons (k := 14) rfl .nil)) (.cons (k := 0) rfl (.cons (k := 1) rfl (.cons (k := 101) rfl (.cons (k := 150) rfl (.cons (k := 160) rfl (.cons (k := 180) rfl .nil)))))) ?_
  refine W.cond rfl (fun hc14 => ?_) (fun hc14 => ?_)
  ·
    have hnv : ¬ Valid l := fun h => by rw [validB_iff.2 h] at hc14; cases hc14
    refine W.seq ?_
    refine W.region ?_
    refine RL.q (Yld.assign rfl) rfl ?_
    refine RL.q (Yld.assign rfl) rfl ?_
    refine RL.nil ?_
    refine N.next ?_
    refine W.ret ?_
    refine N.then_ret ?_
    exact N.retBy [1, 180] (.cons (.tmp rfl) (.cons (.tmp rfl) .nil)) rfl rfl rfl rfl ⟨none, 0, 0, 1, emp, rfl, ⟨fun _ => ⟨rfl, rfl, rfl, rfl⟩, fun h => absurd h hnv, fun h => absurd h hnv⟩, rfl⟩
  ·
    have hv : Valid l := validB_iff.1 (by simpa using hc14)
    refine W.skip ?_
    refine N.next ?_
    refine W.seq ?_
    refine W.region ?_
    refine RL.q (Yld.load1 (c := 101) Try.underlying22 rfl rfl rfl (by first | exact single_self _ _ | exact pset_self _ _ _ | assumption) rfl) rfl ?_
    refine RL.e (Eff.call ent26 [1] [1, 140] (.cons rfl .nil) (keys_ct l (by omega) _ _ _ hS) rfl rfl rfl rfl (by rintro _ _ ⟨_, _, _, _, _, rfl⟩; rfl)) rfl ?_
    rintro _ _ ⟨_, ⟨Hk, pk, ck0, rfl, hOk, rfl⟩, rfl⟩
    refine RL.q (Yld.assign rfl) rfl ?_
    refine RL.nil ?_
    refine N.next ?_
    refine W.seq ?_
    refine W.seq ?_
    refine W.region ?_
    refine RL.q (Yld.move rfl) rfl ?_
    refine RL.q (Yld.makeFunc eval0 (eval1 rfl)) rfl ?_
    refine RL.e (Eff.call ent27 [140, 101, 1] [140, 101, 1] (.cons rfl (.cons rfl .nil)) (containsS_ct (keysO l) _ _ _ hOk.sl 28 [.pointer (some ⟨b1, 0, none⟩)] _ _ ent28 (fun k hk => checkC_ct l hl60 H1 p c hS b1 k)) rfl rfl rfl rfl (by rintro _ _ ⟨_, rfl⟩; rfl)) rfl ?_
    rintro _ _ ⟨_, ⟨rfl, rfl⟩, rfl⟩
    refine RL.nil ?_
    refine N.next ?_
    refine W.keep (.cons (k := 1) rfl (.cons (k := 4) rfl (.cons (k := 19) rfl .nil))) (.cons (k := 0) rfl (.cons (k := 1) rfl (.cons (k := 101) rfl (.cons (k := 140) rfl (.cons (k := 150) rfl (.cons (k := 160) rfl (.cons (k := 180) rfl .nil))))))) ?_
    first | (refine W.as (t := 19) rfl (boolF (by first | assumption | omega | (simp; done))) ?_; refine W.condF rfl ?_) | refine W.condF rfl ?_
    refine W.skip ?_
    refine N.next ?_
    refine W.seq ?_
    refine W.region ?_
    refine RL.q (Yld.assign rfl) rfl ?_
    refine RL.nil ?_
    refine N.next ?_
    refine W.seq ?_
    refine W.seq ?_
    refine W.region ?_
    refine RL.q (Yld.move rfl) rfl ?_
    refine RL.q (Yld.lenSl Try.underlying32 rfl) rfl ?_
    refine RL.q (Yld.move rfl) rfl ?_
    refine RL.nil ?_
    refine N.next ?_
    refine W.block ?_
    refine W.loopK (ι := CH) (fun x => (x.j ≤ (keysO l).length ∧ Own x.Ho x.po x.co 25 1 (x.ss.map SV) ∧ x.ss.map (·.2.2) = x.gs.map zsN ∧ x.gs.length = x.j ∧ (∀ s ∈ x.ss, Sl x.HC s.1 s.2.1 1 (iz s.2.2)) ∧ (∀ (n : Nat) k g, (keysO l)[n]? = some k → x.gs[n]? = some g → ∃ r, Run (byKey k l) 0 (false, 0) r ∧ g = gOf k l r))) (fun x => [(5, .slice x.po x.ss.length x.co), (22, .int .i64 (x.j : Nat))]) (fun x => [(150, x.Ho), (160, x.HC)]) (fun x => (keysO l).length - x.j) (.cons (k := 1) rfl (.cons (k := 20) rfl (.cons (k := 21) rfl .nil))) (.cons (k := 0) rfl (.cons (k := 1) rfl (.cons (k := 101) rfl (.cons (k := 140) rfl (.cons (k := 180) rfl .nil))))) ⟨0, [], [], emp, none, 0, emp⟩ ?_ ?_ ?_ ?_
    · exact ⟨Nat.zero_le _, Own.nil _ _, rfl, rfl, (fun s h => nomatch h), (fun n k g h1 h2 => by simp at h2)⟩
    · exact (.as rfl (by first | rfl | (simp; done) | (congr 1; simp; done) | (congr 1; omega)) (.as rfl (by first | rfl | (simp; done) | (congr 1; simp; done) | (congr 1; omega)) .nil))
    · exact (.cons rfl (.cons rfl .nil))
    rintro x ⟨hj, hOo, hss, hgl, hSs, hrun⟩
    refine W.keep (.cons (k := 5) rfl (.cons (k := 22) rfl (.cons (k := 1) rfl (.cons (k := 20) rfl (.cons (k := 21) rfl .nil))))) (.cons (k := 150) rfl (.cons (k := 160) rfl (.cons (k := 0) rfl (.cons (k := 1) rfl (.cons (k := 101) rfl (.cons (k := 140) rfl (.cons (k := 180) rfl .nil))))))) ?_
    refine W.seq ?_
    refine W.region ?_
    refine RL.q (Yld.bin rfl rfl BinV.lss) rfl ?_
    refine RL.nil ?_
    refine N.next ?_
    refine W.seq ?_
    first | refine W.condD rfl (fun hc23 => ?_) (fun hc23 => ?_) | (refine W.cond rfl (fun hc23 => ?_) (fun hc23 => ?_) <;> try simp only [Bool.or_eq_true, Bool.and_eq_true, Bool.not_eq_true', Bool.not_eq_false', decide_eq_true_eq, Bool.or_eq_false_iff, Bool.and_eq_false_iff, decide_eq_false_iff_not, beq_iff_eq, beq_eq_false_iff_ne, ne_eq, Decidable.not_not] at hc23)
    ·
      obtain ⟨k, hk, hlk⟩ := kz_at (show x.j < (keysO l).length by omega)
      have hbl := byKey_len k l
      have hxl := ix_len k l
      have hco := hOo.sl.len_le
      simp only [List.length_map, maxLen] at hco
      have hssl : x.ss.length = x.gs.length := by have := congrArg List.length hss; simpa using this
      refine W.skip ?_
      refine N.next ?_
      refine W.seq ?_
      refine W.block ?_
      refine W.seq ?_
      refine W.region ?_
      refine RL.q (Yld.indexRow Try.underlying32 sz9 rfl rfl (by first | assumption | exact Own.sl (by assumption)) (by first | rfl | omega | (simp; done) | (simp; omega)) (by omega) (by first | omega | (simp; done) | (simp; omega))) rfl ?_
      refine RL.q (by first | exact (by first | exact Yld.loadRow1 (cl := 1) Try.underlying9 rfl rfl rfl (by first | assumption | exact Own.sl (by assumption)) (by assumption) | exact Yld.loadRow1 (cl := 101) Try.underlying9 rfl rfl rfl (by first | assumption | exact Own.sl (by assumption)) (by assumption) | exact Yld.loadRow1 (cl := 140) Try.underlying9 rfl rfl rfl (by first | assumption | exact Own.sl (by assumption)) (by assumption) | exact Yld.loadRow1 (cl := 180) Try.underlying9 rfl rfl rfl (by first | assumption | exact Own.sl (by assumption)) (by assumption) | exact Yld.loadRow1 (cl := 150) Try.underlying9 rfl rfl rfl (by first | assumption | exact Own.sl (by assumption)) (by assumption) | exact Yld.loadRow1 (cl := 160) Try.underlying9 rfl rfl rfl (by first | assumption | exact Own.sl (by assumption)) (by assumption)) | exact (by first | exact Yld.loadRowF (cl := 1) (j := 0) Try.underlying9 rfl rfl rfl (by first | assumption | exact Own.sl (by assumption)) (by assumption) rfl | exact Yld.loadRowF (cl := 101) (j := 0) Try.underlying9 rfl rfl rfl (by first | assumption | exact Own.sl (by assumption)) (by assumption) rfl | exact Yld.loadRowF (cl := 140) (j := 0) Try.underlying9 rfl rfl rfl (by first | assumption | exact Own.sl (by assumption)) (by assumption) rfl | exact Yld.loadRowF (cl := 180) (j := 0) Try.underlying9 rfl rfl rfl (by first | assumption | exact Own.sl (by assumption)) (by assumption) rfl | exact Yld.loadRowF (cl := 150) (j := 0) Try.underlying9 rfl rfl rfl (by first | assumption | exact Own.sl (by assumption)) (by assumption) rfl | exact Yld.loadRowF (cl := 160) (j := 0) Try.underlying9 rfl rfl rfl (by first | assumption | exact Own.sl (by assumption)) (by assumption) rfl)) rfl ?_
      refine RL.q (Yld.assign rfl) rfl ?_
      refine RL.nil ?_
      refine N.next ?_
      refine W.seq ?_
      refine W.region ?_
      refine RL.q (Yld.load1 (c := 101) Try.underlying22 rfl rfl rfl (by first | exact single_self _ _ | exact pset_self _ _ _ | assumption) rfl) rfl ?_
      refine RL.q (Yld.move rfl) rfl ?_
      refine RL.e (Eff.call ent29 [1] [1, 170] (.cons rfl (.cons rfl .nil)) (indices_ct l (by omega) _ _ _ hS k) rfl rfl rfl rfl (by rintro _ _ ⟨_, _, _, _, _, rfl⟩; rfl)) rfl ?_
      rintro _ _ ⟨_, ⟨Hi, pi, ci, rfl, hOi, rfl⟩, rfl⟩
      refine RL.q (Yld.assign rfl) rfl ?_
      refine RL.nil ?_
      refine N.next ?_
      refine W.keep (.cons (k := 1) rfl (.cons (k := 5) rfl (.cons (k := 7) rfl (.cons (k := 8) rfl (.cons (k := 20) rfl (.cons (k := 21) rfl (.cons (k := 22) rfl .nil))))))) (.cons (k := 0) rfl (.cons (k := 1) rfl (.cons (k := 101) rfl (.cons (k := 140) rfl (.cons (k := 150) rfl (.cons (k := 160) rfl (.cons (k := 170) rfl (.cons (k := 180) rfl .nil)))))))) ?_
      refine W.seq ?_
      refine W.region ?_
      refine RL.q (Yld.load1 (c := 101) Try.underlying22 rfl rfl rfl (by first | exact single_self _ _ | exact pset_self _ _ _ | assumption) rfl) rfl ?_
      refine RL.q (Yld.move rfl) rfl ?_
      refine RL.e (Eff.call ent30 [1] [1, 171] (.cons rfl (.cons rfl .nil)) (byKey_ct l (by omega) _ _ _ hS k) rfl rfl rfl rfl (by rintro _ _ ⟨_, _, _, _, _, rfl⟩; rfl)) rfl ?_
      rintro _ _ ⟨_, ⟨Hb, pb, cb, rfl, hOb, rfl⟩, rfl⟩
      refine RL.e (Eff.call ent14 [171] [171, 172] (.cons rfl .nil) (key_ct (byKey k l) (hv.byKey k) (by omega) (keys1 k l) _ _ _ hOb.sl) rfl rfl rfl rfl (by rintro _ _ ⟨_, _, _, _, _, _, _, _, rfl⟩; rfl)) rfl ?_
      rintro _ _ ⟨_, ⟨bK, pq, cq, r, Hq, rfl, hK1, hK0, rfl⟩, rfl⟩
      refine RL.q (Yld.move rfl) rfl ?_
      refine RL.q (Yld.extract rfl rfl) rfl ?_
      refine RL.q (Yld.extract rfl rfl) rfl ?_
      refine RL.q (Yld.assign rfl) rfl ?_
      refine RL.q (Yld.assign rfl) rfl ?_
      refine RL.nil ?_
      refine N.next ?_
      refine W.keep (.cons (k := 1) rfl (.cons (k := 5) rfl (.cons (k := 8) rfl (.cons (k := 9) rfl (.cons (k := 10) rfl (.cons (k := 20) rfl (.cons (k := 21) rfl (.cons (k := 22) rfl .nil)))))))) (.cons (k := 0) rfl (.cons (k := 1) rfl (.cons (k := 101) rfl (.cons (k := 140) rfl (.cons (k := 150) rfl (.cons (k := 160) rfl (.cons (k := 170) rfl (.cons (k := 171) rfl (.cons (k := 172) rfl (.cons (k := 180) rfl .nil)))))))))) ?_
      refine W.seq ?_
      refine W.seq ?_
      refine W.region ?_
      refine RL.q (Yld.move rfl) rfl ?_
      refine RL.q (by first | exact Yld.notD rfl | exact Yld.not rfl) rfl ?_
      refine RL.nil ?_
      refine N.next ?_
      refine W.cond rfl (fun hc37 => ?_) (fun hc37 => ?_)
      ·
        have hnl : ¬ AllLive l := fun h => (hK0 (by simpa using hc37)).2.2.2 (h k (List.mem_of_getElem? hk))
        refine W.seq ?_
        refine W.region ?_
        refine RL.q (Yld.assign rfl) rfl ?_
        refine RL.q (Yld.assign rfl) rfl ?_
        refine RL.nil ?_
        refine N.next ?_
        refine W.keep (.cons (k := 2) rfl (.cons (k := 3) rfl .nil)) (.cons (k := 0) rfl (.cons (k := 1) rfl (.cons (k := 101) rfl (.cons (k := 140) rfl (.cons (k := 150) rfl (.cons (k := 160) rfl (.cons (k := 170) rfl (.cons (k := 171) rfl (.cons (k := 172) rfl (.cons (k := 180) rfl .nil)))))))))) ?_
        refine W.ret ?_
        refine N.then_ret ?_
        refine N.block_ret ?_
        refine N.then_ret ?_
        refine N.then_ret ?_
        refine N.block_ret ?_
        refine N.then_ret ?_
        exact N.retBy [1, 180] (.cons (.tmp rfl) (.cons (.tmp rfl) .nil)) rfl rfl rfl rfl ⟨none, 0, 0, 13, emp, rfl, ⟨fun h => absurd hv h, fun _ h => absurd h hnl, fun _ _ => ⟨rfl, rfl, rfl, rfl⟩⟩, rfl⟩
      ·
        obtain ⟨hOq, hrn⟩ := hK1 (by simpa using hc37)
        have hcq := hOq.sl.len_le
        simp only [iz_len, zs_len, maxLen] at hcq
        refine W.skip ?_
        refine N.next ?_
        refine W.seq ?_
        refine W.seq ?_
        refine W.region ?_
        refine RL.q (Yld.move rfl) rfl ?_
        refine RL.q (Yld.lenSl Try.underlying25 rfl) rfl ?_
        refine RL.q (Yld.move rfl) rfl ?_
        refine RL.nil ?_
        refine N.next ?_
        refine W.keep (.cons (k := 1) rfl (.cons (k := 5) rfl (.cons (k := 8) rfl (.cons (k := 9) rfl (.cons (k := 20) rfl (.cons (k := 21) rfl (.cons (k := 22) rfl (.cons (k := 39) rfl (.cons (k := 40) rfl .nil))))))))) (.cons (k := 0) rfl (.cons (k := 1) rfl (.cons (k := 101) rfl (.cons (k := 140) rfl (.cons (k := 150) rfl (.cons (k := 160) rfl (.cons (k := 170) rfl (.cons (k := 171) rfl (.cons (k := 172) rfl (.cons (k := 180) rfl .nil)))))))))) ?_
        refine W.block ?_
        refine W.loopK (ι := CJ) (fun y => (y.i ≤ r.length ∧ Own y.H pq cq 3 1 (iz (zsN (mixG k l r y.i))))) (fun y => [(40, .int .i64 (y.i : Nat))]) (fun y => [(172, y.H)]) (fun y => r.length - y.i) (.cons (k := 1) rfl (.cons (k := 5) rfl (.cons (k := 8) rfl (.cons (k := 9) rfl (.cons (k := 20) rfl (.cons (k := 21) rfl (.cons (k := 22) rfl (.cons (k := 39) rfl .nil)))))))) (.cons (k := 0) rfl (.cons (k := 1) rfl (.cons (k := 101) rfl (.cons (k := 140) rfl (.cons (k := 150) rfl (.cons (k := 160) rfl (.cons (k := 170) rfl (.cons (k := 171) rfl (.cons (k := 180) rfl .nil))))))))) ⟨0, Hq⟩ ?_ ?_ ?_ ?_
        · exact ⟨Nat.zero_le _, by rw [show mixG k l r 0 = r by simp [mixG]]; exact hOq⟩
        · exact (.as rfl (by first | rfl | (simp; done) | (congr 1; simp; done) | (congr 1; omega)) .nil)
        · exact (.cons rfl .nil)
        rintro y ⟨hi, hOy⟩
        have hml := mixG_len k l r y.i
        refine W.keep (.cons (k := 40) rfl (.cons (k := 1) rfl (.cons (k := 5) rfl (.cons (k := 8) rfl (.cons (k := 9) rfl (.cons (k := 20) rfl (.cons (k := 21) rfl (.cons (k := 22) rfl (.cons (k := 39) rfl .nil))))))))) (.cons (k := 172) rfl (.cons (k := 0) rfl (.cons (k := 1) rfl (.cons (k := 101) rfl (.cons (k := 140) rfl (.cons (k := 150) rfl (.cons (k := 160) rfl (.cons (k := 170) rfl (.cons (k := 171) rfl (.cons (k := 180) rfl .nil)))))))))) ?_
        refine W.seq ?_
        refine W.region ?_
        refine RL.q (Yld.bin rfl rfl BinV.lss) rfl ?_
        refine RL.nil ?_
        refine N.next ?_
        refine W.seq ?_
        first | refine W.condD rfl (fun hc41 => ?_) (fun hc41 => ?_) | (refine W.cond rfl (fun hc41 => ?_) (fun hc41 => ?_) <;> try simp only [Bool.or_eq_true, Bool.and_eq_true, Bool.not_eq_true', Bool.not_eq_false', decide_eq_true_eq, Bool.or_eq_false_iff, Bool.and_eq_false_iff, decide_eq_false_iff_not, beq_iff_eq, beq_eq_false_iff_ne, ne_eq, Decidable.not_not] at hc41)
        ·
          have hyr : y.i < r.length := by simp only [zs_len] at *; omega
          have hq3 : (zs r).length = (iz (zsN (mixG k l r y.i))).length := by simp [mixG_len]
          have hq1 : y.i < (iz (zsN (mixG k l r y.i))).length := by simp [mixG_len]; exact hyr
          obtain ⟨j, hr⟩ : ∃ j, r[y.i]? = some j := ⟨_, List.getElem?_eq_getElem (show y.i < r.length by simp only [zs_len] at *; omega)⟩
          have hjl := hrn.lt j (List.mem_of_getElem? hr)
          have hq2 : j < (ix k l).length := by omega
          have hq5 : j < (idxs k l l.length).length := hq2
          have hq4 : (zsN (ix k l)).length = (iz (zsN (ix k l))).length := by simp
          have hl1 : (iz (zsN (mixG k l r y.i)))[y.i]? = some [.int .i64 (j : Int)] := iz_get (zsN_get (by rw [mixG_get (by simp only [zs_len] at *; omega)]; exact hr))
          have hl2 : (iz (zsN (ix k l)))[j]? = some [.int .i64 (((ix k l).getD j 0 : Nat) : Int)] := iz_get (zsN_get (by rw [List.getD_eq_getElem?_getD, List.getElem?_eq_getElem (show j < (ix k l).length by omega)]; rfl))
          refine W.skip ?_
          refine N.next ?_
          refine W.seq ?_
          refine W.block ?_
          refine W.seq ?_
          refine W.region ?_
          refine RL.q (Yld.move rfl) rfl ?_
          refine RL.q (Yld.assign rfl) rfl ?_
          refine RL.nil ?_
          refine N.next ?_
          refine W.region ?_
          refine RL.q (Yld.move rfl) rfl ?_
          refine RL.q (Yld.move rfl) rfl ?_
          refine RL.q (Yld.move rfl) rfl ?_
          refine RL.q (Yld.move rfl) rfl ?_
          refine RL.q (Yld.move rfl) rfl ?_
          refine RL.q (Yld.indexRow Try.underlying25 sz3 rfl rfl (by first | assumption | exact Own.sl (by assumption)) (by first | rfl | omega | (simp; done) | (simp; omega)) (by omega) (by first | omega | (simp; done) | (simp; omega))) rfl ?_
          refine RL.q (by first | exact (by first | exact Yld.loadRow1 (cl := 1) Try.underlying3 rfl rfl rfl (by first | assumption | exact Own.sl (by assumption)) (by assumption) | exact Yld.loadRow1 (cl := 101) Try.underlying3 rfl rfl rfl (by first | assumption | exact Own.sl (by assumption)) (by assumption) | exact Yld.loadRow1 (cl := 140) Try.underlying3 rfl rfl rfl (by first | assumption | exact Own.sl (by assumption)) (by assumption) | exact Yld.loadRow1 (cl := 150) Try.underlying3 rfl rfl rfl (by first | assumption | exact Own.sl (by assumption)) (by assumption) | exact Yld.loadRow1 (cl := 160) Try.underlying3 rfl rfl rfl (by first | assumption | exact Own.sl (by assumption)) (by assumption) | exact Yld.loadRow1 (cl := 170) Try.underlying3 rfl rfl rfl (by first | assumption | exact Own.sl (by assumption)) (by assumption) | exact Yld.loadRow1 (cl := 171) Try.underlying3 rfl rfl rfl (by first | assumption | exact Own.sl (by assumption)) (by assumption) | exact Yld.loadRow1 (cl := 180) Try.underlying3 rfl rfl rfl (by first | assumption | exact Own.sl (by assumption)) (by assumption) | exact Yld.loadRow1 (cl := 172) Try.underlying3 rfl rfl rfl (by first | assumption | exact Own.sl (by assumption)) (by assumption)) | exact (by first | exact Yld.loadRowF (cl := 1) (j := 0) Try.underlying3 rfl rfl rfl (by first | assumption | exact Own.sl (by assumption)) (by assumption) rfl | exact Yld.loadRowF (cl := 101) (j := 0) Try.underlying3 rfl rfl rfl (by first | assumption | exact Own.sl (by assumption)) (by assumption) rfl | exact Yld.loadRowF (cl := 140) (j := 0) Try.underlying3 rfl rfl rfl (by first | assumption | exact Own.sl (by assumption)) (by assumption) rfl | exact Yld.loadRowF (cl := 150) (j := 0) Try.underlying3 rfl rfl rfl (by first | assumption | exact Own.sl (by assumption)) (by assumption) rfl | exact Yld.loadRowF (cl := 160) (j := 0) Try.underlying3 rfl rfl rfl (by first | assumption | exact Own.sl (by assumption)) (by assumption) rfl | exact Yld.loadRowF (cl := 170) (j := 0) Try.underlying3 rfl rfl rfl (by first | assumption | exact Own.sl (by assumption)) (by assumption) rfl | exact Yld.loadRowF (cl := 171) (j := 0) Try.underlying3 rfl rfl rfl (by first | assumption | exact Own.sl (by assumption)) (by assumption) rfl | exact Yld.loadRowF (cl := 180) (j := 0) Try.underlying3 rfl rfl rfl (by first | assumption | exact Own.sl (by assumption)) (by assumption) rfl | exact Yld.loadRowF (cl := 172) (j := 0) Try.underlying3 rfl rfl rfl (by first | assumption | exact Own.sl (by assumption)) (by assumption) rfl)) rfl ?_
          refine RL.q (Yld.indexRow Try.underlying25 sz3 rfl rfl (by first | assumption | exact Own.sl (by assumption)) (by first | rfl | omega | (simp; done) | (simp; omega)) (by omega) (by first | omega | (simp; done) | (simp; omega))) rfl ?_
          refine RL.q (by first | exact (by first | exact Yld.loadRow1 (cl := 1) Try.underlying3 rfl rfl rfl (by first | assumption | exact Own.sl (by assumption)) (by assumption) | exact Yld.loadRow1 (cl := 101) Try.underlying3 rfl rfl rfl (by first | assumption | exact Own.sl (by assumption)) (by assumption) | exact Yld.loadRow1 (cl := 140) Try.underlying3 rfl rfl rfl (by first | assumption | exact Own.sl (by assumption)) (by assumption) | exact Yld.loadRow1 (cl := 150) Try.underlying3 rfl rfl rfl (by first | assumption | exact Own.sl (by assumption)) (by assumption) | exact Yld.loadRow1 (cl := 160) Try.underlying3 rfl rfl rfl (by first | assumption | exact Own.sl (by assumption)) (by assumption) | exact Yld.loadRow1 (cl := 170) Try.underlying3 rfl rfl rfl (by first | assumption | exact Own.sl (by assumption)) (by assumption) | exact Yld.loadRow1 (cl := 171) Try.underlying3 rfl rfl rfl (by first | assumption | exact Own.sl (by assumption)) (by assumption) | exact Yld.loadRow1 (cl := 180) Try.underlying3 rfl rfl rfl (by first | assumption | exact Own.sl (by assumption)) (by assumption) | exact Yld.loadRow1 (cl := 172) Try.underlying3 rfl rfl rfl (by first | assumption | exact Own.sl (by assumption)) (by assumption)) | exact (by first | exact Yld.loadRowF (cl := 1) (j := 0) Try.underlying3 rfl rfl rfl (by first | assumption | exact Own.sl (by assumption)) (by assumption) rfl | exact Yld.loadRowF (cl := 101) (j := 0) Try.underlying3 rfl rfl rfl (by first | assumption | exact Own.sl (by assumption)) (by assumption) rfl | exact Yld.loadRowF (cl := 140) (j := 0) Try.underlying3 rfl rfl rfl (by first | assumption | exact Own.sl (by assumption)) (by assumption) rfl | exact Yld.loadRowF (cl := 150) (j := 0) Try.underlying3 rfl rfl rfl (by first | assumption | exact Own.sl (by assumption)) (by assumption) rfl | exact Yld.loadRowF (cl := 160) (j := 0) Try.underlying3 rfl rfl rfl (by first | assumption | exact Own.sl (by assumption)) (by assumption) rfl | exact Yld.loadRowF (cl := 170) (j := 0) Try.underlying3 rfl rfl rfl (by first | assumption | exact Own.sl (by assumption)) (by assumption) rfl | exact Yld.loadRowF (cl := 171) (j := 0) Try.underlying3 rfl rfl rfl (by first | assumption | exact Own.sl (by assumption)) (by assumption) rfl | exact Yld.loadRowF (cl := 180) (j := 0) Try.underlying3 rfl rfl rfl (by first | assumption | exact Own.sl (by assumption)) (by assumption) rfl | exact Yld.loadRowF (cl := 172) (j := 0) Try.underlying3 rfl rfl rfl (by first | assumption | exact Own.sl (by assumption)) (by assumption) rfl)) rfl ?_
          refine RL.q (Yld.indexRow Try.underlying25 sz3 rfl rfl (by first | assumption | exact Own.sl (by assumption)) (by first | rfl | omega | (simp; done) | (simp; omega)) (by omega) (by first | omega | (simp; done) | (simp; omega))) rfl ?_
          refine RL.e0 (Eff.storeRow (tc := 172) (j := 0) sz3 rfl rfl rfl hOy hl1 rfl rfl rfl rfl rfl) ?_
          rintro _ _ ⟨Hw, hOw, rfl⟩
          refine RL.nil ?_
          refine N.block_normal ?_
          refine N.next ?_
          refine W.keep (.cons (k := 1) rfl (.cons (k := 5) rfl (.cons (k := 8) rfl (.cons (k := 9) rfl (.cons (k := 20) rfl (.cons (k := 21) rfl (.cons (k := 22) rfl (.cons (k := 39) rfl (.cons (k := 40) rfl .nil))))))))) (.cons (k := 0) rfl (.cons (k := 1) rfl (.cons (k := 101) rfl (.cons (k := 140) rfl (.cons (k := 150) rfl (.cons (k := 160) rfl (.cons (k := 170) rfl (.cons (k := 171) rfl (.cons (k := 172) rfl (.cons (k := 180) rfl .nil)))))))))) ?_
          refine W.region ?_
          refine RL.q (Yld.bin rfl rfl (by first | exact BinV.add (by omega) (by omega) | exact BinV.addW)) rfl ?_
          refine RL.q (Yld.move rfl) rfl ?_
          refine RL.nil ?_
          exact N.famK ⟨y.i + 1, Hw⟩ ⟨⟨by dsimp only; omega, by dsimp only; rw [← mixG_set hr, zsN_set, iz_set]; exact hOw⟩, by dsimp only; omega⟩ (.as rfl (by first | rfl | (simp; done) | (congr 1; simp; done) | (congr 1; omega)) .nil) (.cons rfl (.cons rfl (.cons rfl (.cons rfl (.cons rfl (.cons rfl (.cons rfl (.cons rfl .nil)))))))) (.cons rfl .nil) (.cons rfl (.cons rfl (.cons rfl (.cons rfl (.cons rfl (.cons rfl (.cons rfl (.cons rfl (.cons rfl .nil)))))))))
        ·
          have hendy : y.i = r.length := by simp only [zs_len] at *; omega
          rw [hendy, mixG_end] at hOy
          have hSs2 : (∀ b o, y.H b = some o → hjoin x.HC y.H b = some o) → ∀ s ∈ x.ss ++ [(pq, cq, zsN (gOf k l r))], Sl (hjoin x.HC y.H) s.1 s.2.1 1 (iz s.2.2) := fun ha s hs => by
            rcases List.mem_append.1 hs with h | h
            · exact (hSs s h).mono hjoin_l
            · simp at h; subst h; exact hOy.sl.mono ha
          have hrun2 : ∀ (n : Nat) k2 g, (keysO l)[n]? = some k2 → (x.gs ++ [gOf k l r])[n]? = some g → ∃ r, Run (byKey k2 l) 0 (false, 0) r ∧ g = gOf k2 l r := fun n k2 g h1 h2 => by
            by_cases e : n < x.gs.length
            · rw [List.getElem?_append_left e] at h2; exact hrun n k2 g h1 h2
            · rw [List.getElem?_append_right (by omega)] at h2
              have e2 : n = x.j := by have := (List.getElem?_eq_some_iff.1 h2).1; simp at this; omega
              subst e2
              rw [hgl, Nat.sub_self] at h2
              rw [hk] at h1; cases h1; cases h2
              exact ⟨r, hrn, rfl⟩
          rw [show (zs r).length = (zsN (gOf k l r)).length by simp [gOf_len]]
          refine W.exit ?_
          refine N.then_exit ?_
          refine N.then_exit ?_
          refine N.block_eq ?_
          refine N.next ?_
          refine W.keep (.cons (k := 1) rfl (.cons (k := 5) rfl (.cons (k := 9) rfl (.cons (k := 20) rfl (.cons (k := 21) rfl (.cons (k := 22) rfl .nil)))))) (.cons (k := 0) rfl (.cons (k := 1) rfl (.cons (k := 101) rfl (.cons (k := 140) rfl (.cons (k := 150) rfl (.cons (k := 160) rfl (.cons (k := 170) rfl (.cons (k := 171) rfl (.cons (k := 172) rfl (.cons (k := 180) rfl .nil)))))))))) ?_
          refine W.region ?_
          refine RL.q (Yld.move rfl) rfl ?_
          refine RL.q (Yld.move rfl) rfl ?_
          refine RL.e (Eff.buildSlice 156 Try.underlying31 sz25 zc25 rfl rfl (.cons rfl rfl .nil) rfl) rfl ?_
          rintro _ _ ⟨b56, rfl, rfl⟩
          refine RL.e (Eff.appendE (tc := 150) (sc := 156) (ms := [(pq, cq, zsN (gOf k l r))]) SV Try.underlying31 el25 rfl rfl rfl rfl hOo rfl (Own.one (l := [Value.slice pq (zsN (gOf k l r)).length cq]) rfl (by simp [Value.oneCell']) rfl).sl rfl (by simp [SV, Value.oneCell']) (by decide) (by simp; omega) (by simp [maxLen]; omega)) rfl ?_
          rintro _ _ ⟨Ha, pa, ca, rfl, hOa, rfl⟩
          refine RL.q (Yld.assign rfl) rfl ?_
          refine RL.nil ?_
          refine N.block_normal ?_
          refine N.next ?_
          refine W.keep (.cons (k := 1) rfl (.cons (k := 5) rfl (.cons (k := 20) rfl (.cons (k := 21) rfl (.cons (k := 22) rfl .nil))))) (.cons (k := 0) rfl (.cons (k := 1) rfl (.cons (k := 101) rfl (.cons (k := 140) rfl (.cons (k := 150) rfl (.cons (k := 156) rfl (.cons (k := 160) rfl (.cons (k := 170) rfl (.cons (k := 171) rfl (.cons (k := 172) rfl (.cons (k := 180) rfl .nil))))))))))) ?_
          refine W.region ?_
          refine RL.q (Yld.bin rfl rfl (by first | exact BinV.add (by omega) (by omega) | exact BinV.addW)) rfl ?_
          refine RL.q (Yld.move rfl) rfl ?_
          refine RL.nil ?_
          refine N.merge 160 172 rfl rfl rfl fun ha1 => ?_
          exact N.famK ⟨x.j + 1, x.ss ++ [(pq, cq, zsN (gOf k l r))], x.gs ++ [gOf k l r], Ha, pa, ca, hjoin x.HC y.H⟩ ⟨⟨by dsimp only; omega, hOa, by dsimp only; rw [List.map_append, List.map_append, hss]; rfl, by dsimp only; rw [List.length_append]; simp only [List.length_cons, List.length_nil]; omega, hSs2 ha1, hrun2⟩, by dsimp only; omega⟩ (.as rfl (by first | rfl | (simp; done) | (congr 1; simp; done) | (congr 1; omega)) (.as rfl (by first | rfl | (simp; done) | (congr 1; simp; done) | (congr 1; omega)) .nil)) (.cons rfl (.cons rfl (.cons rfl .nil))) (.cons rfl (.cons rfl .nil)) (.cons rfl (.cons rfl (.cons rfl (.cons rfl (.cons rfl .nil)))))
    ·
      have hend : x.j = (keysO l).length := by omega
      have hR : GR l x.gs := GR.of (by omega) hrun
      have hal : AllLive l := fun k hk => by
        obtain ⟨n, hn⟩ := List.getElem?_of_mem hk
        obtain ⟨g, hg⟩ : ∃ g, x.gs[n]? = some g := ⟨_, List.getElem?_eq_getElem (by have := (List.getElem?_eq_some_iff.1 hn).1; omega)⟩
        obtain ⟨r, hr, _⟩ := hrun n k g hn hg
        exact ⟨r, hr⟩
      refine W.exit ?_
      refine N.then_exit ?_
      refine N.then_exit ?_
      refine N.block_eq ?_
      refine N.next ?_
      refine W.keep (.cons (k := 1) rfl (.cons (k := 5) rfl .nil)) (.cons (k := 0) rfl (.cons (k := 1) rfl (.cons (k := 101) rfl (.cons (k := 140) rfl (.cons (k := 150) rfl (.cons (k := 160) rfl (.cons (k := 180) rfl .nil))))))) ?_
      refine W.seq ?_
      refine W.region ?_
      refine RL.q (Yld.load1 (c := 101) Try.underlying22 rfl rfl rfl (by first | exact single_self _ _ | exact pset_self _ _ _ | assumption) rfl) rfl ?_
      refine RL.q (Yld.move rfl) rfl ?_
      refine RL.e (Eff.call ent16 [1, 150, 160] [1, 150, 160, 180] (.cons rfl (.cons rfl .nil)) (merge_ct l hv hl60 x.gs hR x.ss hss H1 p c hS x.Ho x.HC x.po x.co hOo.sl hSs) rfl rfl rfl rfl (by rintro _ _ ⟨_, _, _, _, _, _, _, rfl⟩; rfl)) rfl ?_
      rintro _ _ ⟨_, ⟨out, Hm, pm, cm, rfl, hOm, hver, rfl⟩, rfl⟩
      refine RL.q (Yld.extract rfl rfl) rfl ?_
      refine RL.q (Yld.extract rfl rfl) rfl ?_
      refine RL.q (Yld.assign rfl) rfl ?_
      refine RL.q (Yld.assign rfl) rfl ?_
      refine RL.nil ?_
      refine N.next ?_
      refine W.keep (.cons (k := 2) rfl (.cons (k := 3) rfl .nil)) (.cons (k := 0) rfl (.cons (k := 1) rfl (.cons (k := 101) rfl (.cons (k := 140) rfl (.cons (k := 150) rfl (.cons (k := 160) rfl (.cons (k := 180) rfl .nil))))))) ?_
      refine W.ret ?_
      exact N.retBy [1, 180] (.cons (.tmp rfl) (.cons (.tmp rfl) .nil)) rfl rfl rfl rfl ⟨pm, _, cm, 0, Hm, rfl, ⟨fun h => absurd hv h, fun _ _ => ⟨rfl, out, rfl, hOm, hver⟩, fun _ h => absurd hal h⟩, rfl⟩

end Go.Proofs.Ytbgppnkccbhbpaa
