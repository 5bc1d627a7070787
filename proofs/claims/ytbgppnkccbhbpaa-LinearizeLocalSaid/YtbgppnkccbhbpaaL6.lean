/- Parts of Merge and Check. Written by program (walk.py). -/
import Derived.Test.YtbgppnkccbhbpaaL5
import Derived.Test.YtbgppnkccbhbpaaLPurM
namespace Go.Proofs.Ytbgppnkccbhbpaa
open SL HistLaw Cfg
set_option linter.unusedVariables false
set_option linter.unusedSimpArgs false
theorem ent48 : Ent Try.prog 48 := ⟨_, _, Try.func48, by kernel_rfl, rfl⟩
theorem ent28 : Ent Try.prog 28 := ⟨_, _, Try.func28, by kernel_rfl, rfl⟩
theorem ent29 : Ent Try.prog 29 := ⟨_, _, Try.func29, by kernel_rfl, rfl⟩
theorem ent38 : Ent Try.prog 38 := ⟨_, _, Try.func38, by kernel_rfl, rfl⟩
theorem el25 : el Try.prog 25 1 24 := .mk (by kernel_rfl)
structure HistLaw.XI where
  i : Nat
  H : PH
  p : Option Addr
  c : Nat
structure HistLaw.WI where
  seen : Array Nat
  last : Nat
  done : List Int
theorem HistLaw.zsN_eq (r : List Nat) : zsN r = zs r := rfl
@[simp] theorem HistLaw.zsN_len (r : List Nat) : (zsN r).length = r.length := by simp [zsN]
theorem HistLaw.zsN_app (a b : List Nat) : zsN (a ++ b) = zsN a ++ zsN b := by simp [zsN]
def HistLaw.WMok (m : List (Int × Value)) (hs : List (List Nat)) : Prop := (∀ z v, mget m z = some v → v = .bool true) ∧ ∀ z, (mget m z).isSome = true ↔ ∃ w : Nat, z = (w : Int) ∧ Wt hs w
noncomputable def HistLaw.freeB (l : List O) (hs : List (List Nat)) (i : Nat) : Bool := @decide (FreeW l hs i) (Classical.propDecidable _)
theorem HistLaw.freeB_iff {l : List O} {hs : List (List Nat)} {i : Nat} : freeB l hs i = true ↔ FreeW l hs i := by unfold freeB; exact @decide_eq_true_iff _ (Classical.propDecidable _)
theorem HistLaw.freeB_not {l : List O} {hs : List (List Nat)} {i : Nat} (h : ¬ FreeW l hs i) : freeB l hs i = false := by unfold freeB; exact @decide_eq_false _ (Classical.propDecidable _) h

set_option maxRecDepth 100000 in
set_option maxHeartbeats 1600000 in
theorem indices_ct (l : List O) (hl6 : l.length ≤ 1000000) (H1 : PH) (p : Option Addr) (c : Nat) (hS : Sl H1 p c 12 (l.map O.c)) (k : Ky) : Ct Try.prog 29 [.slice p (l.map O.c).length c, .string k] [H1] (fun v Hs => ∃ H' p' c', v = .slice p' (zsN (idxs k l l.length)).length c' ∧ Own H' p' c' 3 1 (iz (zsN (idxs k l l.length))) ∧ Hs = [H1, H']) := by
  refine Ct.body Try.func29 rfl Try.ntmps29 rfl ?_
  intro E F
  have hmax := hS.len_le
  simp only [maxLen] at hmax
  have hll : (l.map O.c).length = l.length := by simp
  refine W.seq ?_
  refine W.region ?_
  refine RL.q (Yld.assign rfl) rfl ?_
  refine RL.nil ?_
  refine N.next ?_
  refine W.seq ?_
  refine W.region ?_
  refine RL.q (Yld.assign rfl) rfl ?_
  refine RL.nil ?_
  refine N.next ?_
  refine W.seq ?_
  refine W.seq ?_
  refine W.imp (Imp.empty _ 30) ?_
  refine W.region ?_
  refine RL.q (Yld.move rfl) rfl ?_
  refine RL.q (Yld.lenSl Try.underlying22 rfl) rfl ?_
  refine RL.q (Yld.move rfl) rfl ?_
  refine RL.nil ?_
  refine N.next ?_
  refine W.block ?_
  refine W.loopK (ι := XI) (fun x => (x.i ≤ l.length ∧ Own x.H x.p x.c 3 1 (iz (zsN (idxs k l x.i))))) (fun x => [(5, .slice x.p (zsN (idxs k l x.i)).length x.c), (10, .int .i64 (x.i : Nat))]) (fun x => [(30, x.H)]) (fun x => l.length - x.i) (.cons (k := 1) rfl (.cons (k := 8) rfl (.cons (k := 9) rfl .nil))) (.cons (k := 0) rfl (.cons (k := 1) rfl .nil)) ⟨0, emp, none, 0⟩ ?_ ?_ ?_ ?_
  · exact ⟨Nat.zero_le _, Own.nil _ _⟩
  · exact (.as rfl (by first | rfl | (simp; done) | (congr 1; simp; done) | (congr 1; omega)) (.as rfl (by first | rfl | (simp; done) | (congr 1; simp; done) | (congr 1; omega)) .nil))
  · exact (.cons rfl .nil)
  rintro x ⟨hi, hO⟩
  refine W.keep (.cons (k := 5) rfl (.cons (k := 10) rfl (.cons (k := 1) rfl (.cons (k := 8) rfl (.cons (k := 9) rfl .nil))))) (.cons (k := 30) rfl (.cons (k := 0) rfl (.cons (k := 1) rfl .nil))) ?_
  refine W.seq ?_
  refine W.region ?_
  refine RL.q (Yld.bin rfl rfl BinV.lss) rfl ?_
  refine RL.nil ?_
  refine N.next ?_
  refine W.seq ?_
  first | refine W.condD rfl (fun hc11 => ?_) (fun hc11 => ?_) | (refine W.cond rfl (fun hc11 => ?_) (fun hc11 => ?_) <;> try simp only [Bool.or_eq_true, Bool.and_eq_true, Bool.not_eq_true', Bool.not_eq_false', decide_eq_true_eq, Bool.or_eq_false_iff, Bool.and_eq_false_iff, decide_eq_false_iff_not, beq_iff_eq, beq_eq_false_iff_ne, ne_eq, Decidable.not_not] at hc11)
  ·
    obtain ⟨o, ho⟩ : ∃ o, l[x.i]? = some o := ⟨_, List.getElem?_eq_getElem (show x.i < l.length by simp only [List.length_map] at *; omega)⟩
    have hlo : (l.map O.c)[x.i]? = some o.c := by simp [ho]
    have hsu := idxs_succ (k := k) ho
    have hil := idxs_len k l x.i
    have hcx := hO.sl.len_le
    simp only [iz_len, zsN_len, maxLen] at hcx
    refine W.skip ?_
    refine N.next ?_
    refine W.seq ?_
    refine W.block ?_
    refine W.seq ?_
    refine W.region ?_
    refine RL.q (Yld.move rfl) rfl ?_
    refine RL.q (Yld.indexRow Try.underlying22 sz42 rfl rfl (by first | assumption | exact Own.sl (by assumption)) (by first | rfl | omega | (simp; done) | (simp; omega)) (by omega) (by first | omega | (simp; done) | (simp; omega))) rfl ?_
    refine RL.q (by first | exact Yld.loadRow (cl := 1) Try.underlying42 rfl sz42 rfl rfl (by first | assumption | exact Own.sl (by assumption)) (by assumption) | exact Yld.loadRow (cl := 30) Try.underlying42 rfl sz42 rfl rfl (by first | assumption | exact Own.sl (by assumption)) (by assumption)) rfl ?_
    refine RL.e (Eff.alloc 107 zc42) rfl ?_
    rintro _ _ ⟨b7, rfl, rfl⟩
    refine RL.q (Yld.assign rfl) rfl ?_
    refine RL.e0 (Eff.storeS (c := 107) _ sz42 rfl rfl rfl rfl rfl rfl rfl (by (try simp only [putAt, List.take, List.drop, List.nil_append, List.cons_append, List.append_nil, List.length_cons, List.length_nil, Nat.add_zero, Nat.zero_add, Nat.reduceAdd]); rfl)) ?_
    rintro _ _ rfl
    refine RL.nil ?_
    refine N.next ?_
    refine W.keep (.cons (k := 1) rfl (.cons (k := 5) rfl (.cons (k := 6) rfl (.cons (k := 7) rfl (.cons (k := 8) rfl (.cons (k := 9) rfl (.cons (k := 10) rfl .nil))))))) (.cons (k := 0) rfl (.cons (k := 1) rfl (.cons (k := 30) rfl (.cons (k := 107) rfl .nil)))) ?_
    refine W.seq ?_
    refine W.region ?_
    refine RL.q (Yld.fieldAddr fo42_3 rfl) rfl ?_
    refine RL.q (Yld.fieldAddr fo38_1 rfl) rfl ?_
    refine RL.q (Yld.load1 (c := 107) Try.underlying9 rfl rfl rfl (by first | exact single_self _ _ | exact pset_self _ _ _ | assumption) rfl) rfl ?_
    refine RL.q (Yld.move rfl) rfl ?_
    refine RL.q (Yld.bin rfl rfl BinV.eqlS) rfl ?_
    refine RL.nil ?_
    refine N.next ?_
    refine W.keep (.cons (k := 1) rfl (.cons (k := 5) rfl (.cons (k := 6) rfl (.cons (k := 8) rfl (.cons (k := 9) rfl (.cons (k := 10) rfl (.cons (k := 19) rfl .nil))))))) (.cons (k := 0) rfl (.cons (k := 1) rfl (.cons (k := 30) rfl (.cons (k := 107) rfl .nil)))) ?_
    first | refine W.condD rfl (fun hc19 => ?_) (fun hc19 => ?_) | (refine W.cond rfl (fun hc19 => ?_) (fun hc19 => ?_) <;> try simp only [Bool.or_eq_true, Bool.and_eq_true, Bool.not_eq_true', Bool.not_eq_false', decide_eq_true_eq, Bool.or_eq_false_iff, Bool.and_eq_false_iff, decide_eq_false_iff_not, beq_iff_eq, beq_eq_false_iff_ne, ne_eq, Decidable.not_not] at hc19)
    ·
      have hnx : (zsN (idxs k l (x.i + 1))) = (zsN (idxs k l x.i)) ++ [(x.i : Int)] := by rw [hsu, if_pos hc19, zsN_app]; rfl
      refine W.region ?_
      refine RL.q (Yld.move rfl) rfl ?_
      refine RL.q (Yld.move rfl) rfl ?_
      refine RL.e (Eff.buildSlice 122 Try.underlying25 sz3 zc3 rfl rfl (.cons rfl rfl .nil) rfl) rfl ?_
      rintro _ _ ⟨b22, rfl, rfl⟩
      refine RL.e (Eff.appendE (tc := 30) (sc := 122) (fun z : Int => [Value.int .i64 z]) Try.underlying25 el3 rfl rfl rfl rfl hO rfl (iz_single rfl) rfl (iz_one1 _) (by decide) (by first | (simp; done) | (simp; omega)) (by first | (simp [maxLen]; done) | (simp [maxLen]; omega))) rfl ?_
      rintro _ _ ⟨Ha, pa, ca, rfl, hOa, rfl⟩
      refine RL.q (Yld.assign rfl) rfl ?_
      refine RL.nil ?_
      refine N.block_normal ?_
      refine N.next ?_
      refine W.keep (.cons (k := 1) rfl (.cons (k := 5) rfl (.cons (k := 8) rfl (.cons (k := 9) rfl (.cons (k := 10) rfl .nil))))) (.cons (k := 0) rfl (.cons (k := 1) rfl (.cons (k := 30) rfl (.cons (k := 107) rfl (.cons (k := 122) rfl .nil))))) ?_
      refine W.region ?_
      refine RL.q (Yld.bin rfl rfl (by first | exact BinV.add (by omega) (by omega) | exact BinV.addW)) rfl ?_
      refine RL.q (Yld.move rfl) rfl ?_
      refine RL.nil ?_
      exact N.famK ⟨x.i + 1, Ha, pa, ca⟩ ⟨⟨by dsimp only; omega, by dsimp only; rw [hnx]; exact hOa⟩, by dsimp only; omega⟩ (.as rfl (by show Value.slice _ _ _ = Value.slice _ _ _; rw [hnx]) (.as rfl (by first | rfl | (simp; done) | (congr 1; simp; done) | (congr 1; omega)) .nil)) (.cons rfl (.cons rfl (.cons rfl .nil))) (.cons rfl .nil) (.cons rfl (.cons rfl .nil))
    ·
      have hnx : (zsN (idxs k l (x.i + 1))) = (zsN (idxs k l x.i)) := by rw [hsu, if_neg hc19]
      refine W.skip ?_
      refine N.block_normal ?_
      refine N.next ?_
      refine W.region ?_
      refine RL.q (Yld.bin rfl rfl (by first | exact BinV.add (by omega) (by omega) | exact BinV.addW)) rfl ?_
      refine RL.q (Yld.move rfl) rfl ?_
      refine RL.nil ?_
      exact N.famK ⟨x.i + 1, x.H, x.p, x.c⟩ ⟨⟨by dsimp only; omega, by dsimp only; rw [hnx]; exact hO⟩, by dsimp only; omega⟩ (.as rfl (by show Value.slice _ _ _ = Value.slice _ _ _; rw [hnx]) (.as rfl (by first | rfl | (simp; done) | (congr 1; simp; done) | (congr 1; omega)) .nil)) (.cons rfl (.cons rfl (.cons rfl .nil))) (.cons rfl .nil) (.cons rfl (.cons rfl .nil))
  ·
    have hend : x.i = l.length := by omega
    refine W.exit ?_
    refine N.then_exit ?_
    refine N.then_exit ?_
    refine N.block_eq ?_
    refine N.next ?_
    refine W.keep (.cons (k := 5) rfl .nil) (.cons (k := 0) rfl (.cons (k := 1) rfl (.cons (k := 30) rfl .nil))) ?_
    refine W.seq ?_
    refine W.region ?_
    refine RL.q (Yld.move rfl) rfl ?_
    refine RL.q (Yld.assign rfl) rfl ?_
    refine RL.nil ?_
    refine N.next ?_
    refine W.ret ?_
    exact N.retBy [1, 30] (.cons (.tmp rfl) .nil) rfl rfl rfl rfl ⟨x.H, x.p, x.c, by rw [hend]; rfl, by rw [← hend]; exact hO, rfl⟩

set_option maxRecDepth 100000 in
set_option maxHeartbeats 400000 in
theorem indexS_ct (ks : List Ky) (H1 : PH) (p : Option Addr) (c : Nat) (hS : Sl H1 p c 1 (kz ks)) (f : Nat) (cap : List Value) (G1 G2 : PH) (hent : Ent Try.prog f) (hf : ∀ k ∈ ks, Ct Try.prog f (.string k :: cap) [G1, G2] (fun v Hs => v = .bool false ∧ Hs = [G1, G2])) : Ct Try.prog 48 [.slice p ks.length c, .func (.func f) [].toArray cap.toArray] [H1, G1, G2] (fun v Hs => v = .int .i64 (-1) ∧ Hs = [H1, G1, G2]) := by
  refine Ct.body Try.func48 rfl Try.ntmps48 rfl ?_
  intro E F
  have hmx := hS.len_le
  simp only [kz_len, maxLen] at hmx
  refine W.seq ?_
  refine W.region ?_
  refine RL.q (Yld.assign rfl) rfl ?_
  refine RL.nil ?_
  refine N.next ?_
  refine W.seq ?_
  refine W.seq ?_
  refine W.region ?_
  refine RL.q (Yld.move rfl) rfl ?_
  refine RL.q (Yld.lenSl Try.underlying32 rfl) rfl ?_
  refine RL.q (Yld.move rfl) rfl ?_
  refine RL.nil ?_
  refine N.next ?_
  refine W.block ?_
  refine W.loopK (ι := Nat) (fun j => (j ≤ ks.length)) (fun j => [(8, .int .i64 (j : Nat))]) (fun j => []) (fun j => ks.length - j) (.cons (k := 0) rfl (.cons (k := 1) rfl (.cons (k := 7) rfl .nil))) (.cons (k := 0) rfl (.cons (k := 1) rfl (.cons (k := 2) rfl (.cons (k := 3) rfl .nil)))) 0 ?_ ?_ ?_ ?_
  · exact Nat.zero_le _
  · exact (.as rfl (by first | rfl | (simp; done) | (congr 1; simp; done) | (congr 1; omega)) .nil)
  · exact .nil
  rintro j hj
  refine W.keep (.cons (k := 8) rfl (.cons (k := 0) rfl (.cons (k := 1) rfl (.cons (k := 7) rfl .nil)))) (.cons (k := 0) rfl (.cons (k := 1) rfl (.cons (k := 2) rfl (.cons (k := 3) rfl .nil)))) ?_
  refine W.seq ?_
  refine W.region ?_
  refine RL.q (Yld.bin rfl rfl BinV.lss) rfl ?_
  refine RL.nil ?_
  refine N.next ?_
  refine W.seq ?_
  first | refine W.condD rfl (fun hc9 => ?_) (fun hc9 => ?_) | (refine W.cond rfl (fun hc9 => ?_) (fun hc9 => ?_) <;> try simp only [Bool.or_eq_true, Bool.and_eq_true, Bool.not_eq_true', Bool.not_eq_false', decide_eq_true_eq, Bool.or_eq_false_iff, Bool.and_eq_false_iff, decide_eq_false_iff_not, beq_iff_eq, beq_eq_false_iff_ne, ne_eq, Decidable.not_not] at hc9)
  ·
    obtain ⟨k, hk, hlk⟩ := kz_at (show j < ks.length by omega)
    refine W.skip ?_
    refine N.next ?_
    refine W.seq ?_
    refine W.block ?_
    refine W.seq ?_
    refine W.region ?_
    refine RL.q (Yld.move rfl) rfl ?_
    refine RL.q (Yld.assign rfl) rfl ?_
    refine RL.nil ?_
    refine N.next ?_
    refine W.seq ?_
    refine W.region ?_
    refine RL.q (Yld.move rfl) rfl ?_
    refine RL.q (Yld.move rfl) rfl ?_
    refine RL.q (Yld.move rfl) rfl ?_
    refine RL.q (Yld.indexRow Try.underlying32 sz9 rfl rfl (by first | assumption | exact Own.sl (by assumption)) (by first | rfl | omega | (simp; done) | (simp; omega)) (by omega) (by first | omega | (simp; done) | (simp; omega))) rfl ?_
    refine RL.q (by first | exact (by first | exact Yld.loadRow1 (cl := 1) Try.underlying9 rfl rfl rfl (by first | assumption | exact Own.sl (by assumption)) (by assumption) | exact Yld.loadRow1 (cl := 2) Try.underlying9 rfl rfl rfl (by first | assumption | exact Own.sl (by assumption)) (by assumption) | exact Yld.loadRow1 (cl := 3) Try.underlying9 rfl rfl rfl (by first | assumption | exact Own.sl (by assumption)) (by assumption)) | exact (by first | exact Yld.loadRowF (cl := 1) (j := 0) Try.underlying9 rfl rfl rfl (by first | assumption | exact Own.sl (by assumption)) (by assumption) rfl | exact Yld.loadRowF (cl := 2) (j := 0) Try.underlying9 rfl rfl rfl (by first | assumption | exact Own.sl (by assumption)) (by assumption) rfl | exact Yld.loadRowF (cl := 3) (j := 0) Try.underlying9 rfl rfl rfl (by first | assumption | exact Own.sl (by assumption)) (by assumption) rfl)) rfl ?_
    refine RL.e (Eff.callV hent [2, 3] [2, 3] rfl (.cons rfl .nil) (hf k (List.mem_of_getElem? hk)) rfl rfl rfl rfl (by rintro _ _ ⟨_, rfl⟩; rfl)) rfl ?_
    rintro _ _ ⟨_, ⟨rfl, rfl⟩, rfl⟩
    refine RL.nil ?_
    refine N.next ?_
    refine W.keep (.cons (k := 0) rfl (.cons (k := 1) rfl (.cons (k := 5) rfl (.cons (k := 7) rfl (.cons (k := 8) rfl (.cons (k := 16) rfl .nil)))))) (.cons (k := 0) rfl (.cons (k := 1) rfl (.cons (k := 2) rfl (.cons (k := 3) rfl .nil)))) ?_
    first | (refine W.as (t := 16) rfl (boolF (by first | assumption | omega | (simp; done))) ?_; refine W.condF rfl ?_) | refine W.condF rfl ?_
    refine W.skip ?_
    refine N.block_normal ?_
    refine N.next ?_
    refine W.region ?_
    refine RL.q (Yld.bin rfl rfl (by first | exact BinV.add (by omega) (by omega) | exact BinV.addW)) rfl ?_
    refine RL.q (Yld.move rfl) rfl ?_
    refine RL.nil ?_
    exact N.famK (j + 1) ⟨by omega, by omega⟩ (.as rfl (by first | rfl | (simp; done) | (congr 1; simp; done) | (congr 1; omega)) .nil) (.cons rfl (.cons rfl (.cons rfl .nil))) .nil (.cons rfl (.cons rfl (.cons rfl (.cons rfl .nil))))
  ·
    refine W.exit ?_
    refine N.then_exit ?_
    refine N.then_exit ?_
    refine N.block_eq ?_
    refine N.next ?_
    refine W.keep .nil (.cons (k := 0) rfl (.cons (k := 1) rfl (.cons (k := 2) rfl (.cons (k := 3) rfl .nil)))) ?_
    refine W.seq ?_
    refine W.region ?_
    refine RL.q (Yld.assign rfl) rfl ?_
    refine RL.nil ?_
    refine N.next ?_
    refine W.ret ?_
    exact N.retBy [1, 2, 3] (.cons (.tmp rfl) .nil) rfl rfl rfl rfl ⟨rfl, rfl⟩

set_option maxRecDepth 100000 in
set_option maxHeartbeats 400000 in
theorem containsS_ct (ks : List Ky) (H1 : PH) (p : Option Addr) (c : Nat) (hS : Sl H1 p c 1 (kz ks)) (f : Nat) (cap : List Value) (G1 G2 : PH) (hent : Ent Try.prog f) (hf : ∀ k ∈ ks, Ct Try.prog f (.string k :: cap) [G1, G2] (fun v Hs => v = .bool false ∧ Hs = [G1, G2])) : Ct Try.prog 27 [.slice p ks.length c, .func (.func f) [].toArray cap.toArray] [H1, G1, G2] (fun v Hs => v = .bool false ∧ Hs = [H1, G1, G2]) := by
  refine Ct.body Try.func27 rfl Try.ntmps27 rfl ?_
  intro E F
  refine W.seq ?_
  refine W.region ?_
  refine RL.q (Yld.assign rfl) rfl ?_
  refine RL.nil ?_
  refine N.next ?_
  refine W.seq ?_
  refine W.region ?_
  refine RL.q (Yld.move rfl) rfl ?_
  refine RL.q (Yld.move rfl) rfl ?_
  refine RL.e (Eff.call ent48 [1, 2, 3] [1, 2, 3] (.cons rfl (.cons rfl .nil)) (indexS_ct ks _ _ _ hS _ _ _ _ hent hf) rfl rfl rfl rfl (by rintro _ _ ⟨_, rfl⟩; rfl)) rfl ?_
  rintro _ _ ⟨_, ⟨rfl, rfl⟩, rfl⟩
  refine RL.q (Yld.bin rfl rfl BinV.geq) rfl ?_
  refine RL.q (Yld.assign rfl) rfl ?_
  refine RL.nil ?_
  refine N.next ?_
  refine W.keep (.cons (k := 4) rfl .nil) (.cons (k := 0) rfl (.cons (k := 1) rfl (.cons (k := 2) rfl (.cons (k := 3) rfl .nil)))) ?_
  refine W.ret ?_
  exact N.retBy [1, 2, 3] (.cons (.tmp rfl) .nil) rfl rfl rfl rfl ⟨rfl, rfl⟩

set_option maxRecDepth 100000 in
set_option maxHeartbeats 400000 in
theorem checkC_ct (l : List O) (hl60 : l.length ≤ 60) (H1 : PH) (p : Option Addr) (c0 : Nat) (hS : Sl H1 p c0 12 (l.map O.c)) (bl : Nat) (k : Ky) : Ct Try.prog 28 [.string k, .pointer (some ⟨bl, 0, none⟩)] [single bl (.cells [.slice p (l.map O.c).length c0].toArray 22 (0, 0)), H1] (fun v Hs => v = .bool false ∧ Hs = [single bl (.cells [.slice p (l.map O.c).length c0].toArray 22 (0, 0)), H1]) := by
  refine Ct.body Try.func28 rfl Try.ntmps28 rfl ?_
  intro E F
  refine W.seq ?_
  refine W.region ?_
  refine RL.q (Yld.assign rfl) rfl ?_
  refine RL.nil ?_
  refine N.next ?_
  refine W.seq ?_
  refine W.region ?_
  refine RL.q (Yld.load1 (c := 1) Try.underlying22 rfl rfl rfl (by first | exact single_self _ _ | exact pset_self _ _ _ | assumption) rfl) rfl ?_
  refine RL.q (Yld.move rfl) rfl ?_
  refine RL.e (Eff.call ent29 [2] [2, 140] (.cons rfl (.cons rfl .nil)) (indices_ct l (by omega) _ _ _ hS k) rfl rfl rfl rfl (by rintro _ _ ⟨_, _, _, _, _, rfl⟩; rfl)) rfl ?_
  rintro _ _ ⟨_, ⟨Hi, pi, ci, rfl, hOi, rfl⟩, rfl⟩
  have hil := idxs_len k l l.length
  refine RL.q (Yld.lenSl Try.underlying25 rfl) rfl ?_
  refine RL.q (Yld.bin rfl rfl BinV.gtr) rfl ?_
  refine RL.q (Yld.assign rfl) rfl ?_
  refine RL.nil ?_
  refine N.next ?_
  refine W.keep (.cons (k := 3) rfl .nil) (.cons (k := 0) rfl (.cons (k := 1) rfl (.cons (k := 2) rfl (.cons (k := 140) rfl .nil)))) ?_
  refine W.ret ?_
  exact N.retBy [1, 2] (.cons (.tmp rfl) .nil) rfl rfl rfl rfl ⟨by show Value.bool _ = _; rw [decide_eq_false (by simp; omega)], rfl⟩

set_option maxRecDepth 100000 in
set_option maxHeartbeats 1600000 in
theorem mergeC_ct (bs bm bl : Nat) (es : Array MapEntry) (ck : Nat) (m : List (Int × Value)) (hM : MapP (fun a : Int => Value.int .i64 a) es ck m) (l : List O) (H1 : PH) (p : Option Addr) (c0 : Nat) (hS : Sl H1 p c0 12 (l.map O.c)) (hs : List (List Nat)) (hw : WMok m hs) (hwl : ∀ w, Wt hs w → w < l.length) (z : Int) (hz0 : 0 ≤ z) (hz1 : z < l.length) : Ct Try.prog 38 [.int .i64 z, .pointer (some ⟨bs, 0, none⟩), .pointer (some ⟨bl, 0, none⟩)] [single bs (.cells [.map (some bm)].toArray 73 (0, 0)), single bm (.map es ck), single bl (.cells [.slice p (l.map O.c).length c0].toArray 22 (0, 0)), H1] (fun v Hs => v = .bool (freeB l hs z.toNat) ∧ Hs = [single bs (.cells [.map (some bm)].toArray 73 (0, 0)), single bm (.map es ck), single bl (.cells [.slice p (l.map O.c).length c0].toArray 22 (0, 0)), H1]) := by
  refine Ct.body Try.func38 rfl Try.ntmps38 rfl ?_
  intro E F
  have hmax := hS.len_le
  simp only [maxLen] at hmax
  have hll : (l.map O.c).length = l.length := by simp
  obtain ⟨a, ha⟩ : ∃ a, l[z.toNat]? = some a := ⟨_, List.getElem?_eq_getElem (by omega)⟩
  have hla : (l.map O.c)[z.toNat]? = some a.c := by rw [List.getElem?_map, ha]; rfl
  refine W.seq ?_
  refine W.region ?_
  refine RL.q (Yld.assign rfl) rfl ?_
  refine RL.nil ?_
  refine N.next ?_
  refine W.seq ?_
  refine W.seq ?_
  refine W.region ?_
  refine RL.q (Yld.load1 (c := 1) Try.underlying73 rfl rfl rfl (by first | exact single_self _ _ | exact pset_self _ _ _ | assumption) rfl) rfl ?_
  refine RL.e (Eff.range 107 (c := 2) Try.underlying73 rfl rfl) rfl ?_
  rintro _ _ ⟨r7, rfl, rfl⟩
  refine RL.nil ?_
  refine N.next ?_
  refine W.block ?_
  refine W.loopK (ι := WI) (fun x => (ItP es ck ck x.last x.seen m x.done ∧ ∀ (w : Nat) b, (w : Int) ∈ x.done → l[w]? = some b → ¬ Prec b a)) (fun x => []) (fun x => [(107, single r7 (.mapIter (some bm) ck x.seen x.last))]) (fun x => leftN m x.done) (.cons (k := 0) rfl (.cons (k := 2) rfl (.cons (k := 7) rfl .nil))) (.cons (k := 0) rfl (.cons (k := 1) rfl (.cons (k := 2) rfl (.cons (k := 3) rfl (.cons (k := 4) rfl .nil))))) ⟨#[], ck, []⟩ ?_ ?_ ?_ ?_
  · exact ⟨ItP.start hM, fun w b h => by simp at h⟩
  · exact .nil
  · exact (.cons rfl .nil)
  rintro x ⟨hIx, hI⟩
  refine W.keep (.cons (k := 0) rfl (.cons (k := 2) rfl (.cons (k := 7) rfl .nil))) (.cons (k := 107) rfl (.cons (k := 0) rfl (.cons (k := 1) rfl (.cons (k := 2) rfl (.cons (k := 3) rfl (.cons (k := 4) rfl .nil)))))) ?_
  refine W.seq ?_
  refine W.region ?_
  refine RL.e (Eff.next (c := 2) (c2 := 107) rfl rfl rfl hM hIx) rfl ?_
  rintro _ _ ⟨nx8, sn8, ls8, rfl, hN8, rfl⟩
  refine RL.q (Yld.extract rfl (nxV_ok _ nx8)) rfl ?_
  refine RL.nil ?_
  refine N.next ?_
  refine W.seq ?_
  refine W.cond rfl (fun hc9 => ?_) (fun hc9 => ?_)
  ·
    obtain ⟨⟨k, u⟩, rfl⟩ := Option.isSome_iff_exists.1 hc9
    obtain ⟨hku, hkd, hI2, hE, hls⟩ := hN8
    obtain rfl := hls.symm
    obtain ⟨wk, hwk, hwt⟩ := (hw.2 k).1 (by rw [hku]; rfl)
    have hwl2 := hwl wk hwt
    obtain ⟨b, hb⟩ : ∃ b, l[wk]? = some b := ⟨_, List.getElem?_eq_getElem hwl2⟩
    have hlb : (l.map O.c)[k.toNat]? = some b.c := by rw [hwk, Int.toNat_natCast, List.getElem?_map, hb]; rfl
    refine W.skip ?_
    refine N.next ?_
    refine W.block ?_
    refine W.seq ?_
    refine W.region ?_
    refine RL.q (Yld.entry (c := 2) (c2 := 107) rfl rfl rfl hM hE) rfl ?_
    refine RL.q (Yld.extract rfl rfl) rfl ?_
    refine RL.q (Yld.assign rfl) rfl ?_
    refine RL.nil ?_
    refine N.next ?_
    refine W.keep (.cons (k := 0) rfl (.cons (k := 2) rfl (.cons (k := 5) rfl (.cons (k := 7) rfl .nil)))) (.cons (k := 0) rfl (.cons (k := 1) rfl (.cons (k := 2) rfl (.cons (k := 3) rfl (.cons (k := 4) rfl (.cons (k := 107) rfl .nil)))))) ?_
    refine W.seq ?_
    refine W.draw (.q 0 (.q 1 (.q 2 (.q 3 (.q 4 (.q 5 (.q 6 (.q 7 (.one 8 .done))))))))) (.cons (k := 0) rfl (.cons (k := 1) rfl (.cons (k := 2) rfl (.cons (k := 3) rfl (.cons (k := 4) rfl (.cons (k := 107) rfl .nil)))))) mix (by kernel_rfl) (by kernel_rfl) ?_
    refine DL.q rfl (Yld.load1 (c := 3) Try.underlying22 rfl rfl rfl (by first | exact single_self _ _ | exact pset_self _ _ _ | assumption) rfl) rfl ?_
    refine DL.q rfl (Yld.move rfl) rfl ?_
    refine DL.q rfl (Yld.indexRow Try.underlying22 sz42 rfl rfl (by first | assumption | exact Own.sl (by assumption)) (by first | rfl | omega | (simp; done) | (simp; omega)) (by omega) (by first | omega | (simp; done) | (simp; omega))) rfl ?_
    refine DL.q rfl (by first | exact Yld.loadRow (cl := 107) Try.underlying42 rfl sz42 rfl rfl (by first | assumption | exact Own.sl (by assumption)) (by assumption) | exact Yld.loadRow (cl := 1) Try.underlying42 rfl sz42 rfl rfl (by first | assumption | exact Own.sl (by assumption)) (by assumption) | exact Yld.loadRow (cl := 2) Try.underlying42 rfl sz42 rfl rfl (by first | assumption | exact Own.sl (by assumption)) (by assumption) | exact Yld.loadRow (cl := 3) Try.underlying42 rfl sz42 rfl rfl (by first | assumption | exact Own.sl (by assumption)) (by assumption) | exact Yld.loadRow (cl := 4) Try.underlying42 rfl sz42 rfl rfl (by first | assumption | exact Own.sl (by assumption)) (by assumption)) rfl ?_
    refine DL.q rfl (Yld.load1 (c := 3) Try.underlying22 rfl rfl rfl (by first | exact single_self _ _ | exact pset_self _ _ _ | assumption) rfl) rfl ?_
    refine DL.q rfl (Yld.move rfl) rfl ?_
    refine DL.q rfl (Yld.indexRow Try.underlying22 sz42 rfl rfl (by first | assumption | exact Own.sl (by assumption)) (by first | rfl | omega | (simp; done) | (simp; omega)) (by omega) (by first | omega | (simp; done) | (simp; omega))) rfl ?_
    refine DL.q rfl (by first | exact Yld.loadRow (cl := 107) Try.underlying42 rfl sz42 rfl rfl (by first | assumption | exact Own.sl (by assumption)) (by assumption) | exact Yld.loadRow (cl := 1) Try.underlying42 rfl sz42 rfl rfl (by first | assumption | exact Own.sl (by assumption)) (by assumption) | exact Yld.loadRow (cl := 2) Try.underlying42 rfl sz42 rfl rfl (by first | assumption | exact Own.sl (by assumption)) (by assumption) | exact Yld.loadRow (cl := 3) Try.underlying42 rfl sz42 rfl rfl (by first | assumption | exact Own.sl (by assumption)) (by assumption) | exact Yld.loadRow (cl := 4) Try.underlying42 rfl sz42 rfl rfl (by first | assumption | exact Own.sl (by assumption)) (by assumption)) rfl ?_
    refine DL.one rfl (Eff.call ent34 [] [] (.cons rfl (.cons rfl .nil)) (precedes_ct b a) rfl rfl rfl rfl (by rintro _ _ ⟨_, rfl⟩; rfl)) rfl (by rintro _ _ ⟨_, ⟨rfl, rfl⟩, rfl⟩; repeat (first | exact .nil | refine .cons rfl ?_)) ?_
    rintro _ _ ⟨_, ⟨rfl, rfl⟩, rfl⟩
    refine DL.done ?_
    refine N.next ?_
    refine W.keep (.cons (k := 0) rfl (.cons (k := 2) rfl (.cons (k := 7) rfl (.cons (k := 20) rfl .nil)))) (.cons (k := 0) rfl (.cons (k := 1) rfl (.cons (k := 2) rfl (.cons (k := 3) rfl (.cons (k := 4) rfl (.cons (k := 107) rfl .nil)))))) ?_
    first | refine W.condD rfl (fun hc20 => ?_) (fun hc20 => ?_) | (refine W.cond rfl (fun hc20 => ?_) (fun hc20 => ?_) <;> try simp only [Bool.or_eq_true, Bool.and_eq_true, Bool.not_eq_true', Bool.not_eq_false', decide_eq_true_eq, Bool.or_eq_false_iff, Bool.and_eq_false_iff, decide_eq_false_iff_not, beq_iff_eq, beq_eq_false_iff_ne, ne_eq, Decidable.not_not] at hc20)
    ·
      have hnf : ¬ FreeW l hs z.toNat := fun h => h wk b a hwt hb ha hc20
      refine W.seq ?_
      refine W.region ?_
      refine RL.q (Yld.assign rfl) rfl ?_
      refine RL.nil ?_
      refine N.next ?_
      refine W.keep (.cons (k := 4) rfl .nil) (.cons (k := 0) rfl (.cons (k := 1) rfl (.cons (k := 2) rfl (.cons (k := 3) rfl (.cons (k := 4) rfl (.cons (k := 107) rfl .nil)))))) ?_
      refine W.ret ?_
      refine N.block_ret ?_
      refine N.then_ret ?_
      refine N.block_ret ?_
      refine N.then_ret ?_
      exact N.retBy [1, 2, 3, 4] (.cons (.tmp rfl) .nil) rfl rfl rfl rfl ⟨by rw [freeB_not hnf]; rfl, rfl⟩
    ·
      have hstep : ∀ (w : Nat) e, (w : Int) ∈ k :: x.done → l[w]? = some e → ¬ Prec e a := fun w e hw2 he => by
        rcases List.mem_cons.1 hw2 with e2 | h
        · have e3 : w = wk := by omega
          subst e3; rw [hb] at he; cases he; exact hc20
        · exact hI w e h he
      refine W.skip ?_
      refine N.block_normal ?_
      exact N.famK ⟨sn8, ck, k :: x.done⟩ ⟨⟨hI2, hstep⟩, leftN_next hku hkd⟩ .nil (.cons rfl (.cons rfl (.cons rfl .nil))) (.cons rfl .nil) (.cons rfl (.cons rfl (.cons rfl (.cons rfl (.cons rfl .nil)))))
  ·
    have hn0 : nx8 = none := by cases nx8 with | none => rfl | some p => cases hc9
    subst hn0
    have hall := hN8
    have hfree : FreeW l hs z.toNat := fun w b a' hwt hb ha' => by
      rw [ha] at ha'; cases ha'
      obtain ⟨v, hv⟩ := Option.isSome_iff_exists.1 ((hw.2 (w : Int)).2 ⟨w, rfl, hwt⟩)
      exact hI w b (hall _ (mget_mem hv)) hb
    refine W.exit ?_
    refine N.then_exit ?_
    refine N.then_exit ?_
    refine N.block_eq ?_
    refine N.next ?_
    refine W.keep .nil (.cons (k := 0) rfl (.cons (k := 1) rfl (.cons (k := 2) rfl (.cons (k := 3) rfl (.cons (k := 4) rfl (.cons (k := 107) rfl .nil)))))) ?_
    refine W.seq ?_
    refine W.region ?_
    refine RL.q (Yld.assign rfl) rfl ?_
    refine RL.nil ?_
    refine N.next ?_
    refine W.ret ?_
    exact N.retBy [1, 2, 3, 4] (.cons (.tmp rfl) .nil) rfl rfl rfl rfl ⟨by rw [freeB_iff.2 hfree]; rfl, rfl⟩

set_option maxRecDepth 100000 in
set_option maxHeartbeats 400000 in
theorem clone_ct (ss : List (Option Addr × Nat × List Int)) (hss : ss.length ≤ 1000) (G : PH) (q : Option Addr) (d : Nat) (hG : Sl G q d 1 (ss.map SV)) : Ct Try.prog 39 [.slice q ss.length d] [G] (fun v Hs => ∃ H' p' c', v = .slice p' ss.length c' ∧ Own H' p' c' 25 1 (ss.map SV) ∧ Hs = [G, H']) := by
  refine Ct.body Try.func39 rfl Try.ntmps39 rfl ?_
  intro E F
  refine W.seq ?_
  refine W.region ?_
  refine RL.q (Yld.assign rfl) rfl ?_
  refine RL.nil ?_
  refine N.next ?_
  refine W.seq ?_
  refine W.seq ?_
  refine W.imp (Imp.empty _ 30) ?_
  refine W.region ?_
  refine RL.q (Yld.move rfl) rfl ?_
  refine RL.q (Yld.bin rfl rfl (BinV.eqlSN Try.underlying31)) rfl ?_
  refine RL.nil ?_
  refine N.next ?_
  refine W.cond rfl (fun hc4 => ?_) (fun hc4 => ?_)
  ·
    have hq : q = none := Option.isNone_iff_eq_none.1 hc4
    subst hq
    have hs0 : ss = [] := List.map_eq_nil_iff.1 hG.1
    subst hs0
    refine W.seq ?_
    refine W.region ?_
    refine RL.q (Yld.assign rfl) rfl ?_
    refine RL.nil ?_
    refine N.next ?_
    refine W.ret ?_
    refine N.then_ret ?_
    exact N.retBy [1, 30] (.cons (.tmp rfl) .nil) rfl rfl rfl rfl ⟨emp, none, 0, rfl, Own.nil _ _, rfl⟩
  ·
    refine W.skip ?_
    refine N.next ?_
    refine W.seq ?_
    refine W.region ?_
    refine RL.e (Eff.buildSlice 30 Try.underlying31 sz25 zc25 rfl rfl .nil rfl) rfl ?_
    rintro _ _ ⟨b5, rfl, rfl⟩
    refine RL.q (Yld.move rfl) rfl ?_
    refine RL.e (Eff.appendE (tc := 30) (sc := 1) (ms := ss) SV Try.underlying31 el25 rfl rfl rfl rfl (Own.none0 rfl) (show 0 = ([] : List (Option Addr × Nat × List Int)).length from rfl) hG rfl (by simp [SV, Value.oneCell']) (by decide) (by simp; omega) (by simp [maxLen]; omega)) rfl ?_
    rintro _ _ ⟨Ha, pa, ca, rfl, hOa, rfl⟩
    refine RL.q (Yld.assign rfl) rfl ?_
    refine RL.nil ?_
    refine N.next ?_
    refine W.keep (.cons (k := 2) rfl .nil) (.cons (k := 0) rfl (.cons (k := 1) rfl (.cons (k := 30) rfl .nil))) ?_
    refine W.ret ?_
    exact N.retBy [1, 30] (.cons (.tmp rfl) .nil) rfl rfl rfl rfl ⟨Ha, pa, ca, rfl, hOa, rfl⟩

end Go.Proofs.Ytbgppnkccbhbpaa
