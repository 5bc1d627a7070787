/- The walk of HistoryOf. Written by program (walk.py). -/
import Derived.Test.YtbgppnkccbhbpaaDoorC1
namespace Go.Proofs.YtbgppnkccbhbpaaDoor
open SL HistLaw Cfg
set_option linter.unusedVariables false
set_option linter.unusedSimpArgs false
theorem ent41 : Ent Tryd.prog 41 := ⟨_, _, Tryd.func41, by kernel_rfl, rfl⟩
theorem el3 : el Tryd.prog 3 1 8 := .mk (by kernel_rfl)
theorem ent42 : Ent Tryd.prog 42 := ⟨_, _, Tryd.func42, by kernel_rfl, rfl⟩
theorem ent43 : Ent Tryd.prog 43 := ⟨_, _, Tryd.func43, by kernel_rfl, rfl⟩
theorem ent18 : Ent Tryd.prog 18 := ⟨_, _, Tryd.func18, by kernel_rfl, rfl⟩
theorem ent19 : Ent Tryd.prog 19 := ⟨_, _, Tryd.func19, by kernel_rfl, rfl⟩
theorem ent20 : Ent Tryd.prog 20 := ⟨_, _, Tryd.func20, by kernel_rfl, rfl⟩
theorem ent21 : Ent Tryd.prog 21 := ⟨_, _, Tryd.func21, by kernel_rfl, rfl⟩
set_option maxRecDepth 100000 in
set_option maxHeartbeats 400000 in
theorem few56_ct (l : List EvC) (hx : ∀ a ∈ l, a.ok) (H1 : PH) (p : Option Addr) (c : Nat) (hS : Sl H1 p c 22 (l.map EvC.c)) (m : Int) : Ct Tryd.prog 18 [.slice p l.length c, .int .i64 m] [H1] (fun v Hs => (∃ b, v = .bool b ∧ (b = true → (l.length : Int) ≤ m)) ∧ Hs = [H1]) := by
  refine Ct.body Tryd.func18 rfl Tryd.ntmps18 rfl ?_
  intro E F
  have hmax := hS.len_le
  simp only [List.length_map, maxLen] at hmax
  refine W.seq ?_
  refine W.region ?_
  refine RL.q (Yld.assign rfl) rfl ?_
  refine RL.nil ?_
  refine N.next ?_
  refine W.seq ?_
  refine W.seq ?_
  refine W.region ?_
  refine RL.q (Yld.move rfl) rfl ?_
  refine RL.q (Yld.lenSl Tryd.underlying35 rfl) rfl ?_
  refine RL.q (Yld.move rfl) rfl ?_
  refine RL.nil ?_
  refine N.next ?_
  refine W.block ?_
  refine W.loopK (ι := Nat) (fun j => (j ≤ l.length)) (fun j => [(9, .int .i64 (j : Nat))]) (fun j => []) (fun j => l.length - j) (.cons (k := 0) rfl (.cons (k := 1) rfl (.cons (k := 7) rfl (.cons (k := 8) rfl .nil)))) (.cons (k := 0) rfl (.cons (k := 1) rfl .nil)) 0 ?_ ?_ ?_ ?_
  · exact Nat.zero_le _
  · exact (.as rfl (by first | rfl | (simp; done) | (congr 1; simp; done) | (congr 1; omega)) .nil)
  · exact .nil
  rintro j hj
  refine W.keep (.cons (k := 9) rfl (.cons (k := 0) rfl (.cons (k := 1) rfl (.cons (k := 7) rfl (.cons (k := 8) rfl .nil))))) (.cons (k := 0) rfl (.cons (k := 1) rfl .nil)) ?_
  refine W.seq ?_
  refine W.region ?_
  refine RL.q (Yld.bin rfl rfl BinV.lss) rfl ?_
  refine RL.nil ?_
  refine N.next ?_
  refine W.seq ?_
  first | refine W.condD rfl (fun hc10 => ?_) (fun hc10 => ?_) | (refine W.cond rfl (fun hc10 => ?_) (fun hc10 => ?_) <;> try simp only [Bool.or_eq_true, Bool.and_eq_true, Bool.not_eq_true', Bool.not_eq_false', decide_eq_true_eq, Bool.or_eq_false_iff, Bool.and_eq_false_iff, decide_eq_false_iff_not, beq_iff_eq, beq_eq_false_iff_ne, ne_eq, Decidable.not_not] at hc10)
  ·
    obtain ⟨e, he⟩ : ∃ e, l[j]? = some e := ⟨_, List.getElem?_eq_getElem (show j < l.length by omega)⟩
    have hle : (l.map EvC.c)[j]? = some [.int .i64 e.ek, .int .i64 e.mach, .int .i64 e.cl, .int .i64 e.nu, .int .i64 e.gr, .int .i64 e.kd, .string e.key, .int .i64 e.val, .int .i64 e.old, .int .i64 e.code, .bool e.fnd, .int .i64 e.rv, e.x0, e.x1, e.x2, e.x3, e.x4, e.x5, e.x6, e.x7, e.x8, e.x9] := by simp [he, EvC.c]
    have hVe : (l.map EvC.toEv)[j]? = some e.toEv := by simp [he]
    obtain ⟨hx0, hx1, hx2, hx3, hx4, hx5, hx6, hx7, hx8, hx9⟩ := hx _ (List.mem_of_getElem? he)
    refine W.skip ?_
    refine N.next ?_
    refine W.seq ?_
    refine W.block ?_
    refine W.seq ?_
    refine W.region ?_
    refine RL.q (Yld.indexRow Tryd.underlying35 sz47 rfl rfl (by first | assumption | exact Own.sl (by assumption)) (by first | rfl | omega | (simp; done) | (simp; omega)) (by omega) (by first | omega | (simp; done) | (simp; omega))) rfl ?_
    refine RL.q (Yld.loadRow (cl := 1) Tryd.underlying47 rfl sz47 rfl rfl (by first | assumption | exact Own.sl (by assumption)) (by assumption)) rfl ?_
    refine RL.e (Eff.alloc 106 zc47) rfl ?_
    rintro _ _ ⟨b6, rfl, rfl⟩
    refine RL.e0 (Eff.storeS (c := 106) _ sz47 rfl rfl rfl rfl rfl rfl (by first | rfl | (simp only [List.all_cons, List.all_nil, hx0, hx1, hx2, hx3, hx4, hx5, hx6, hx7, hx8, hx9, Bool.and_true, Bool.true_and]; rfl)) (by (try simp only [putAt, List.take, List.drop, List.nil_append, List.cons_append, List.append_nil, List.length_cons, List.length_nil, Nat.add_zero, Nat.zero_add, Nat.reduceAdd]); rfl)) ?_
    rintro _ _ rfl
    refine RL.nil ?_
    refine N.next ?_
    refine W.seq ?_
    refine W.region ?_
    refine RL.q (Yld.fieldAddr fo47_5 rfl) rfl ?_
    refine RL.q (Yld.fieldAddr fo27_1 rfl) rfl ?_
    refine RL.q (Yld.load1 (c := 106) Tryd.underlying9 rfl rfl rfl (by first | exact single_self _ _ | exact pset_self _ _ _ | assumption) rfl) rfl ?_
    refine RL.q (Yld.lenS Tryd.underlying9 rfl) rfl ?_
    refine RL.q (Yld.bin rfl rfl BinV.gtr) rfl ?_
    refine RL.nil ?_
    refine N.next ?_
    refine W.keep (.cons (k := 0) rfl (.cons (k := 1) rfl (.cons (k := 7) rfl (.cons (k := 8) rfl (.cons (k := 9) rfl (.cons (k := 17) rfl .nil)))))) (.cons (k := 0) rfl (.cons (k := 1) rfl (.cons (k := 106) rfl .nil))) ?_
    first | refine W.condD rfl (fun hc17 => ?_) (fun hc17 => ?_) | (refine W.cond rfl (fun hc17 => ?_) (fun hc17 => ?_) <;> try simp only [Bool.or_eq_true, Bool.and_eq_true, Bool.not_eq_true', Bool.not_eq_false', decide_eq_true_eq, Bool.or_eq_false_iff, Bool.and_eq_false_iff, decide_eq_false_iff_not, beq_iff_eq, beq_eq_false_iff_ne, ne_eq, Decidable.not_not] at hc17)
    ·
      refine W.seq ?_
      refine W.region ?_
      refine RL.q (Yld.assign rfl) rfl ?_
      refine RL.nil ?_
      refine N.next ?_
      refine W.keep (.cons (k := 4) rfl .nil) (.cons (k := 0) rfl (.cons (k := 1) rfl (.cons (k := 106) rfl .nil))) ?_
      refine W.ret ?_
      refine N.block_ret ?_
      refine N.then_ret ?_
      refine N.then_ret ?_
      refine N.block_ret ?_
      refine N.then_ret ?_
      exact N.retBy [1] (.cons (.tmp rfl) .nil) rfl rfl rfl rfl ⟨⟨_, rfl, fun h => by cases h⟩, rfl⟩
    ·
      refine W.skip ?_
      refine N.block_normal ?_
      refine N.next ?_
      refine W.region ?_
      refine RL.q (Yld.bin rfl rfl (by first | exact BinV.add (by omega) (by omega) | exact BinV.addW)) rfl ?_
      refine RL.q (Yld.move rfl) rfl ?_
      refine RL.nil ?_
      exact N.famK (j + 1) ⟨by omega, by omega⟩ (.as rfl (by first | rfl | (simp; done) | (congr 1; simp; done) | (congr 1; omega)) .nil) (.cons rfl (.cons rfl (.cons rfl (.cons rfl .nil)))) .nil (.cons rfl (.cons rfl .nil))
  ·
    refine W.exit ?_
    refine N.then_exit ?_
    refine N.then_exit ?_
    refine N.block_eq ?_
    refine N.next ?_
    refine W.keep (.cons (k := 0) rfl (.cons (k := 1) rfl .nil)) (.cons (k := 0) rfl (.cons (k := 1) rfl .nil)) ?_
    refine W.seq ?_
    refine W.region ?_
    refine RL.q (Yld.move rfl) rfl ?_
    refine RL.q (Yld.lenSl Tryd.underlying35 rfl) rfl ?_
    refine RL.q (Yld.move rfl) rfl ?_
    refine RL.q (Yld.bin rfl rfl BinV.leq) rfl ?_
    refine RL.q (Yld.assign rfl) rfl ?_
    refine RL.nil ?_
    refine N.next ?_
    refine W.keep (.cons (k := 4) rfl .nil) (.cons (k := 0) rfl (.cons (k := 1) rfl .nil)) ?_
    refine W.ret ?_
    exact N.retBy [1] (.cons (.tmp rfl) .nil) rfl rfl rfl rfl ⟨⟨_, rfl, fun h => by simpa using h⟩, rfl⟩

set_option maxRecDepth 100000 in
set_option maxHeartbeats 400000 in
theorem rindex_ct (l : List O) (H1 : PH) (p : Option Addr) (c : Nat) (hS : Sl H1 p c 12 (l.map O.c)) (cl nu : Int) : Ct Tryd.prog 41 [.slice p (l.map O.c).length c, .int .i64 cl, .int .i64 nu] [H1] (fun v Hs => ∃ r : Int, v = .int .i64 r ∧ IxS l cl nu r ∧ Hs = [H1]) := by
  refine Ct.body Tryd.func41 rfl Tryd.ntmps41 rfl ?_
  intro E F
  have hmax := hS.len_le
  simp only [maxLen] at hmax
  have hll : (l.map O.c).length = l.length := by simp
  refine W.seq ?_
  refine W.region ?_
  refine RL.q (Yld.assign rfl) rfl ?_
  refine RL.nil ?_
  refine N.next ?_
  refine W.seq ?_
  refine W.seq ?_
  refine W.region ?_
  refine RL.q (Yld.move rfl) rfl ?_
  refine RL.q (Yld.lenSl Tryd.underlying22 rfl) rfl ?_
  refine RL.q (Yld.bin rfl rfl (by first | exact BinV.sub (by omega) (by omega) | exact BinV.subW)) rfl ?_
  refine RL.q (Yld.assign rfl) rfl ?_
  refine RL.nil ?_
  refine N.next ?_
  refine W.keep (.cons (k := 0) rfl (.cons (k := 1) rfl (.cons (k := 2) rfl (.cons (k := 7) rfl .nil)))) (.cons (k := 0) rfl (.cons (k := 1) rfl .nil)) ?_
  refine W.block ?_
  refine W.loopK (ι := Nat) (fun j => (j ≤ l.length ∧ ∀ (i : Nat) b, j ≤ i → l[i]? = some b → ¬ (b.cl = cl ∧ b.nu = nu))) (fun j => [(7, .int .i64 ((j : Int) - 1))]) (fun j => []) (fun j => j) (.cons (k := 0) rfl (.cons (k := 1) rfl (.cons (k := 2) rfl .nil))) (.cons (k := 0) rfl (.cons (k := 1) rfl .nil)) l.length ?_ ?_ ?_ ?_
  · exact ⟨Nat.le_refl _, fun i b hi hb => absurd (List.getElem?_eq_some_iff.1 hb).1 (by omega)⟩
  · exact (.as rfl (by rw [List.length_map]) .nil)
  · exact .nil
  rintro j ⟨hj, hI⟩
  refine W.keep (.cons (k := 7) rfl (.cons (k := 0) rfl (.cons (k := 1) rfl (.cons (k := 2) rfl .nil)))) (.cons (k := 0) rfl (.cons (k := 1) rfl .nil)) ?_
  refine W.seq ?_
  refine W.seq ?_
  refine W.region ?_
  refine RL.q (Yld.move rfl) rfl ?_
  refine RL.q (Yld.bin rfl rfl BinV.geq) rfl ?_
  refine RL.nil ?_
  refine N.next ?_
  first | refine W.condD rfl (fun hc12 => ?_) (fun hc12 => ?_) | (refine W.cond rfl (fun hc12 => ?_) (fun hc12 => ?_) <;> try simp only [Bool.or_eq_true, Bool.and_eq_true, Bool.not_eq_true', Bool.not_eq_false', decide_eq_true_eq, Bool.or_eq_false_iff, Bool.and_eq_false_iff, decide_eq_false_iff_not, beq_iff_eq, beq_eq_false_iff_ne, ne_eq, Decidable.not_not] at hc12)
  ·
    obtain ⟨a, ha⟩ : ∃ a, l[(j - 1)]? = some a := ⟨_, List.getElem?_eq_getElem (show (j - 1) < l.length by omega)⟩
    have hla : (l.map O.c)[(j - 1)]? = some [.int .i64 a.cl, .int .i64 a.nu, .int .i64 a.gr, .int .i64 a.kd, .string a.key, .int .i64 a.val, .int .i64 a.old, .int .i64 a.code, .bool a.fnd, .int .i64 a.rv, .int .i64 a.inv, .int .i64 a.rsp] := by simp [ha, O.c]
    have hla2 : (l.map O.c)[((j : Int) - 1).toNat]? = some [.int .i64 a.cl, .int .i64 a.nu, .int .i64 a.gr, .int .i64 a.kd, .string a.key, .int .i64 a.val, .int .i64 a.old, .int .i64 a.code, .bool a.fnd, .int .i64 a.rv, .int .i64 a.inv, .int .i64 a.rsp] := by rw [show ((j : Int) - 1).toNat = j - 1 by omega]; exact hla
    refine W.skip ?_
    refine N.next ?_
    refine W.seq ?_
    refine W.block ?_
    refine W.seq ?_
    refine W.region ?_
    refine RL.q (Yld.move rfl) rfl ?_
    refine RL.q (Yld.move rfl) rfl ?_
    refine RL.q (Yld.indexRow Tryd.underlying22 sz32 rfl rfl (by first | assumption | exact Own.sl (by assumption)) (by first | rfl | omega | (simp; done) | (simp; omega)) (by omega) (by first | omega | (simp; done) | (simp; omega))) rfl ?_
    refine RL.q (Yld.fieldAddr fo32_0 rfl) rfl ?_
    refine RL.q (by first | exact (Yld.loadRow1 (cl := 1) Tryd.underlying3 rfl rfl rfl (by first | assumption | exact Own.sl (by assumption)) (by assumption)) | exact (Yld.loadRowF (cl := 1) (j := 0) Tryd.underlying3 rfl rfl rfl (by first | assumption | exact Own.sl (by assumption)) (by assumption) rfl)) rfl ?_
    refine RL.q (Yld.move rfl) rfl ?_
    refine RL.q (Yld.bin rfl rfl BinV.eql) rfl ?_
    refine RL.q (Yld.move rfl) rfl ?_
    refine' RL.and (t := 22) (d := 30) 8 rfl (.cons (k := 0) rfl (.cons (k := 1) rfl (.cons (k := 2) rfl (.cons (k := 7) rfl (.cons (k := 11) rfl (.cons (k := 12) rfl (.cons (k := 15) rfl (.cons (k := 16) rfl (.cons (k := 17) rfl (.cons (k := 18) rfl (.cons (k := 19) rfl (.cons (k := 20) rfl (.cons (k := 21) rfl .nil))))))))))))) (.cons (k := 0) rfl (.cons (k := 1) rfl .nil)) ?_ ?_ ?_
    rotate_left 1
    ·
      intro hg22
      refine RL.gq rfl rfl (Yld.move rfl) rfl ?_
      refine RL.gq rfl rfl (Yld.move rfl) rfl ?_
      refine RL.gq rfl rfl (Yld.indexRow Tryd.underlying22 sz32 rfl rfl (by first | assumption | exact Own.sl (by assumption)) (by first | rfl | omega | (simp; done) | (simp; omega)) (by omega) (by first | omega | (simp; done) | (simp; omega))) rfl ?_
      refine RL.gq rfl rfl (Yld.fieldAddr fo32_1 rfl) rfl ?_
      refine RL.gq rfl rfl (Yld.loadRowF (cl := 1) (j := 1) Tryd.underlying3 rfl rfl rfl (by first | assumption | exact Own.sl (by assumption)) (by assumption) rfl) rfl ?_
      refine RL.gq rfl rfl (Yld.move rfl) rfl ?_
      refine RL.gq rfl rfl (Yld.bin rfl rfl BinV.eql) rfl ?_
      refine RL.q (by first | exact Yld.pickT rfl rfl | exact Yld.pickF rfl rfl) rfl ?_
      exact RL.nil (N.meet (.cons rfl (.cons rfl (.cons rfl (.cons rfl (.cons rfl (.cons rfl (.cons rfl (.cons rfl (.cons rfl (.cons rfl (.cons rfl (.cons rfl (.cons rfl (.cons rfl .nil)))))))))))))) (.cons rfl (.cons rfl .nil)))
    ·
      intro hg22
      refine RL.gskip rfl rfl rfl rfl ?_
      refine RL.gskip rfl rfl rfl rfl ?_
      refine RL.gskip rfl rfl rfl rfl ?_
      refine RL.gskip rfl rfl rfl rfl ?_
      refine RL.gskip rfl rfl rfl rfl ?_
      refine RL.gskip rfl rfl rfl rfl ?_
      refine RL.gskip rfl rfl rfl rfl ?_
      refine RL.q (by first | exact Yld.pickT rfl rfl | exact Yld.pickF rfl rfl) rfl ?_
      exact RL.nil (N.meet (.cons rfl (.cons rfl (.cons rfl (.cons rfl (.cons rfl (.cons rfl (.cons rfl (.cons rfl (.cons rfl (.cons rfl (.cons rfl (.cons rfl (.cons rfl (.cons rfl .nil)))))))))))))) (.cons rfl (.cons rfl .nil)))
    refine RL.nil ?_
    refine N.next ?_
    refine W.keep (.cons (k := 0) rfl (.cons (k := 1) rfl (.cons (k := 2) rfl (.cons (k := 7) rfl (.cons (k := 30) rfl .nil))))) (.cons (k := 0) rfl (.cons (k := 1) rfl .nil)) ?_
    first | refine W.condD rfl (fun hc30 => ?_) (fun hc30 => ?_) | (refine W.cond rfl (fun hc30 => ?_) (fun hc30 => ?_) <;> try simp only [Bool.or_eq_true, Bool.and_eq_true, Bool.not_eq_true', Bool.not_eq_false', decide_eq_true_eq, Bool.or_eq_false_iff, Bool.and_eq_false_iff, decide_eq_false_iff_not, beq_iff_eq, beq_eq_false_iff_ne, ne_eq, Decidable.not_not] at hc30)
    ·
      have hlm : LastM l cl nu (j - 1) := ⟨⟨a, ha, hc30⟩, fun i b hi hb => hI i b (by omega) hb⟩
      refine W.seq ?_
      refine W.seq ?_
      refine W.region ?_
      refine RL.q (Yld.move rfl) rfl ?_
      refine RL.q (Yld.move rfl) rfl ?_
      refine RL.q (Yld.indexRow Tryd.underlying22 sz32 rfl rfl (by first | assumption | exact Own.sl (by assumption)) (by first | rfl | omega | (simp; done) | (simp; omega)) (by omega) (by first | omega | (simp; done) | (simp; omega))) rfl ?_
      refine RL.q (Yld.fieldAddr fo32_6 rfl) rfl ?_
      refine RL.q (Yld.loadRowF (cl := 1) (j := 11) Tryd.underlying3 rfl rfl rfl (by first | assumption | exact Own.sl (by assumption)) (by assumption) rfl) rfl ?_
      refine RL.q (Yld.bin rfl rfl BinV.geq) rfl ?_
      refine RL.nil ?_
      refine N.next ?_
      refine W.keep (.cons (k := 7) rfl (.cons (k := 36) rfl .nil)) (.cons (k := 0) rfl (.cons (k := 1) rfl .nil)) ?_
      first | refine W.condD rfl (fun hc36 => ?_) (fun hc36 => ?_) | (refine W.cond rfl (fun hc36 => ?_) (fun hc36 => ?_) <;> try simp only [Bool.or_eq_true, Bool.and_eq_true, Bool.not_eq_true', Bool.not_eq_false', decide_eq_true_eq, Bool.or_eq_false_iff, Bool.and_eq_false_iff, decide_eq_false_iff_not, beq_iff_eq, beq_eq_false_iff_ne, ne_eq, Decidable.not_not] at hc36)
      ·
        refine W.seq ?_
        refine W.region ?_
        refine RL.q (Yld.assign rfl) rfl ?_
        refine RL.nil ?_
        refine N.next ?_
        refine W.ret ?_
        refine N.then_ret ?_
        refine N.block_ret ?_
        refine N.then_ret ?_
        refine N.then_ret ?_
        refine N.block_ret ?_
        refine N.then_ret ?_
        exact N.retBy [1] (.cons (.tmp rfl) .nil) rfl rfl rfl rfl ⟨_, rfl, .inl ⟨rfl, .inr ⟨j - 1, a, hlm, ha, hc36⟩⟩, rfl⟩
      ·
        refine W.skip ?_
        refine N.next ?_
        refine W.seq ?_
        refine W.region ?_
        refine RL.q (Yld.move rfl) rfl ?_
        refine RL.q (Yld.assign rfl) rfl ?_
        refine RL.nil ?_
        refine N.next ?_
        refine W.ret ?_
        refine N.block_ret ?_
        refine N.then_ret ?_
        refine N.then_ret ?_
        refine N.block_ret ?_
        refine N.then_ret ?_
        exact N.retBy [1] (.cons (.tmp rfl) .nil) rfl rfl rfl rfl ⟨_, rfl, .inr ⟨j - 1, by omega, hlm, a, ha, by omega⟩, rfl⟩
    ·
      refine W.skip ?_
      refine N.block_normal ?_
      refine N.next ?_
      refine W.region ?_
      refine RL.q (Yld.move rfl) rfl ?_
      refine RL.q (Yld.bin rfl rfl (by first | exact BinV.sub (by omega) (by omega) | exact BinV.subW)) rfl ?_
      refine RL.q (Yld.assign rfl) rfl ?_
      refine RL.nil ?_
      exact N.famK (j - 1) ⟨⟨by omega, fun i b hi hb => (show i = j - 1 ∨ j ≤ i by omega).elim (fun e => by subst e; rw [ha] at hb; cases hb; rcases hc30 with h | h <;> omega) (fun h => hI i b h hb)⟩, by omega⟩ (.as rfl (by congr 1; omega) .nil) (.cons rfl (.cons rfl (.cons rfl .nil))) .nil (.cons rfl (.cons rfl .nil))
  ·
    refine W.exit ?_
    refine N.then_exit ?_
    refine N.then_exit ?_
    refine N.block_eq ?_
    refine N.next ?_
    refine W.keep .nil (.cons (k := 0) rfl (.cons (k := 1) rfl .nil)) ?_
    refine W.seq ?_
    refine W.region ?_
    refine RL.q (Yld.assign rfl) rfl ?_
    refine RL.nil ?_
    refine N.next ?_
    refine W.ret ?_
    exact N.retBy [1] (.cons (.tmp rfl) .nil) rfl rfl rfl rfl ⟨_, rfl, .inl ⟨rfl, .inl fun k hk => by obtain ⟨⟨b, hb, hm⟩, _⟩ := hk; exact hI k b (by omega) hb hm⟩, rfl⟩

structure HistLaw.RI where
  i : Nat
  H : PH
  p : Option Addr
  c : Nat

set_option maxRecDepth 100000 in
set_option maxHeartbeats 3200000 in
theorem rof_ct (l : List EvC) (hx : ∀ a ∈ l, a.ok) (hl40 : l.length ≤ 1000000) (H1 : PH) (p : Option Addr) (c : Nat) (hS : Sl H1 p c 22 (l.map EvC.c)) (g : Int) : Ct Tryd.prog 19 [.slice p l.length c, .int .i64 g] [H1] (fun v Hs => ∃ Ho po co, v = .slice po ((ofN g (l.map EvC.toEv) l.length).out.map O.c).length co ∧ Own Ho po co 32 12 ((ofN g (l.map EvC.toEv) l.length).out.map O.c) ∧ Hs = [H1, Ho]) := by
  refine Ct.body Tryd.func19 rfl Tryd.ntmps19 rfl ?_
  intro E F
  have hmax := hS.len_le
  simp only [List.length_map, maxLen] at hmax
  refine W.seq ?_
  refine W.region ?_
  refine RL.q (Yld.assign rfl) rfl ?_
  refine RL.nil ?_
  refine N.next ?_
  refine W.seq ?_
  refine W.region ?_
  refine RL.e (Eff.buildSlice 109 Tryd.underlying22 sz32 zc32 rfl rfl .nil rfl) rfl ?_
  rintro _ _ ⟨b9, rfl, rfl⟩
  refine RL.q (Yld.assign rfl) rfl ?_
  refine RL.nil ?_
  refine N.next ?_
  refine W.seq ?_
  refine W.seq ?_
  refine W.region ?_
  refine RL.q (Yld.assign rfl) rfl ?_
  refine RL.nil ?_
  refine N.next ?_
  refine W.block ?_
  refine W.loopK (ι := RI) (fun x => (x.i ≤ l.length ∧ Own x.H x.p x.c 32 12 ((ofN g (l.map EvC.toEv) x.i).out.map O.c))) (fun x => [(5, .slice x.p ((ofN g (l.map EvC.toEv) x.i).out.map O.c).length x.c), (6, .int .i64 (x.i : Nat))]) (fun x => [(109, x.H)]) (fun x => l.length - x.i) (.cons (k := 0) rfl (.cons (k := 1) rfl .nil)) (.cons (k := 0) rfl (.cons (k := 1) rfl .nil)) ⟨0, single b9 (.cells [].toArray 32 (0, 0)), some ⟨b9, 0, none⟩, 0⟩ ?_ ?_ ?_ ?_
  · exact ⟨Nat.zero_le _, Own.none0 rfl⟩
  · exact (.as rfl (by first | rfl | (simp; done) | (congr 1; simp; done) | (congr 1; omega)) (.as rfl (by first | rfl | (simp; done) | (congr 1; simp; done) | (congr 1; omega)) .nil))
  · exact (.cons rfl .nil)
  rintro x ⟨hi, hO⟩
  refine W.keep (.cons (k := 5) rfl (.cons (k := 6) rfl (.cons (k := 0) rfl (.cons (k := 1) rfl .nil)))) (.cons (k := 109) rfl (.cons (k := 0) rfl (.cons (k := 1) rfl .nil))) ?_
  refine W.seq ?_
  refine W.seq ?_
  refine W.region ?_
  refine RL.q (Yld.move rfl) rfl ?_
  refine RL.q (Yld.move rfl) rfl ?_
  refine RL.q (Yld.lenSl Tryd.underlying35 rfl) rfl ?_
  refine RL.q (Yld.bin rfl rfl BinV.lss) rfl ?_
  refine RL.nil ?_
  refine N.next ?_
  first | refine W.condD rfl (fun hc13 => ?_) (fun hc13 => ?_) | (refine W.cond rfl (fun hc13 => ?_) (fun hc13 => ?_) <;> try simp only [Bool.or_eq_true, Bool.and_eq_true, Bool.not_eq_true', Bool.not_eq_false', decide_eq_true_eq, Bool.or_eq_false_iff, Bool.and_eq_false_iff, decide_eq_false_iff_not, beq_iff_eq, beq_eq_false_iff_ne, ne_eq, Decidable.not_not] at hc13)
  ·
    obtain ⟨e, he⟩ : ∃ e, l[x.i]? = some e := ⟨_, List.getElem?_eq_getElem (show x.i < l.length by omega)⟩
    have hle : (l.map EvC.c)[x.i]? = some [.int .i64 e.ek, .int .i64 e.mach, .int .i64 e.cl, .int .i64 e.nu, .int .i64 e.gr, .int .i64 e.kd, .string e.key, .int .i64 e.val, .int .i64 e.old, .int .i64 e.code, .bool e.fnd, .int .i64 e.rv, e.x0, e.x1, e.x2, e.x3, e.x4, e.x5, e.x6, e.x7, e.x8, e.x9] := by simp [he, EvC.c]
    have hVe : (l.map EvC.toEv)[x.i]? = some e.toEv := by simp [he]
    have hex := hx _ (List.mem_of_getElem? he)
    obtain ⟨hx0, hx1, hx2, hx3, hx4, hx5, hx6, hx7, hx8, hx9⟩ := hex
    have hsucc := ofN_succ (g := g) hVe
    have holen := ofN_len (g := g) (l := l.map EvC.toEv) x.i
    have hinv := ofN_inv (g := g) (l := l.map EvC.toEv) x.i
    obtain ⟨s, hs⟩ : ∃ s, s = (ofN g (l.map EvC.toEv) x.i) := ⟨_, rfl⟩
    rw [← hs] at hsucc holen hinv hO
    try rw [← hs]
    have hlol : (s.out.map O.c).length = s.out.length := by simp
    refine W.skip ?_
    refine N.next ?_
    refine W.keep (.cons (k := 0) rfl (.cons (k := 1) rfl (.cons (k := 5) rfl (.cons (k := 6) rfl .nil)))) (.cons (k := 0) rfl (.cons (k := 1) rfl (.cons (k := 109) rfl .nil))) ?_
    refine W.seq ?_
    refine W.block ?_
    refine W.seq ?_
    refine W.region ?_
    refine RL.q (Yld.move rfl) rfl ?_
    refine RL.q (Yld.move rfl) rfl ?_
    refine RL.q (Yld.indexRow Tryd.underlying35 sz47 rfl rfl (by first | assumption | exact Own.sl (by assumption)) (by first | rfl | omega | (simp; done) | (simp; omega)) (by omega) (by first | omega | (simp; done) | (simp; omega))) rfl ?_
    refine RL.q (by first | exact Yld.loadRow (cl := 1) Tryd.underlying47 rfl sz47 rfl rfl (by first | assumption | exact Own.sl (by assumption)) (by assumption) | exact Yld.loadRow (cl := 109) Tryd.underlying47 rfl sz47 rfl rfl (by first | assumption | exact Own.sl (by assumption)) (by assumption)) rfl ?_
    refine RL.e (Eff.alloc 107 zc47) rfl ?_
    rintro _ _ ⟨b7, rfl, rfl⟩
    refine RL.e0 (Eff.storeS (c := 107) _ sz47 rfl rfl rfl rfl rfl rfl (by first | rfl | (simp only [List.all_cons, List.all_nil, hx0, hx1, hx2, hx3, hx4, hx5, hx6, hx7, hx8, hx9, Bool.and_true, Bool.true_and]; rfl)) (by (try simp only [putAt, List.take, List.drop, List.nil_append, List.cons_append, List.append_nil, List.length_cons, List.length_nil, Nat.add_zero, Nat.zero_add, Nat.reduceAdd]); rfl)) ?_
    rintro _ _ rfl
    refine RL.nil ?_
    refine N.next ?_
    refine W.keep (.cons (k := 0) rfl (.cons (k := 1) rfl (.cons (k := 5) rfl (.cons (k := 6) rfl (.cons (k := 7) rfl .nil))))) (.cons (k := 0) rfl (.cons (k := 1) rfl (.cons (k := 107) rfl (.cons (k := 109) rfl .nil)))) ?_
    refine W.seq ?_
    refine W.seq ?_
    refine W.region ?_
    refine RL.q (Yld.fieldAddr fo47_4 rfl) rfl ?_
    refine RL.q (Yld.load1 (c := 107) Tryd.underlying3 rfl rfl rfl (by first | exact single_self _ _ | exact pset_self _ _ _ | assumption) rfl) rfl ?_
    refine RL.q (Yld.move rfl) rfl ?_
    refine RL.q (Yld.bin rfl rfl BinV.neq) rfl ?_
    refine RL.nil ?_
    refine N.next ?_
    first | refine W.condD rfl (fun hc23 => ?_) (fun hc23 => ?_) | (refine W.cond rfl (fun hc23 => ?_) (fun hc23 => ?_) <;> try simp only [Bool.or_eq_true, Bool.and_eq_true, Bool.not_eq_true', Bool.not_eq_false', decide_eq_true_eq, Bool.or_eq_false_iff, Bool.and_eq_false_iff, decide_eq_false_iff_not, beq_iff_eq, beq_eq_false_iff_ne, ne_eq, Decidable.not_not] at hc23)
    ·
      have hnx := hsucc.trans (show ofStep g x.i e.toEv s = s by simp [ofStep, hc23])
      refine W.exit ?_
      refine N.then_exit ?_
      refine N.block_eq ?_
      refine N.next ?_
      refine W.keep (.cons (k := 0) rfl (.cons (k := 1) rfl (.cons (k := 5) rfl (.cons (k := 6) rfl .nil)))) (.cons (k := 0) rfl (.cons (k := 1) rfl (.cons (k := 107) rfl (.cons (k := 109) rfl .nil)))) ?_
      refine W.region ?_
      refine RL.q (Yld.move rfl) rfl ?_
      refine RL.q (Yld.bin rfl rfl (by first | exact BinV.add (by omega) (by omega) | exact BinV.addW)) rfl ?_
      refine RL.q (Yld.assign rfl) rfl ?_
      refine RL.nil ?_
      exact N.famK ⟨x.i + 1, x.H, x.p, x.c⟩ ⟨⟨by dsimp only; omega, by dsimp only; rw [hnx]; exact hO⟩, by dsimp only; omega⟩ (.as rfl (by show Value.slice _ _ _ = Value.slice _ _ _; rw [hnx]) (.as rfl (by first | rfl | (simp; done) | (congr 1; simp; done) | (congr 1; omega)) .nil)) (.cons rfl (.cons rfl .nil)) (.cons rfl .nil) (.cons rfl (.cons rfl .nil))
    ·
      refine W.skip ?_
      refine N.next ?_
      refine W.keep (.cons (k := 0) rfl (.cons (k := 1) rfl (.cons (k := 5) rfl (.cons (k := 6) rfl (.cons (k := 7) rfl .nil))))) (.cons (k := 0) rfl (.cons (k := 1) rfl (.cons (k := 107) rfl (.cons (k := 109) rfl .nil)))) ?_
      refine W.cutK (ι := RI) (fun y => Own y.H y.p y.c 32 12 ((if e.toEv.ek = 0 then s.out ++ [opOf g x.i e.toEv] else s.out).map O.c)) (fun y => [(5, .slice y.p ((if e.toEv.ek = 0 then s.out ++ [opOf g x.i e.toEv] else s.out).map O.c).length y.c)]) (fun y => [(109, y.H)]) (.cons (k := 0) rfl (.cons (k := 1) rfl (.cons (k := 6) rfl (.cons (k := 7) rfl .nil)))) (.cons (k := 0) rfl (.cons (k := 1) rfl (.cons (k := 107) rfl .nil))) ?_ ?_
      ·
        refine W.seq ?_
        refine W.region ?_
        refine RL.q (Yld.fieldAddr fo47_0 rfl) rfl ?_
        refine RL.q (Yld.load1 (c := 107) Tryd.underlying3 rfl rfl rfl (by first | exact single_self _ _ | exact pset_self _ _ _ | assumption) rfl) rfl ?_
        refine RL.q (Yld.bin rfl rfl BinV.eql) rfl ?_
        refine RL.nil ?_
        refine N.next ?_
        first | refine W.condD rfl (fun hc26 => ?_) (fun hc26 => ?_) | (refine W.cond rfl (fun hc26 => ?_) (fun hc26 => ?_) <;> try simp only [Bool.or_eq_true, Bool.and_eq_true, Bool.not_eq_true', Bool.not_eq_false', decide_eq_true_eq, Bool.or_eq_false_iff, Bool.and_eq_false_iff, decide_eq_false_iff_not, beq_iff_eq, beq_eq_false_iff_ne, ne_eq, Decidable.not_not] at hc26)
        ·
          refine W.region ?_
          refine RL.q (Yld.move rfl) rfl ?_
          refine RL.q (Yld.fieldAddr fo47_2 rfl) rfl ?_
          refine RL.q (Yld.load1 (c := 107) Tryd.underlying3 rfl rfl rfl (by first | exact single_self _ _ | exact pset_self _ _ _ | assumption) rfl) rfl ?_
          refine RL.q (Yld.fieldAddr fo47_3 rfl) rfl ?_
          refine RL.q (Yld.load1 (c := 107) Tryd.underlying3 rfl rfl rfl (by first | exact single_self _ _ | exact pset_self _ _ _ | assumption) rfl) rfl ?_
          refine RL.q (Yld.move rfl) rfl ?_
          refine RL.q (Yld.fieldAddr fo47_5 rfl) rfl ?_
          refine RL.q (Yld.loadA (c := 107) Tryd.underlying27 rfl sz27 rfl rfl (by first | exact single_self _ _ | exact pset_self _ _ _ | assumption) rfl rfl) rfl ?_
          refine RL.q (Yld.move rfl) rfl ?_
          refine RL.q (Yld.buildP lay32 (.cons rfl rfl (.cons rfl rfl (.cons rfl rfl (.cons rfl rfl (.cons rfl rfl (.cons rfl rfl .nil)))))) rfl) rfl ?_
          refine RL.e (Eff.buildSlice 137 Tryd.underlying22 sz32 zc32 rfl rfl (.cons rfl rfl .nil) rfl) rfl ?_
          rintro _ _ ⟨b37, rfl, rfl⟩
          refine RL.e (Eff.append (tc := 109) (sc := 137) Tryd.underlying22 el32 rfl rfl rfl rfl hO rfl (Own.one (l := (opOf g x.i e.toEv).c) rfl (O.c_one _).2 rfl).sl rfl (by intro l hl v hv; simp only [List.mem_singleton] at hl; subst hl; exact (O.c_one _).2 v hv) (by decide) (by simp; omega) (by simp [maxLen]; omega)) rfl ?_
          rintro _ _ ⟨Ha, pa, ca, rfl, hOa0, rfl⟩
          have hOa : Own Ha pa ca 32 12 ((s.out ++ [opOf g x.i e.toEv]).map O.c) := by rw [List.map_append]; exact hOa0
          refine RL.q (Yld.assign rfl) rfl ?_
          refine RL.nil ?_
          exact N.famK ⟨0, Ha, pa, ca⟩ (by rw [if_pos hc26]; exact hOa) (.as rfl (by show Value.slice _ _ _ = Value.slice _ _ _; simp [hc26]) .nil) (.cons rfl (.cons rfl (.cons rfl (.cons rfl .nil)))) (.cons rfl .nil) (.cons rfl (.cons rfl (.cons rfl .nil)))
        ·
          refine W.skip ?_
          exact N.famK ⟨0, x.H, x.p, x.c⟩ (by rw [if_neg hc26]; exact hO) (.as rfl (by show Value.slice _ _ _ = Value.slice _ _ _; simp [hc26]) .nil) (.cons rfl (.cons rfl (.cons rfl (.cons rfl .nil)))) (.cons rfl .nil) (.cons rfl (.cons rfl (.cons rfl .nil)))
      rintro y hOy
      refine W.keep (.cons (k := 5) rfl (.cons (k := 0) rfl (.cons (k := 1) rfl (.cons (k := 6) rfl (.cons (k := 7) rfl .nil))))) (.cons (k := 109) rfl (.cons (k := 0) rfl (.cons (k := 1) rfl (.cons (k := 107) rfl .nil)))) ?_
      refine W.seq ?_
      refine W.region ?_
      refine RL.q (Yld.fieldAddr fo47_0 rfl) rfl ?_
      refine RL.q (Yld.load1 (c := 107) Tryd.underlying3 rfl rfl rfl (by first | exact single_self _ _ | exact pset_self _ _ _ | assumption) rfl) rfl ?_
      refine RL.q (Yld.bin rfl rfl BinV.eql) rfl ?_
      refine RL.nil ?_
      refine N.next ?_
      first | refine W.condD rfl (fun hc41 => ?_) (fun hc41 => ?_) | (refine W.cond rfl (fun hc41 => ?_) (fun hc41 => ?_) <;> try simp only [Bool.or_eq_true, Bool.and_eq_true, Bool.not_eq_true', Bool.not_eq_false', decide_eq_true_eq, Bool.or_eq_false_iff, Bool.and_eq_false_iff, decide_eq_false_iff_not, beq_iff_eq, beq_eq_false_iff_ne, ne_eq, Decidable.not_not] at hc41)
      ·
        rw [if_neg (show ¬ e.toEv.ek = 0 by omega)] at hOy ⊢
        refine W.seq ?_
        refine W.region ?_
        refine RL.q (Yld.move rfl) rfl ?_
        refine RL.q (Yld.fieldAddr fo47_2 rfl) rfl ?_
        refine RL.q (Yld.load1 (c := 107) Tryd.underlying3 rfl rfl rfl (by first | exact single_self _ _ | exact pset_self _ _ _ | assumption) rfl) rfl ?_
        refine RL.q (Yld.fieldAddr fo47_3 rfl) rfl ?_
        refine RL.q (Yld.load1 (c := 107) Tryd.underlying3 rfl rfl rfl (by first | exact single_self _ _ | exact pset_self _ _ _ | assumption) rfl) rfl ?_
        refine RL.e (Eff.call ent41 [109] [109] (.cons rfl (.cons rfl (.cons rfl .nil))) (rindex_ct s.out _ _ _ hOy.sl e.cl e.nu) rfl rfl rfl rfl (by rintro _ _ ⟨_, _, _, rfl⟩; rfl)) rfl ?_
        rintro _ _ ⟨_, ⟨r, rfl, hrx, rfl⟩, rfl⟩
        refine RL.q (Yld.assign rfl) rfl ?_
        refine RL.nil ?_
        refine N.next ?_
        refine W.keep (.cons (k := 0) rfl (.cons (k := 1) rfl (.cons (k := 5) rfl (.cons (k := 6) rfl (.cons (k := 7) rfl (.cons (k := 8) rfl .nil)))))) (.cons (k := 0) rfl (.cons (k := 1) rfl (.cons (k := 107) rfl (.cons (k := 109) rfl .nil)))) ?_
        refine W.seq ?_
        refine W.region ?_
        refine RL.q (Yld.move rfl) rfl ?_
        refine RL.q (Yld.bin rfl rfl BinV.geq) rfl ?_
        refine RL.nil ?_
        refine N.next ?_
        first | refine W.condD rfl (fun hc49 => ?_) (fun hc49 => ?_) | (refine W.cond rfl (fun hc49 => ?_) (fun hc49 => ?_) <;> try simp only [Bool.or_eq_true, Bool.and_eq_true, Bool.not_eq_true', Bool.not_eq_false', decide_eq_true_eq, Bool.or_eq_false_iff, Bool.and_eq_false_iff, decide_eq_false_iff_not, beq_iff_eq, beq_eq_false_iff_ne, ne_eq, Decidable.not_not] at hc49)
        ·
          obtain ⟨kk, rfl, hkk2⟩ := (hinv.ix hrx).resolve_left (fun h => by have := h.1; omega)
          have hlast := hinv.opn _ _ _ hkk2
          obtain ⟨o, ho, ho2⟩ := hlast.2
          have hlo : (s.out.map O.c)[kk]? = some o.c := by simp [ho]
          have hkl := (List.getElem?_eq_some_iff.1 ho).1
          have hlo1 : ((s.out.map O.c).set kk [.int .i64 o.cl, .int .i64 o.nu, .int .i64 o.gr, .int .i64 o.kd, .string o.key, .int .i64 o.val, .int .i64 o.old, .int .i64 o.code, .bool o.fnd, .int .i64 o.rv, .int .i64 o.inv, .int .i64 (x.i : Nat)])[kk]? = some [.int .i64 o.cl, .int .i64 o.nu, .int .i64 o.gr, .int .i64 o.kd, .string o.key, .int .i64 o.val, .int .i64 o.old, .int .i64 o.code, .bool o.fnd, .int .i64 o.rv, .int .i64 o.inv, .int .i64 (x.i : Nat)] := by simp [hkl]
          have hnx := hsucc.trans (show ofStep g x.i e.toEv s = ⟨s.out.modify kk (respond x.i e.toEv), fun k' => if k' = (e.cl, e.nu) then none else s.opn k'⟩ by simp [ofStep, Decidable.not_not.1 hc23, hc41, hkk2])
          refine W.draw (.q 0 (.q 1 (.q 2 (.q 3 (.q 4 (.q 5 (.q 6 (.q 7 (.q 8 (.one 9 (.q 10 (.q 11 (.one 12 .done))))))))))))) (.cons (k := 0) rfl (.cons (k := 1) rfl (.cons (k := 107) rfl .nil))) mix (by kernel_rfl) (by kernel_rfl) ?_
          refine DL.q rfl (Yld.move rfl) rfl ?_
          refine DL.q rfl (Yld.move rfl) rfl ?_
          refine DL.q rfl (Yld.move rfl) rfl ?_
          refine DL.q rfl (Yld.move rfl) rfl ?_
          refine DL.q rfl (Yld.move rfl) rfl ?_
          refine DL.q rfl (Yld.fieldAddr fo47_6 rfl) rfl ?_
          refine DL.q rfl (Yld.loadA (c := 107) Tryd.underlying30 rfl sz30 rfl rfl (by first | exact single_self _ _ | exact pset_self _ _ _ | assumption) rfl rfl) rfl ?_
          refine DL.q rfl (Yld.indexRow Tryd.underlying22 sz32 rfl rfl (by first | assumption | exact Own.sl (by assumption)) (by first | rfl | omega | (simp; done) | (simp; omega)) (by omega) (by first | omega | (simp; done) | (simp; omega))) rfl ?_
          refine DL.q rfl (Yld.fieldAddr fo32_6 rfl) rfl ?_
          refine DL.one0 rfl (Eff.storeRow (tc := 109) (j := 11) sz3 rfl rfl rfl hOy hlo rfl rfl rfl rfl rfl) (by rintro _ _ ⟨Ho1, hO1, rfl⟩; repeat (first | exact .nil | refine .cons rfl ?_)) ?_
          rintro _ _ ⟨Ho1, hO1, rfl⟩
          refine DL.q rfl (Yld.indexRow Tryd.underlying22 sz32 rfl rfl (by first | assumption | exact Own.sl (by assumption)) (by first | rfl | omega | (simp; done) | (simp; omega)) (by omega) (by first | omega | (simp; done) | (simp; omega))) rfl ?_
          refine DL.q rfl (Yld.fieldAddr fo32_4 rfl) rfl ?_
          refine DL.one0 rfl (Eff.storeRow (tc := 109) (j := 7) sz30 rfl rfl rfl hO1 hlo1 rfl rfl rfl rfl rfl) (by rintro _ _ ⟨Hb, hOb, rfl⟩; repeat (first | exact .nil | refine .cons rfl ?_)) ?_
          rintro _ _ ⟨Hb, hOb, rfl⟩
          have hOb2 : Own Hb y.p y.c 32 12 ((s.out.modify kk (respond x.i e.toEv)).map O.c) := by rw [← mod_rows ho (respond x.i e.toEv) _]; exact hOb
          refine DL.done ?_
          refine N.block_normal ?_
          refine N.next ?_
          refine W.keep (.cons (k := 0) rfl (.cons (k := 1) rfl (.cons (k := 5) rfl (.cons (k := 6) rfl .nil)))) (.cons (k := 0) rfl (.cons (k := 1) rfl (.cons (k := 107) rfl (.cons (k := 109) rfl .nil)))) ?_
          refine W.region ?_
          refine RL.q (Yld.move rfl) rfl ?_
          refine RL.q (Yld.bin rfl rfl (by first | exact BinV.add (by omega) (by omega) | exact BinV.addW)) rfl ?_
          refine RL.q (Yld.assign rfl) rfl ?_
          refine RL.nil ?_
          exact N.famK ⟨x.i + 1, Hb, y.p, y.c⟩ ⟨⟨by dsimp only; omega, by dsimp only; rw [hnx]; exact hOb2⟩, by dsimp only; omega⟩ (.as rfl (by show Value.slice _ _ _ = Value.slice _ _ _; rw [hnx]; simp) (.as rfl (by first | rfl | (simp; done) | (congr 1; simp; done) | (congr 1; omega)) .nil)) (.cons rfl (.cons rfl .nil)) (.cons rfl .nil) (.cons rfl (.cons rfl .nil))
        ·
          have hnone := ((hinv.ix hrx).resolve_right (fun ⟨k, h, _⟩ => by omega)).2
          have hnx := hsucc.trans (show ofStep g x.i e.toEv s = s by simp [ofStep, Decidable.not_not.1 hc23, hc41, hnone])
          refine W.skip ?_
          refine N.block_normal ?_
          refine N.next ?_
          refine W.keep (.cons (k := 0) rfl (.cons (k := 1) rfl (.cons (k := 5) rfl (.cons (k := 6) rfl .nil)))) (.cons (k := 0) rfl (.cons (k := 1) rfl (.cons (k := 107) rfl (.cons (k := 109) rfl .nil)))) ?_
          refine W.region ?_
          refine RL.q (Yld.move rfl) rfl ?_
          refine RL.q (Yld.bin rfl rfl (by first | exact BinV.add (by omega) (by omega) | exact BinV.addW)) rfl ?_
          refine RL.q (Yld.assign rfl) rfl ?_
          refine RL.nil ?_
          exact N.famK ⟨x.i + 1, y.H, y.p, y.c⟩ ⟨⟨by dsimp only; omega, by dsimp only; rw [hnx]; exact hOy⟩, by dsimp only; omega⟩ (.as rfl (by show Value.slice _ _ _ = Value.slice _ _ _; rw [hnx]) (.as rfl (by first | rfl | (simp; done) | (congr 1; simp; done) | (congr 1; omega)) .nil)) (.cons rfl (.cons rfl .nil)) (.cons rfl .nil) (.cons rfl (.cons rfl .nil))
      ·
        have hnx : ((ofN g (l.map EvC.toEv) (x.i + 1))).out = (if e.toEv.ek = 0 then s.out ++ [opOf g x.i e.toEv] else s.out) := by
          rw [hsucc]
          unfold ofStep
          rw [if_pos (Decidable.not_not.1 hc23), if_neg (show ¬ e.toEv.ek = 1 from hc41)]
          split <;> rfl
        refine W.skip ?_
        refine N.block_normal ?_
        refine N.next ?_
        refine W.keep (.cons (k := 0) rfl (.cons (k := 1) rfl (.cons (k := 5) rfl (.cons (k := 6) rfl .nil)))) (.cons (k := 0) rfl (.cons (k := 1) rfl (.cons (k := 107) rfl (.cons (k := 109) rfl .nil)))) ?_
        refine W.region ?_
        refine RL.q (Yld.move rfl) rfl ?_
        refine RL.q (Yld.bin rfl rfl (by first | exact BinV.add (by omega) (by omega) | exact BinV.addW)) rfl ?_
        refine RL.q (Yld.assign rfl) rfl ?_
        refine RL.nil ?_
        exact N.famK ⟨x.i + 1, y.H, y.p, y.c⟩ ⟨⟨by dsimp only; omega, by dsimp only; rw [hnx]; exact hOy⟩, by dsimp only; omega⟩ (.as rfl (by show Value.slice _ _ _ = Value.slice _ _ _; rw [hnx]) (.as rfl (by first | rfl | (simp; done) | (congr 1; simp; done) | (congr 1; omega)) .nil)) (.cons rfl (.cons rfl .nil)) (.cons rfl .nil) (.cons rfl (.cons rfl .nil))
  ·
    have hend : x.i = l.length := by omega
    refine W.exit ?_
    refine N.then_exit ?_
    refine N.then_exit ?_
    refine N.block_eq ?_
    refine N.next ?_
    refine W.keep (.cons (k := 5) rfl .nil) (.cons (k := 0) rfl (.cons (k := 1) rfl (.cons (k := 109) rfl .nil))) ?_
    refine W.seq ?_
    refine W.region ?_
    refine RL.q (Yld.move rfl) rfl ?_
    refine RL.q (Yld.assign rfl) rfl ?_
    refine RL.nil ?_
    refine N.next ?_
    refine W.ret ?_
    exact N.retBy [1, 109] (.cons (.tmp rfl) .nil) rfl rfl rfl rfl ⟨x.H, x.p, x.c, by rw [hend]; rfl, by rw [← hend]; exact hO, rfl⟩

set_option maxRecDepth 100000 in
set_option maxHeartbeats 400000 in
theorem groups_ct (l : List EvC) (hx : ∀ a ∈ l, a.ok) (hl40 : l.length ≤ 1000000) (H1 : PH) (p : Option Addr) (c : Nat) (hS : Sl H1 p c 22 (l.map EvC.c)) : Ct Tryd.prog 20 [.slice p l.length c] [H1] (fun v Hs => ∃ H' p' c', v = .slice p' (allL (gps (l.map EvC.toEv) l.length)).length c' ∧ Own H' p' c' 3 1 (iz (allL (gps (l.map EvC.toEv) l.length))) ∧ Hs = [H1, H']) := by
  refine Ct.body Tryd.func20 rfl Tryd.ntmps20 rfl ?_
  intro E F
  have hmax := hS.len_le
  simp only [List.length_map, maxLen] at hmax
  refine W.seq ?_
  refine W.region ?_
  refine RL.q (Yld.assign rfl) rfl ?_
  refine RL.nil ?_
  refine N.next ?_
  refine W.seq ?_
  refine W.region ?_
  refine RL.q (Yld.assign rfl) rfl ?_
  refine RL.nil ?_
  refine N.next ?_
  refine W.seq ?_
  refine W.seq ?_
  refine W.imp (Imp.empty _ 30) ?_
  refine W.region ?_
  refine RL.q (Yld.move rfl) rfl ?_
  refine RL.q (Yld.lenSl Tryd.underlying35 rfl) rfl ?_
  refine RL.q (Yld.move rfl) rfl ?_
  refine RL.nil ?_
  refine N.next ?_
  refine W.block ?_
  refine W.loopK (ι := RI) (fun x => (x.i ≤ l.length ∧ Own x.H x.p x.c 3 1 (iz (gps (l.map EvC.toEv) x.i)))) (fun x => [(3, .slice x.p (gps (l.map EvC.toEv) x.i).length x.c), (8, .int .i64 (x.i : Nat))]) (fun x => [(30, x.H)]) (fun x => l.length - x.i) (.cons (k := 6) rfl (.cons (k := 7) rfl .nil)) (.cons (k := 0) rfl (.cons (k := 1) rfl .nil)) ⟨0, emp, none, 0⟩ ?_ ?_ ?_ ?_
  · exact ⟨Nat.zero_le _, by rw [show gps (l.map EvC.toEv) 0 = [] by simp [gps]]; exact Own.nil _ _⟩
  · exact (.as rfl (by first | rfl | (simp; done) | (congr 1; simp; done) | (congr 1; omega)) (.as rfl (by first | rfl | (simp; done) | (congr 1; simp; done) | (congr 1; omega)) .nil))
  · exact (.cons rfl .nil)
  rintro x ⟨hi, hO⟩
  refine W.keep (.cons (k := 3) rfl (.cons (k := 8) rfl (.cons (k := 6) rfl (.cons (k := 7) rfl .nil)))) (.cons (k := 30) rfl (.cons (k := 0) rfl (.cons (k := 1) rfl .nil))) ?_
  refine W.seq ?_
  refine W.region ?_
  refine RL.q (Yld.bin rfl rfl BinV.lss) rfl ?_
  refine RL.nil ?_
  refine N.next ?_
  refine W.seq ?_
  first | refine W.condD rfl (fun hc9 => ?_) (fun hc9 => ?_) | (refine W.cond rfl (fun hc9 => ?_) (fun hc9 => ?_) <;> try simp only [Bool.or_eq_true, Bool.and_eq_true, Bool.not_eq_true', Bool.not_eq_false', decide_eq_true_eq, Bool.or_eq_false_iff, Bool.and_eq_false_iff, decide_eq_false_iff_not, beq_iff_eq, beq_eq_false_iff_ne, ne_eq, Decidable.not_not] at hc9)
  ·
    obtain ⟨e, he⟩ : ∃ e, l[x.i]? = some e := ⟨_, List.getElem?_eq_getElem (show x.i < l.length by omega)⟩
    have hle : (l.map EvC.c)[x.i]? = some [.int .i64 e.ek, .int .i64 e.mach, .int .i64 e.cl, .int .i64 e.nu, .int .i64 e.gr, .int .i64 e.kd, .string e.key, .int .i64 e.val, .int .i64 e.old, .int .i64 e.code, .bool e.fnd, .int .i64 e.rv, e.x0, e.x1, e.x2, e.x3, e.x4, e.x5, e.x6, e.x7, e.x8, e.x9] := by simp [he, EvC.c]
    have hVe : (l.map EvC.toEv)[x.i]? = some e.toEv := by simp [he]
    obtain ⟨hx0, hx1, hx2, hx3, hx4, hx5, hx6, hx7, hx8, hx9⟩ := hx _ (List.mem_of_getElem? he)
    have hgs := gps_succ hVe
    have hgl := gps_len (l := l.map EvC.toEv) x.i
    refine W.skip ?_
    refine N.next ?_
    refine W.seq ?_
    refine W.block ?_
    refine W.seq ?_
    refine W.region ?_
    refine RL.q (Yld.indexRow Tryd.underlying35 sz47 rfl rfl (by first | assumption | exact Own.sl (by assumption)) (by first | rfl | omega | (simp; done) | (simp; omega)) (by omega) (by first | omega | (simp; done) | (simp; omega))) rfl ?_
    refine RL.q (by first | exact Yld.loadRow (cl := 1) Tryd.underlying47 rfl sz47 rfl rfl (by first | assumption | exact Own.sl (by assumption)) (by assumption) | exact Yld.loadRow (cl := 30) Tryd.underlying47 rfl sz47 rfl rfl (by first | assumption | exact Own.sl (by assumption)) (by assumption)) rfl ?_
    refine RL.e (Eff.alloc 105 zc47) rfl ?_
    rintro _ _ ⟨b5, rfl, rfl⟩
    refine RL.e0 (Eff.storeS (c := 105) _ sz47 rfl rfl rfl rfl rfl rfl (by first | rfl | (simp only [List.all_cons, List.all_nil, hx0, hx1, hx2, hx3, hx4, hx5, hx6, hx7, hx8, hx9, Bool.and_true, Bool.true_and]; rfl)) (by (try simp only [putAt, List.take, List.drop, List.nil_append, List.cons_append, List.append_nil, List.length_cons, List.length_nil, Nat.add_zero, Nat.zero_add, Nat.reduceAdd]); rfl)) ?_
    rintro _ _ rfl
    refine RL.nil ?_
    refine N.next ?_
    refine W.seq ?_
    refine W.region ?_
    refine RL.q (Yld.fieldAddr fo47_0 rfl) rfl ?_
    refine RL.q (Yld.load1 (c := 105) Tryd.underlying3 rfl rfl rfl (by first | exact single_self _ _ | exact pset_self _ _ _ | assumption) rfl) rfl ?_
    refine RL.q (Yld.bin rfl rfl BinV.eql) rfl ?_
    refine RL.nil ?_
    refine N.next ?_
    refine W.keep (.cons (k := 3) rfl (.cons (k := 5) rfl (.cons (k := 6) rfl (.cons (k := 7) rfl (.cons (k := 8) rfl (.cons (k := 14) rfl .nil)))))) (.cons (k := 0) rfl (.cons (k := 1) rfl (.cons (k := 30) rfl (.cons (k := 105) rfl .nil)))) ?_
    first | refine W.condD rfl (fun hc14 => ?_) (fun hc14 => ?_) | (refine W.cond rfl (fun hc14 => ?_) (fun hc14 => ?_) <;> try simp only [Bool.or_eq_true, Bool.and_eq_true, Bool.not_eq_true', Bool.not_eq_false', decide_eq_true_eq, Bool.or_eq_false_iff, Bool.and_eq_false_iff, decide_eq_false_iff_not, beq_iff_eq, beq_eq_false_iff_ne, ne_eq, Decidable.not_not] at hc14)
    ·
      rw [if_pos hc14] at hgs
      refine W.region ?_
      refine RL.q (Yld.move rfl) rfl ?_
      refine RL.q (Yld.fieldAddr fo47_4 rfl) rfl ?_
      refine RL.q (Yld.load1 (c := 105) Tryd.underlying3 rfl rfl rfl (by first | exact single_self _ _ | exact pset_self _ _ _ | assumption) rfl) rfl ?_
      refine RL.e (Eff.buildSlice 118 Tryd.underlying41 sz3 zc3 rfl rfl (.cons rfl rfl .nil) rfl) rfl ?_
      rintro _ _ ⟨b18, rfl, rfl⟩
      refine RL.e (Eff.appendE (tc := 30) (sc := 118) (fun z : Int => [Value.int .i64 z]) Tryd.underlying41 el3 rfl rfl rfl rfl hO rfl (iz_single rfl) rfl (iz_one1 _) (by decide) (by first | (simp; done) | (simp; omega)) (by first | (simp [maxLen]; done) | (simp [maxLen]; omega))) rfl ?_
      rintro _ _ ⟨Ha, pa, ca, rfl, hOa, rfl⟩
      refine RL.q (Yld.assign rfl) rfl ?_
      refine RL.nil ?_
      refine N.block_normal ?_
      refine N.next ?_
      refine W.keep (.cons (k := 3) rfl (.cons (k := 6) rfl (.cons (k := 7) rfl (.cons (k := 8) rfl .nil)))) (.cons (k := 0) rfl (.cons (k := 1) rfl (.cons (k := 30) rfl (.cons (k := 105) rfl (.cons (k := 118) rfl .nil))))) ?_
      refine W.region ?_
      refine RL.q (Yld.bin rfl rfl (by first | exact BinV.add (by omega) (by omega) | exact BinV.addW)) rfl ?_
      refine RL.q (Yld.move rfl) rfl ?_
      refine RL.nil ?_
      exact N.famK ⟨x.i + 1, Ha, pa, ca⟩ ⟨⟨by dsimp only; omega, by dsimp only; rw [hgs]; exact hOa⟩, by dsimp only; omega⟩ (.as rfl (by show Value.slice _ _ _ = Value.slice _ _ _; rw [hgs]) (.as rfl (by first | rfl | (simp; done) | (congr 1; simp; done) | (congr 1; omega)) .nil)) (.cons rfl (.cons rfl .nil)) (.cons rfl .nil) (.cons rfl (.cons rfl .nil))
    ·
      rw [if_neg hc14] at hgs
      refine W.skip ?_
      refine N.block_normal ?_
      refine N.next ?_
      refine W.region ?_
      refine RL.q (Yld.bin rfl rfl (by first | exact BinV.add (by omega) (by omega) | exact BinV.addW)) rfl ?_
      refine RL.q (Yld.move rfl) rfl ?_
      refine RL.nil ?_
      exact N.famK ⟨x.i + 1, x.H, x.p, x.c⟩ ⟨⟨by dsimp only; omega, by dsimp only; rw [hgs]; exact hO⟩, by dsimp only; omega⟩ (.as rfl (by show Value.slice _ _ _ = Value.slice _ _ _; rw [hgs]) (.as rfl (by first | rfl | (simp; done) | (congr 1; simp; done) | (congr 1; omega)) .nil)) (.cons rfl (.cons rfl .nil)) (.cons rfl .nil) (.cons rfl (.cons rfl .nil))
  ·
    have hend : x.i = l.length := by omega
    have hgl := gps_len (l := l.map EvC.toEv) x.i
    rw [hend] at hO hgl ⊢
    refine W.exit ?_
    refine N.then_exit ?_
    refine N.then_exit ?_
    refine N.block_eq ?_
    refine N.next ?_
    refine W.keep (.cons (k := 3) rfl .nil) (.cons (k := 0) rfl (.cons (k := 1) rfl (.cons (k := 30) rfl .nil))) ?_
    refine W.seq ?_
    refine W.region ?_
    refine RL.q (Yld.move rfl) rfl ?_
    refine RL.e (Eff.call ent42 [30] [30] (.cons rfl .nil) (sort_ct _ _ _ _ hO (by omega)) rfl rfl rfl rfl (by rintro _ _ ⟨_, _, _, rfl⟩; rfl)) rfl ?_
    rintro _ _ ⟨_, ⟨rfl, Hs1, hOs, rfl⟩, rfl⟩
    refine RL.nil ?_
    refine N.next ?_
    refine W.seq ?_
    refine W.region ?_
    refine RL.q (Yld.move rfl) rfl ?_
    refine RL.e (Eff.call ent43 [30] [30] (.cons rfl .nil) (compact_ct _ _ _ _ _ (srt_len _).symm hOs) rfl rfl rfl rfl (by rintro _ _ ⟨_, _, _, rfl⟩; rfl)) rfl ?_
    rintro _ _ ⟨_, ⟨Hc, rfl, hOc, rfl⟩, rfl⟩
    refine RL.q (Yld.assign rfl) rfl ?_
    refine RL.nil ?_
    refine N.next ?_
    refine W.keep (.cons (k := 2) rfl .nil) (.cons (k := 0) rfl (.cons (k := 1) rfl (.cons (k := 30) rfl .nil))) ?_
    refine W.ret ?_
    exact N.retBy [1, 30] (.cons (.tmp rfl) .nil) rfl rfl rfl rfl ⟨_, _, _, rfl, hOc, rfl⟩

structure HistLaw.GI where
  i : Nat
  H : PH
  p : Option Addr
  c : Nat
  s : List Int

set_option maxRecDepth 100000 in
set_option maxHeartbeats 1600000 in
theorem rgroups_ct (l : List EvC) (hl40 : l.length ≤ 1000000) (H1 : PH) (p : Option Addr) (c : Nat) (hS : Sl H1 p c 22 (l.map EvC.c)) : Ct Tryd.prog 21 [.slice p l.length c] [H1] (fun v Hs => ∃ H' p' c', v = .slice p' (allL (gps (l.map EvC.toEv) l.length)).length c' ∧ Own H' p' c' 3 1 (iz (allL (gps (l.map EvC.toEv) l.length))) ∧ Hs = [H1, H']) := by
  refine Ct.body Tryd.func21 rfl Tryd.ntmps21 rfl ?_
  intro E F
  have hmax := hS.len_le
  simp only [List.length_map, maxLen] at hmax
  refine W.seq ?_
  refine W.region ?_
  refine RL.q (Yld.assign rfl) rfl ?_
  refine RL.nil ?_
  refine N.next ?_
  refine W.seq ?_
  refine W.region ?_
  refine RL.e (Eff.buildSlice 106 Tryd.underlying41 sz3 zc3 rfl rfl .nil rfl) rfl ?_
  rintro _ _ ⟨b6, rfl, rfl⟩
  refine RL.q (Yld.assign rfl) rfl ?_
  refine RL.nil ?_
  refine N.next ?_
  refine W.seq ?_
  refine W.seq ?_
  refine W.region ?_
  refine RL.q (Yld.assign rfl) rfl ?_
  refine RL.nil ?_
  refine N.next ?_
  refine W.block ?_
  refine W.loopK (ι := GI) (fun x => (x.i ≤ l.length ∧ Own x.H x.p x.c 3 1 (iz x.s) ∧ IsAll (gps (l.map EvC.toEv) x.i) x.s)) (fun x => [(3, .slice x.p x.s.length x.c), (4, .int .i64 (x.i : Nat))]) (fun x => [(106, x.H)]) (fun x => l.length - x.i) (.cons (k := 0) rfl .nil) (.cons (k := 0) rfl (.cons (k := 1) rfl .nil)) ⟨0, single b6 (.cells [].toArray 3 (0, 0)), some ⟨b6, 0, none⟩, 0, []⟩ ?_ ?_ ?_ ?_
  · exact ⟨Nat.zero_le _, iz_none rfl, by simpa [gps] using IsAll.nil⟩
  · exact (.as rfl (by first | rfl | (simp; done) | (congr 1; simp; done) | (congr 1; omega)) (.as rfl (by first | rfl | (simp; done) | (congr 1; simp; done) | (congr 1; omega)) .nil))
  · exact (.cons rfl .nil)
  rintro x ⟨hi, hO, hs⟩
  refine W.keep (.cons (k := 3) rfl (.cons (k := 4) rfl (.cons (k := 0) rfl .nil))) (.cons (k := 106) rfl (.cons (k := 0) rfl (.cons (k := 1) rfl .nil))) ?_
  refine W.seq ?_
  refine W.seq ?_
  refine W.region ?_
  refine RL.q (Yld.move rfl) rfl ?_
  refine RL.q (Yld.move rfl) rfl ?_
  refine RL.q (Yld.lenSl Tryd.underlying35 rfl) rfl ?_
  refine RL.q (Yld.bin rfl rfl BinV.lss) rfl ?_
  refine RL.nil ?_
  refine N.next ?_
  first | refine W.condD rfl (fun hc10 => ?_) (fun hc10 => ?_) | (refine W.cond rfl (fun hc10 => ?_) (fun hc10 => ?_) <;> try simp only [Bool.or_eq_true, Bool.and_eq_true, Bool.not_eq_true', Bool.not_eq_false', decide_eq_true_eq, Bool.or_eq_false_iff, Bool.and_eq_false_iff, decide_eq_false_iff_not, beq_iff_eq, beq_eq_false_iff_ne, ne_eq, Decidable.not_not] at hc10)
  ·
    obtain ⟨e, he⟩ : ∃ e, l[x.i]? = some e := ⟨_, List.getElem?_eq_getElem (show x.i < l.length by omega)⟩
    have hle : (l.map EvC.c)[x.i]? = some [.int .i64 e.ek, .int .i64 e.mach, .int .i64 e.cl, .int .i64 e.nu, .int .i64 e.gr, .int .i64 e.kd, .string e.key, .int .i64 e.val, .int .i64 e.old, .int .i64 e.code, .bool e.fnd, .int .i64 e.rv, e.x0, e.x1, e.x2, e.x3, e.x4, e.x5, e.x6, e.x7, e.x8, e.x9] := by simp [he, EvC.c]
    have hVe : (l.map EvC.toEv)[x.i]? = some e.toEv := by simp [he]
    have hgs := gps_succ hVe
    have hgl := gps_len (l := l.map EvC.toEv) x.i
    have hsl := hs.len
    have hcx := hO.sl.len_le
    simp only [iz_len, maxLen] at hcx
    refine W.skip ?_
    refine N.next ?_
    refine W.keep (.cons (k := 0) rfl (.cons (k := 3) rfl (.cons (k := 4) rfl .nil))) (.cons (k := 0) rfl (.cons (k := 1) rfl (.cons (k := 106) rfl .nil))) ?_
    refine W.seq ?_
    refine W.block ?_
    refine W.seq ?_
    refine W.seq ?_
    refine W.region ?_
    refine RL.q (Yld.move rfl) rfl ?_
    refine RL.q (Yld.move rfl) rfl ?_
    refine RL.q (Yld.indexRow Tryd.underlying35 sz47 rfl rfl (by first | assumption | exact Own.sl (by assumption)) (by first | rfl | omega | (simp; done) | (simp; omega)) (by omega) (by first | omega | (simp; done) | (simp; omega))) rfl ?_
    refine RL.q (Yld.fieldAddr fo47_0 rfl) rfl ?_
    refine RL.q (by first | exact (by first | exact Yld.loadRow1 (cl := 1) Tryd.underlying3 rfl rfl rfl (by first | assumption | exact Own.sl (by assumption)) (by assumption) | exact Yld.loadRow1 (cl := 106) Tryd.underlying3 rfl rfl rfl (by first | assumption | exact Own.sl (by assumption)) (by assumption)) | exact (by first | exact Yld.loadRowF (cl := 1) (j := 0) Tryd.underlying3 rfl rfl rfl (by first | assumption | exact Own.sl (by assumption)) (by assumption) rfl | exact Yld.loadRowF (cl := 106) (j := 0) Tryd.underlying3 rfl rfl rfl (by first | assumption | exact Own.sl (by assumption)) (by assumption) rfl)) rfl ?_
    refine RL.q (Yld.bin rfl rfl BinV.neq) rfl ?_
    refine RL.nil ?_
    refine N.next ?_
    refine W.keep (.cons (k := 0) rfl (.cons (k := 3) rfl (.cons (k := 4) rfl (.cons (k := 18) rfl .nil)))) (.cons (k := 0) rfl (.cons (k := 1) rfl (.cons (k := 106) rfl .nil))) ?_
    first | refine W.condD rfl (fun hc18 => ?_) (fun hc18 => ?_) | (refine W.cond rfl (fun hc18 => ?_) (fun hc18 => ?_) <;> try simp only [Bool.or_eq_true, Bool.and_eq_true, Bool.not_eq_true', Bool.not_eq_false', decide_eq_true_eq, Bool.or_eq_false_iff, Bool.and_eq_false_iff, decide_eq_false_iff_not, beq_iff_eq, beq_eq_false_iff_ne, ne_eq, Decidable.not_not] at hc18)
    ·
      refine W.exit ?_
      refine N.then_exit ?_
      refine N.block_eq ?_
      refine N.next ?_
      refine W.region ?_
      refine RL.q (Yld.move rfl) rfl ?_
      refine RL.q (Yld.bin rfl rfl (by first | exact BinV.add (by omega) (by omega) | exact BinV.addW)) rfl ?_
      refine RL.q (Yld.assign rfl) rfl ?_
      refine RL.nil ?_
      exact N.famK ⟨x.i + 1, x.H, x.p, x.c, x.s⟩ ⟨⟨by dsimp only; omega, hO, by dsimp only; rw [hgs, if_neg hc18]; exact hs⟩, by dsimp only; omega⟩ (.as rfl (by first | rfl | (simp; done) | (congr 1; simp; done) | (congr 1; omega)) (.as rfl (by first | rfl | (simp; done) | (congr 1; simp; done) | (congr 1; omega)) .nil)) (.cons rfl .nil) (.cons rfl .nil) (.cons rfl (.cons rfl .nil))
    ·
      have hek : e.toEv.ek = 0 := Decidable.not_not.1 hc18
      refine W.skip ?_
      refine N.next ?_
      refine W.seq ?_
      refine W.region ?_
      refine RL.q (Yld.assign rfl) rfl ?_
      refine RL.nil ?_
      refine N.next ?_
      refine W.seq ?_
      refine W.block ?_
      refine W.loopK (ι := Nat) (fun k => (k ≤ x.s.length ∧ ∀ (i : Nat) y, i < k → x.s[i]? = some y → y < e.gr)) (fun k => [(5, .int .i64 (k : Nat))]) (fun k => []) (fun k => x.s.length - k) (.cons (k := 0) rfl (.cons (k := 3) rfl (.cons (k := 4) rfl .nil))) (.cons (k := 0) rfl (.cons (k := 1) rfl (.cons (k := 106) rfl .nil))) 0 ?_ ?_ ?_ ?_
      · exact ⟨Nat.zero_le _, upto0⟩
      · exact (.as rfl (by first | rfl | (simp; done) | (congr 1; simp; done) | (congr 1; omega)) .nil)
      · exact .nil
      rintro k ⟨hk, hkI⟩
      refine W.keep (.cons (k := 5) rfl (.cons (k := 0) rfl (.cons (k := 3) rfl (.cons (k := 4) rfl .nil)))) (.cons (k := 0) rfl (.cons (k := 1) rfl (.cons (k := 106) rfl .nil))) ?_
      refine W.seq ?_
      refine W.seq ?_
      refine W.draw (.q 0 (.q 1 (.q 2 (.q 3 (.q 4 (.q 5 (.q 6 (.q 7 (.q 8 (.q 9 (.q 10 (.q 11 (.q 12 (.q 13 (.q 14 (.q 15 .done)))))))))))))))) (.cons (k := 0) rfl (.cons (k := 1) rfl (.cons (k := 106) rfl .nil))) mix (by kernel_rfl) (by kernel_rfl) ?_
      refine DL.q rfl (Yld.move rfl) rfl ?_
      refine DL.q rfl (Yld.move rfl) rfl ?_
      refine DL.q rfl (Yld.lenSl Tryd.underlying41 rfl) rfl ?_
      refine DL.q rfl (Yld.bin rfl rfl BinV.lss) rfl ?_
      refine DL.q rfl (Yld.move rfl) rfl ?_
      refine' DL.and (t := 23) (d := 34) 11 rfl (.cons (k := 0) rfl (.cons (k := 3) rfl (.cons (k := 4) rfl (.cons (k := 5) rfl (.cons (k := 19) rfl (.cons (k := 20) rfl (.cons (k := 21) rfl (.cons (k := 22) rfl .nil)))))))) (.cons (k := 0) rfl (.cons (k := 1) rfl (.cons (k := 106) rfl .nil))) ?_ ?_ ?_
      rotate_left 1
      ·
        intro hg23
        have hg23 := of_decide_eq_true hg23
        have hly := iz_getD (show k < x.s.length by omega)
        refine DL.gq rfl rfl rfl (Yld.move rfl) rfl ?_
        refine DL.gq rfl rfl rfl (Yld.move rfl) rfl ?_
        refine DL.gq rfl rfl rfl (Yld.indexRow Tryd.underlying41 sz3 rfl rfl (by first | assumption | exact Own.sl (by assumption)) (by first | rfl | omega | (simp; done) | (simp; omega)) (by omega) (by first | omega | (simp; done) | (simp; omega))) rfl ?_
        refine DL.gq rfl rfl rfl (by first | exact (by first | exact Yld.loadRow1 (cl := 1) Tryd.underlying3 rfl rfl rfl (by first | assumption | exact Own.sl (by assumption)) (by assumption) | exact Yld.loadRow1 (cl := 106) Tryd.underlying3 rfl rfl rfl (by first | assumption | exact Own.sl (by assumption)) (by assumption)) | exact (by first | exact Yld.loadRowF (cl := 1) (j := 0) Tryd.underlying3 rfl rfl rfl (by first | assumption | exact Own.sl (by assumption)) (by assumption) rfl | exact Yld.loadRowF (cl := 106) (j := 0) Tryd.underlying3 rfl rfl rfl (by first | assumption | exact Own.sl (by assumption)) (by assumption) rfl)) rfl ?_
        refine DL.gq rfl rfl rfl (Yld.move rfl) rfl ?_
        refine DL.gq rfl rfl rfl (Yld.move rfl) rfl ?_
        refine DL.gq rfl rfl rfl (Yld.indexRow Tryd.underlying35 sz47 rfl rfl (by first | assumption | exact Own.sl (by assumption)) (by first | rfl | omega | (simp; done) | (simp; omega)) (by omega) (by first | omega | (simp; done) | (simp; omega))) rfl ?_
        refine DL.gq rfl rfl rfl (Yld.fieldAddr fo47_4 rfl) rfl ?_
        refine DL.gq rfl rfl rfl (by first | exact Yld.loadRowF (cl := 1) (j := 4) Tryd.underlying3 rfl rfl rfl (by first | assumption | exact Own.sl (by assumption)) (by assumption) rfl | exact Yld.loadRowF (cl := 106) (j := 4) Tryd.underlying3 rfl rfl rfl (by first | assumption | exact Own.sl (by assumption)) (by assumption) rfl) rfl ?_
        refine DL.gq rfl rfl rfl (Yld.bin rfl rfl BinV.lss) rfl ?_
        refine DL.q rfl (by first | exact Yld.pickT rfl rfl | exact Yld.pickF rfl rfl) rfl ?_
        exact DL.meet (.cons rfl (.cons rfl (.cons rfl (.cons rfl (.cons rfl (.cons rfl (.cons rfl (.cons rfl (.cons rfl .nil))))))))) (.cons rfl (.cons rfl (.cons rfl .nil)))
      ·
        intro hg23
        refine DL.gskip rfl rfl rfl rfl rfl ?_
        refine DL.gskip rfl rfl rfl rfl rfl ?_
        refine DL.gskip rfl rfl rfl rfl rfl ?_
        refine DL.gskip rfl rfl rfl rfl rfl ?_
        refine DL.gskip rfl rfl rfl rfl rfl ?_
        refine DL.gskip rfl rfl rfl rfl rfl ?_
        refine DL.gskip rfl rfl rfl rfl rfl ?_
        refine DL.gskip rfl rfl rfl rfl rfl ?_
        refine DL.gskip rfl rfl rfl rfl rfl ?_
        refine DL.gskip rfl rfl rfl rfl rfl ?_
        refine DL.q rfl (by first | exact Yld.pickT rfl rfl | exact Yld.pickF rfl rfl) rfl ?_
        exact DL.meet (.cons rfl (.cons rfl (.cons rfl (.cons rfl (.cons rfl (.cons rfl (.cons rfl (.cons rfl (.cons rfl .nil))))))))) (.cons rfl (.cons rfl (.cons rfl .nil)))
      refine DL.done ?_
      refine N.next ?_
      refine W.keep (.cons (k := 0) rfl (.cons (k := 3) rfl (.cons (k := 4) rfl (.cons (k := 5) rfl (.cons (k := 34) rfl .nil))))) (.cons (k := 0) rfl (.cons (k := 1) rfl (.cons (k := 106) rfl .nil))) ?_
      first | refine W.condD rfl (fun hc34 => ?_) (fun hc34 => ?_) | (refine W.cond rfl (fun hc34 => ?_) (fun hc34 => ?_) <;> try simp only [Bool.or_eq_true, Bool.and_eq_true, Bool.not_eq_true', Bool.not_eq_false', decide_eq_true_eq, Bool.or_eq_false_iff, Bool.and_eq_false_iff, decide_eq_false_iff_not, beq_iff_eq, beq_eq_false_iff_ne, ne_eq, Decidable.not_not] at hc34)
      ·
        refine W.skip ?_
        refine N.next ?_
        refine W.block ?_
        refine W.region ?_
        refine RL.q (Yld.move rfl) rfl ?_
        refine RL.q (Yld.bin rfl rfl (by first | exact BinV.add (by omega) (by omega) | exact BinV.addW)) rfl ?_
        refine RL.q (Yld.assign rfl) rfl ?_
        refine RL.nil ?_
        refine N.block_normal ?_
        exact N.famK (k + 1) ⟨⟨by omega, upto hkI (List.getElem?_eq_getElem (show k < x.s.length by omega)) (by have h := hc34.2; rw [List.getD_eq_getElem?_getD, List.getElem?_eq_getElem (show k < x.s.length by omega)] at h; exact h)⟩, by omega⟩ (.as rfl (by first | rfl | (simp; done) | (congr 1; simp; done) | (congr 1; omega)) .nil) (.cons rfl (.cons rfl (.cons rfl .nil))) .nil (.cons rfl (.cons rfl (.cons rfl .nil)))
      ·
        have hge : ∀ z, x.s[k]? = some z → ¬ z < e.gr := fun z hz h => hc34.elim (fun h1 => h1 (by have := (List.getElem?_eq_some_iff.1 hz).1; omega)) (fun h1 => h1 (by rw [List.getD_eq_getElem?_getD, hz]; exact h))
        refine W.exit ?_
        refine N.then_exit ?_
        refine N.then_exit ?_
        refine N.block_eq ?_
        refine N.next ?_
        refine W.seq ?_
        refine W.draw (.q 0 (.q 1 (.q 2 (.q 3 (.q 4 (.q 5 (.q 6 (.q 7 (.q 8 (.q 9 (.q 10 (.q 11 (.q 12 (.q 13 (.q 14 (.q 15 .done)))))))))))))))) (.cons (k := 0) rfl (.cons (k := 1) rfl (.cons (k := 106) rfl .nil))) mix (by kernel_rfl) (by kernel_rfl) ?_
        refine DL.q rfl (Yld.move rfl) rfl ?_
        refine DL.q rfl (Yld.move rfl) rfl ?_
        refine DL.q rfl (Yld.lenSl Tryd.underlying41 rfl) rfl ?_
        refine DL.q rfl (Yld.bin rfl rfl BinV.eql) rfl ?_
        refine DL.q rfl (Yld.move rfl) rfl ?_
        refine' DL.or (t := 41) (d := 52) 11 rfl (.cons (k := 0) rfl (.cons (k := 3) rfl (.cons (k := 4) rfl (.cons (k := 5) rfl (.cons (k := 34) rfl (.cons (k := 37) rfl (.cons (k := 38) rfl (.cons (k := 39) rfl (.cons (k := 40) rfl .nil))))))))) (.cons (k := 0) rfl (.cons (k := 1) rfl (.cons (k := 106) rfl .nil))) ?_ ?_ ?_
        rotate_left 1
        ·
          intro hg41
          have hg41 := of_decide_eq_false hg41
          have hly := iz_getD (show k < x.s.length by omega)
          refine DL.gq rfl rfl rfl (Yld.move rfl) rfl ?_
          refine DL.gq rfl rfl rfl (Yld.move rfl) rfl ?_
          refine DL.gq rfl rfl rfl (Yld.indexRow Tryd.underlying41 sz3 rfl rfl (by first | assumption | exact Own.sl (by assumption)) (by first | rfl | omega | (simp; done) | (simp; omega)) (by omega) (by first | omega | (simp; done) | (simp; omega))) rfl ?_
          refine DL.gq rfl rfl rfl (by first | exact (by first | exact Yld.loadRow1 (cl := 1) Tryd.underlying3 rfl rfl rfl (by first | assumption | exact Own.sl (by assumption)) (by assumption) | exact Yld.loadRow1 (cl := 106) Tryd.underlying3 rfl rfl rfl (by first | assumption | exact Own.sl (by assumption)) (by assumption)) | exact (by first | exact Yld.loadRowF (cl := 1) (j := 0) Tryd.underlying3 rfl rfl rfl (by first | assumption | exact Own.sl (by assumption)) (by assumption) rfl | exact Yld.loadRowF (cl := 106) (j := 0) Tryd.underlying3 rfl rfl rfl (by first | assumption | exact Own.sl (by assumption)) (by assumption) rfl)) rfl ?_
          refine DL.gq rfl rfl rfl (Yld.move rfl) rfl ?_
          refine DL.gq rfl rfl rfl (Yld.move rfl) rfl ?_
          refine DL.gq rfl rfl rfl (Yld.indexRow Tryd.underlying35 sz47 rfl rfl (by first | assumption | exact Own.sl (by assumption)) (by first | rfl | omega | (simp; done) | (simp; omega)) (by omega) (by first | omega | (simp; done) | (simp; omega))) rfl ?_
          refine DL.gq rfl rfl rfl (Yld.fieldAddr fo47_4 rfl) rfl ?_
          refine DL.gq rfl rfl rfl (by first | exact Yld.loadRowF (cl := 1) (j := 4) Tryd.underlying3 rfl rfl rfl (by first | assumption | exact Own.sl (by assumption)) (by assumption) rfl | exact Yld.loadRowF (cl := 106) (j := 4) Tryd.underlying3 rfl rfl rfl (by first | assumption | exact Own.sl (by assumption)) (by assumption) rfl) rfl ?_
          refine DL.gq rfl rfl rfl (Yld.bin rfl rfl BinV.neq) rfl ?_
          refine DL.q rfl (by first | exact Yld.pickT rfl rfl | exact Yld.pickF rfl rfl) rfl ?_
          exact DL.meet (.cons rfl (.cons rfl (.cons rfl (.cons rfl (.cons rfl (.cons rfl (.cons rfl (.cons rfl (.cons rfl (.cons rfl .nil)))))))))) (.cons rfl (.cons rfl (.cons rfl .nil)))
        ·
          intro hg41
          refine DL.gskip rfl rfl rfl rfl rfl ?_
          refine DL.gskip rfl rfl rfl rfl rfl ?_
          refine DL.gskip rfl rfl rfl rfl rfl ?_
          refine DL.gskip rfl rfl rfl rfl rfl ?_
          refine DL.gskip rfl rfl rfl rfl rfl ?_
          refine DL.gskip rfl rfl rfl rfl rfl ?_
          refine DL.gskip rfl rfl rfl rfl rfl ?_
          refine DL.gskip rfl rfl rfl rfl rfl ?_
          refine DL.gskip rfl rfl rfl rfl rfl ?_
          refine DL.gskip rfl rfl rfl rfl rfl ?_
          refine DL.q rfl (by first | exact Yld.pickT rfl rfl | exact Yld.pickF rfl rfl) rfl ?_
          exact DL.meet (.cons rfl (.cons rfl (.cons rfl (.cons rfl (.cons rfl (.cons rfl (.cons rfl (.cons rfl (.cons rfl (.cons rfl .nil)))))))))) (.cons rfl (.cons rfl (.cons rfl .nil)))
        refine DL.done ?_
        refine N.next ?_
        refine W.keep (.cons (k := 0) rfl (.cons (k := 3) rfl (.cons (k := 4) rfl (.cons (k := 5) rfl (.cons (k := 52) rfl .nil))))) (.cons (k := 0) rfl (.cons (k := 1) rfl (.cons (k := 106) rfl .nil))) ?_
        first | refine W.condD rfl (fun hc52 => ?_) (fun hc52 => ?_) | (refine W.cond rfl (fun hc52 => ?_) (fun hc52 => ?_) <;> try simp only [Bool.or_eq_true, Bool.and_eq_true, Bool.not_eq_true', Bool.not_eq_false', decide_eq_true_eq, Bool.or_eq_false_iff, Bool.and_eq_false_iff, decide_eq_false_iff_not, beq_iff_eq, beq_eq_false_iff_ne, ne_eq, Decidable.not_not] at hc52)
        ·
          have hnin : e.gr ∉ x.s := sorted_notin hs.sorted hkI fun z hz => ⟨hge z hz, fun e2 => hc52.elim (fun h1 => by have := (List.getElem?_eq_some_iff.1 hz).1; omega) (fun h1 => h1 (by rw [List.getD_eq_getElem?_getD, hz]; exact e2))⟩
          refine W.draw (.q 1 (.q 2 (.q 3 (.q 5 (.q 6 (.q 7 (.q 8 (.q 9 (.q 12 (.q 13 (.q 14 (.two 0 (.two 4 (.one 10 (.one 11 (.one 15 (.q 16 .done)))) 10 (.one 4 (.one 11 (.one 15 (.q 16 .done))))) 10 (.one 0 (.one 4 (.one 11 (.one 15 (.q 16 .done))))))))))))))))) (.cons (k := 0) rfl (.cons (k := 1) rfl (.cons (k := 106) rfl .nil))) mix (by kernel_rfl) (by kernel_rfl) ?_
          refine DL.q rfl (Yld.move rfl) rfl ?_
          refine DL.q rfl (Yld.move rfl) rfl ?_
          refine DL.q rfl (Yld.sliceH Tryd.underlying41 sz3 rfl rfl (by omega) (by first | omega | (simp; done) | (simp; omega))) rfl ?_
          refine DL.q rfl (Yld.move rfl) rfl ?_
          refine DL.q rfl (Yld.move rfl) rfl ?_
          refine DL.q rfl (Yld.indexRow Tryd.underlying35 sz47 rfl rfl (by first | assumption | exact Own.sl (by assumption)) (by first | rfl | omega | (simp; done) | (simp; omega)) (by omega) (by first | omega | (simp; done) | (simp; omega))) rfl ?_
          refine DL.q rfl (Yld.fieldAddr fo47_4 rfl) rfl ?_
          refine DL.q rfl (by first | exact Yld.loadRowF (cl := 1) (j := 4) Tryd.underlying3 rfl rfl rfl (by first | assumption | exact Own.sl (by assumption)) (by assumption) rfl | exact Yld.loadRowF (cl := 106) (j := 4) Tryd.underlying3 rfl rfl rfl (by first | assumption | exact Own.sl (by assumption)) (by assumption) rfl) rfl ?_
          refine DL.q rfl (Yld.move rfl) rfl ?_
          refine DL.q rfl (Yld.move rfl) rfl ?_
          refine DL.q rfl (Yld.sliceL Tryd.underlying41 sz3 rfl rfl (by omega) (by first | omega | (simp; done) | (simp; omega))) rfl ?_
          refine DL.two ?_ ?_
          ·
            refine DL.one rfl (Eff.buildSlice 153 Tryd.underlying41 sz3 zc3 rfl rfl .nil rfl) rfl (by rintro _ _ ⟨b53, rfl, rfl⟩; repeat (first | exact .nil | refine .cons rfl ?_)) ?_
            rintro _ _ ⟨b53, rfl, rfl⟩
            refine DL.two ?_ ?_
            ·
              refine DL.one rfl (Eff.appendE (tc := 153) (sc := 106) (fun z : Int => [Value.int .i64 z]) Tryd.underlying41 el3 rfl rfl rfl rfl (iz_none rfl) rfl (iz_take _ _ ▸ hO.sl.take k : Sl _ _ _ 1 (iz (x.s.take k))) (by simp; omega) (iz_one1 _) (by decide) (by first | (simp; done) | (simp; omega)) (by first | (simp [maxLen]; done) | (simp [maxLen]; omega))) rfl (by rintro _ _ ⟨Ha, pa, ca, rfl, hOa, rfl⟩; repeat (first | exact .nil | refine .cons rfl ?_)) ?_
              rintro _ _ ⟨Ha, pa, ca, rfl, hOa, rfl⟩
              refine DL.one rfl (Eff.buildSlice 163 Tryd.underlying41 sz3 zc3 rfl rfl (.cons rfl rfl .nil) rfl) rfl (by rintro _ _ ⟨b63, rfl, rfl⟩; repeat (first | exact .nil | refine .cons rfl ?_)) ?_
              rintro _ _ ⟨b63, rfl, rfl⟩
              refine DL.one rfl (Eff.appendE (tc := 153) (sc := 163) (fun z : Int => [Value.int .i64 z]) Tryd.underlying41 el3 rfl rfl rfl rfl hOa rfl (iz_single rfl) rfl (iz_one1 _) (by decide) (by simp; omega) (by first | (simp [maxLen]; done) | (simp [maxLen]; omega))) rfl (by rintro _ _ ⟨Hb, pb, cb, rfl, hOb, rfl⟩; repeat (first | exact .nil | refine .cons rfl ?_)) ?_
              rintro _ _ ⟨Hb, pb, cb, rfl, hOb, rfl⟩
              refine DL.one rfl (Eff.appendE (tc := 153) (sc := 106) (fun z : Int => [Value.int .i64 z]) Tryd.underlying41 el3 rfl rfl rfl rfl hOb rfl (iz_drop _ _ ▸ hO.sl.drop (k := k) (by simp; omega) : Sl _ _ _ 1 (iz (x.s.drop k))) (by simp) (iz_one1 _) (by decide) (by first | (simp; done) | (simp; omega)) (by first | (simp [maxLen]; done) | (simp [maxLen]; omega))) rfl (by rintro _ _ ⟨Hd, pd, cd, rfl, hOd, rfl⟩; repeat (first | exact .nil | refine .cons rfl ?_)) ?_
              rintro _ _ ⟨Hd, pd, cd, rfl, hOd, rfl⟩
              refine DL.q rfl (Yld.assign rfl) rfl ?_
              refine DL.done ?_
              refine N.block_normal ?_
              refine N.next ?_
              refine W.keep (.cons (k := 0) rfl (.cons (k := 3) rfl (.cons (k := 4) rfl .nil))) (.cons (k := 0) rfl (.cons (k := 1) rfl (.cons (k := 106) rfl (.cons (k := 153) rfl (.cons (k := 163) rfl .nil))))) ?_
              refine W.region ?_
              refine RL.q (Yld.move rfl) rfl ?_
              refine RL.q (Yld.bin rfl rfl (by first | exact BinV.add (by omega) (by omega) | exact BinV.addW)) rfl ?_
              refine RL.q (Yld.assign rfl) rfl ?_
              refine RL.nil ?_
              refine N.imp (Imp.move (c := 153) (c' := 106) rfl rfl) ?_
              exact N.famK ⟨x.i + 1, Hd, pd, cd, ins x.s k e.gr⟩ ⟨⟨by dsimp only; omega, hOd, by dsimp only; rw [hgs, if_pos hek]; exact hs.put hnin hk hkI hge⟩, by dsimp only; omega⟩ (.as rfl (by first | rfl | (simp; done) | (congr 1; simp; done) | (congr 1; omega)) (.as rfl (by first | rfl | (simp; done) | (congr 1; simp; done) | (congr 1; omega)) .nil)) (.cons rfl .nil) (.cons rfl .nil) (.cons rfl (.cons rfl .nil))
            ·
              refine DL.one rfl (Eff.buildSlice 163 Tryd.underlying41 sz3 zc3 rfl rfl (.cons rfl rfl .nil) rfl) rfl (by rintro _ _ ⟨b63, rfl, rfl⟩; repeat (first | exact .nil | refine .cons rfl ?_)) ?_
              rintro _ _ ⟨b63, rfl, rfl⟩
              refine DL.one rfl (Eff.appendE (tc := 153) (sc := 106) (fun z : Int => [Value.int .i64 z]) Tryd.underlying41 el3 rfl rfl rfl rfl (iz_none rfl) rfl (iz_take _ _ ▸ hO.sl.take k : Sl _ _ _ 1 (iz (x.s.take k))) (by simp; omega) (iz_one1 _) (by decide) (by first | (simp; done) | (simp; omega)) (by first | (simp [maxLen]; done) | (simp [maxLen]; omega))) rfl (by rintro _ _ ⟨Ha, pa, ca, rfl, hOa, rfl⟩; repeat (first | exact .nil | refine .cons rfl ?_)) ?_
              rintro _ _ ⟨Ha, pa, ca, rfl, hOa, rfl⟩
              refine DL.one rfl (Eff.appendE (tc := 153) (sc := 163) (fun z : Int => [Value.int .i64 z]) Tryd.underlying41 el3 rfl rfl rfl rfl hOa rfl (iz_single rfl) rfl (iz_one1 _) (by decide) (by simp; omega) (by first | (simp [maxLen]; done) | (simp [maxLen]; omega))) rfl (by rintro _ _ ⟨Hb, pb, cb, rfl, hOb, rfl⟩; repeat (first | exact .nil | refine .cons rfl ?_)) ?_
              rintro _ _ ⟨Hb, pb, cb, rfl, hOb, rfl⟩
              refine DL.one rfl (Eff.appendE (tc := 153) (sc := 106) (fun z : Int => [Value.int .i64 z]) Tryd.underlying41 el3 rfl rfl rfl rfl hOb rfl (iz_drop _ _ ▸ hO.sl.drop (k := k) (by simp; omega) : Sl _ _ _ 1 (iz (x.s.drop k))) (by simp) (iz_one1 _) (by decide) (by first | (simp; done) | (simp; omega)) (by first | (simp [maxLen]; done) | (simp [maxLen]; omega))) rfl (by rintro _ _ ⟨Hd, pd, cd, rfl, hOd, rfl⟩; repeat (first | exact .nil | refine .cons rfl ?_)) ?_
              rintro _ _ ⟨Hd, pd, cd, rfl, hOd, rfl⟩
              refine DL.q rfl (Yld.assign rfl) rfl ?_
              refine DL.done ?_
              refine N.block_normal ?_
              refine N.next ?_
              refine W.keep (.cons (k := 0) rfl (.cons (k := 3) rfl (.cons (k := 4) rfl .nil))) (.cons (k := 0) rfl (.cons (k := 1) rfl (.cons (k := 106) rfl (.cons (k := 153) rfl (.cons (k := 163) rfl .nil))))) ?_
              refine W.region ?_
              refine RL.q (Yld.move rfl) rfl ?_
              refine RL.q (Yld.bin rfl rfl (by first | exact BinV.add (by omega) (by omega) | exact BinV.addW)) rfl ?_
              refine RL.q (Yld.assign rfl) rfl ?_
              refine RL.nil ?_
              refine N.imp (Imp.move (c := 153) (c' := 106) rfl rfl) ?_
              exact N.famK ⟨x.i + 1, Hd, pd, cd, ins x.s k e.gr⟩ ⟨⟨by dsimp only; omega, hOd, by dsimp only; rw [hgs, if_pos hek]; exact hs.put hnin hk hkI hge⟩, by dsimp only; omega⟩ (.as rfl (by first | rfl | (simp; done) | (congr 1; simp; done) | (congr 1; omega)) (.as rfl (by first | rfl | (simp; done) | (congr 1; simp; done) | (congr 1; omega)) .nil)) (.cons rfl .nil) (.cons rfl .nil) (.cons rfl (.cons rfl .nil))
          ·
            refine DL.one rfl (Eff.buildSlice 163 Tryd.underlying41 sz3 zc3 rfl rfl (.cons rfl rfl .nil) rfl) rfl (by rintro _ _ ⟨b63, rfl, rfl⟩; repeat (first | exact .nil | refine .cons rfl ?_)) ?_
            rintro _ _ ⟨b63, rfl, rfl⟩
            refine DL.one rfl (Eff.buildSlice 153 Tryd.underlying41 sz3 zc3 rfl rfl .nil rfl) rfl (by rintro _ _ ⟨b53, rfl, rfl⟩; repeat (first | exact .nil | refine .cons rfl ?_)) ?_
            rintro _ _ ⟨b53, rfl, rfl⟩
            refine DL.one rfl (Eff.appendE (tc := 153) (sc := 106) (fun z : Int => [Value.int .i64 z]) Tryd.underlying41 el3 rfl rfl rfl rfl (iz_none rfl) rfl (iz_take _ _ ▸ hO.sl.take k : Sl _ _ _ 1 (iz (x.s.take k))) (by simp; omega) (iz_one1 _) (by decide) (by first | (simp; done) | (simp; omega)) (by first | (simp [maxLen]; done) | (simp [maxLen]; omega))) rfl (by rintro _ _ ⟨Ha, pa, ca, rfl, hOa, rfl⟩; repeat (first | exact .nil | refine .cons rfl ?_)) ?_
            rintro _ _ ⟨Ha, pa, ca, rfl, hOa, rfl⟩
            refine DL.one rfl (Eff.appendE (tc := 153) (sc := 163) (fun z : Int => [Value.int .i64 z]) Tryd.underlying41 el3 rfl rfl rfl rfl hOa rfl (iz_single rfl) rfl (iz_one1 _) (by decide) (by simp; omega) (by first | (simp [maxLen]; done) | (simp [maxLen]; omega))) rfl (by rintro _ _ ⟨Hb, pb, cb, rfl, hOb, rfl⟩; repeat (first | exact .nil | refine .cons rfl ?_)) ?_
            rintro _ _ ⟨Hb, pb, cb, rfl, hOb, rfl⟩
            refine DL.one rfl (Eff.appendE (tc := 153) (sc := 106) (fun z : Int => [Value.int .i64 z]) Tryd.underlying41 el3 rfl rfl rfl rfl hOb rfl (iz_drop _ _ ▸ hO.sl.drop (k := k) (by simp; omega) : Sl _ _ _ 1 (iz (x.s.drop k))) (by simp) (iz_one1 _) (by decide) (by first | (simp; done) | (simp; omega)) (by first | (simp [maxLen]; done) | (simp [maxLen]; omega))) rfl (by rintro _ _ ⟨Hd, pd, cd, rfl, hOd, rfl⟩; repeat (first | exact .nil | refine .cons rfl ?_)) ?_
            rintro _ _ ⟨Hd, pd, cd, rfl, hOd, rfl⟩
            refine DL.q rfl (Yld.assign rfl) rfl ?_
            refine DL.done ?_
            refine N.block_normal ?_
            refine N.next ?_
            refine W.keep (.cons (k := 0) rfl (.cons (k := 3) rfl (.cons (k := 4) rfl .nil))) (.cons (k := 0) rfl (.cons (k := 1) rfl (.cons (k := 106) rfl (.cons (k := 153) rfl (.cons (k := 163) rfl .nil))))) ?_
            refine W.region ?_
            refine RL.q (Yld.move rfl) rfl ?_
            refine RL.q (Yld.bin rfl rfl (by first | exact BinV.add (by omega) (by omega) | exact BinV.addW)) rfl ?_
            refine RL.q (Yld.assign rfl) rfl ?_
            refine RL.nil ?_
            refine N.imp (Imp.move (c := 153) (c' := 106) rfl rfl) ?_
            exact N.famK ⟨x.i + 1, Hd, pd, cd, ins x.s k e.gr⟩ ⟨⟨by dsimp only; omega, hOd, by dsimp only; rw [hgs, if_pos hek]; exact hs.put hnin hk hkI hge⟩, by dsimp only; omega⟩ (.as rfl (by first | rfl | (simp; done) | (congr 1; simp; done) | (congr 1; omega)) (.as rfl (by first | rfl | (simp; done) | (congr 1; simp; done) | (congr 1; omega)) .nil)) (.cons rfl .nil) (.cons rfl .nil) (.cons rfl (.cons rfl .nil))
        ·
          have hin : e.gr ∈ x.s := by
            have h1 : k < x.s.length := by omega
            have h2 := hc52.2
            rw [List.getD_eq_getElem?_getD, List.getElem?_eq_getElem h1] at h2
            have h3 := h2
            simp only [Option.getD_some] at h3
            rw [← h3]; exact List.getElem_mem h1
          refine W.skip ?_
          refine N.block_normal ?_
          refine N.next ?_
          refine W.region ?_
          refine RL.q (Yld.move rfl) rfl ?_
          refine RL.q (Yld.bin rfl rfl (by first | exact BinV.add (by omega) (by omega) | exact BinV.addW)) rfl ?_
          refine RL.q (Yld.assign rfl) rfl ?_
          refine RL.nil ?_
          exact N.famK ⟨x.i + 1, x.H, x.p, x.c, x.s⟩ ⟨⟨by dsimp only; omega, hO, by dsimp only; rw [hgs, if_pos hek]; exact hs.skip hin⟩, by dsimp only; omega⟩ (.as rfl (by first | rfl | (simp; done) | (congr 1; simp; done) | (congr 1; omega)) (.as rfl (by first | rfl | (simp; done) | (congr 1; simp; done) | (congr 1; omega)) .nil)) (.cons rfl .nil) (.cons rfl .nil) (.cons rfl (.cons rfl .nil))
  ·
    have hend : x.i = l.length := by omega
    rw [hend] at hs
    have hse : x.s = allL (gps (l.map EvC.toEv) l.length) := hs.eq
    refine W.exit ?_
    refine N.then_exit ?_
    refine N.then_exit ?_
    refine N.block_eq ?_
    refine N.next ?_
    refine W.keep (.cons (k := 3) rfl .nil) (.cons (k := 0) rfl (.cons (k := 1) rfl (.cons (k := 106) rfl .nil))) ?_
    refine W.seq ?_
    refine W.region ?_
    refine RL.q (Yld.move rfl) rfl ?_
    refine RL.q (Yld.assign rfl) rfl ?_
    refine RL.nil ?_
    refine N.next ?_
    refine W.ret ?_
    exact N.retBy [1, 106] (.cons (.tmp rfl) .nil) rfl rfl rfl rfl ⟨x.H, x.p, x.c, by rw [← hse]; rfl, by rw [← hse]; exact hO, rfl⟩

theorem few56L_ct (l : List EvC) (hx : ∀ a ∈ l, a.ok) (H1 : PH) (p : Option Addr) (c : Nat) (hS : Sl H1 p c 22 (l.map EvC.c)) (m : Int) : Ct Tryd.prog 18 [.slice p (l.map EvC.c).length c, .int .i64 m] [H1] (fun v Hs => (∃ b, v = .bool b ∧ (b = true → (l.length : Int) ≤ m)) ∧ Hs = [H1]) := by
  rw [List.length_map]; exact few56_ct l hx H1 p c hS m
theorem rofL_ct (l : List EvC) (hx : ∀ a ∈ l, a.ok) (hl40 : l.length ≤ 1000000) (H1 : PH) (p : Option Addr) (c : Nat) (hS : Sl H1 p c 22 (l.map EvC.c)) (g : Int) : Ct Tryd.prog 19 [.slice p (l.map EvC.c).length c, .int .i64 g] [H1]
    (fun v Hs => ∃ Ho po co, v = .slice po ((ofN g (l.map EvC.toEv) l.length).out.map O.c).length co ∧ Own Ho po co 32 12 ((ofN g (l.map EvC.toEv) l.length).out.map O.c) ∧ Hs = [H1, Ho]) := by
  rw [List.length_map]; exact rof_ct l hx hl40 H1 p c hS g
theorem groupsL_ct (l : List EvC) (hx : ∀ a ∈ l, a.ok) (hl40 : l.length ≤ 1000000) (H1 : PH) (p : Option Addr) (c : Nat) (hS : Sl H1 p c 22 (l.map EvC.c)) : Ct Tryd.prog 20 [.slice p (l.map EvC.c).length c] [H1] (fun v Hs => ∃ H' p' c', v = .slice p' (allL (gps (l.map EvC.toEv) l.length)).length c' ∧ Own H' p' c' 3 1 (iz (allL (gps (l.map EvC.toEv) l.length))) ∧ Hs = [H1, H']) := by
  rw [List.length_map]; exact groups_ct l hx hl40 H1 p c hS
theorem rgroupsL_ct (l : List EvC) (hl40 : l.length ≤ 1000000) (H1 : PH) (p : Option Addr) (c : Nat) (hS : Sl H1 p c 22 (l.map EvC.c)) : Ct Tryd.prog 21 [.slice p (l.map EvC.c).length c] [H1] (fun v Hs => ∃ H' p' c', v = .slice p' (allL (gps (l.map EvC.toEv) l.length)).length c' ∧ Own H' p' c' 3 1 (iz (allL (gps (l.map EvC.toEv) l.length))) ∧ Hs = [H1, H']) := by
  rw [List.length_map]; exact rgroups_ct l hl40 H1 p c hS

set_option maxRecDepth 100000 in
set_option maxHeartbeats 1600000 in
theorem historyOf_ct (l : List EvC) (hx : ∀ a ∈ l, a.ok) (H1 : PH) (p : Option Addr) (c : Nat) (hS : Sl H1 p c 22 (l.map EvC.c)) (g : Int) : Ct Tryd.prog 6 [.slice p (l.map EvC.c).length c, .int .i64 g] [H1] (fun v Hs => v = .bool true ∧ Hs = [H1]) := by
  refine Ct.body Tryd.func6 rfl Tryd.ntmps6 rfl ?_
  intro E F
  have hS2 := hS
  have hlm : (l.map EvC.c).length = l.length := by simp
  refine W.seq ?_
  refine W.region ?_
  refine RL.q (Yld.assign rfl) rfl ?_
  refine RL.nil ?_
  refine N.next ?_
  refine W.seq ?_
  refine W.seq ?_
  refine W.region ?_
  refine RL.q (Yld.move rfl) rfl ?_
  refine RL.e (Eff.call ent18 [1] [1] (.cons rfl (.cons rfl .nil)) (few56L_ct l hx H1 p c hS 40) rfl rfl rfl rfl (by rintro _ _ ⟨_, rfl⟩; rfl)) rfl ?_
  rintro _ _ ⟨_, ⟨⟨bF, rfl, hF⟩, rfl⟩, rfl⟩
  refine RL.q (by first | exact Yld.notD rfl | exact Yld.not rfl) rfl ?_
  refine RL.nil ?_
  refine N.next ?_
  first | refine W.condD rfl (fun hc10 => ?_) (fun hc10 => ?_) | (refine W.cond rfl (fun hc10 => ?_) (fun hc10 => ?_) <;> try simp only [Bool.or_eq_true, Bool.and_eq_true, Bool.not_eq_true', Bool.not_eq_false', decide_eq_true_eq, Bool.or_eq_false_iff, Bool.and_eq_false_iff, decide_eq_false_iff_not, beq_iff_eq, beq_eq_false_iff_ne, ne_eq, Decidable.not_not] at hc10)
  ·
    refine W.seq ?_
    refine W.region ?_
    refine RL.e (Eff.call ent11 [] [] .nil awake_ct rfl rfl rfl rfl (by rintro _ _ ⟨_, rfl⟩; rfl)) rfl ?_
    rintro _ _ ⟨_, ⟨rfl, rfl⟩, rfl⟩
    refine RL.q (Yld.assign rfl) rfl ?_
    refine RL.nil ?_
    refine N.next ?_
    refine W.keep (.cons (k := 4) rfl .nil) (.cons (k := 0) rfl (.cons (k := 1) rfl .nil)) ?_
    refine W.ret ?_
    refine N.then_ret ?_
    exact N.retBy [1] (.cons (.tmp rfl) .nil) rfl rfl rfl rfl ⟨rfl, rfl⟩
  ·
    have hl40 : l.length ≤ 40 := by have := hF hc10; omega
    have hgg : (allL (gps (l.map EvC.toEv) l.length)).length ≤ 40 := Nat.le_trans (Nat.le_trans (cpt_len _) (by rw [srt_len]; exact gps_len _)) hl40
    refine W.skip ?_
    refine N.next ?_
    refine W.keep (.cons (k := 0) rfl (.cons (k := 1) rfl .nil)) (.cons (k := 0) rfl (.cons (k := 1) rfl .nil)) ?_
    refine W.seq ?_
    refine W.seq ?_
    refine W.region ?_
    refine RL.q (Yld.move rfl) rfl ?_
    refine RL.q (Yld.move rfl) rfl ?_
    refine RL.e (Eff.call ent13 [1] [1, 130] (.cons rfl (.cons rfl .nil)) (of_ct l hx (by omega) _ _ _ hS2 g) rfl rfl rfl rfl (by rintro _ _ ⟨_, _, _, _, _, rfl⟩; rfl)) rfl ?_
    rintro _ _ ⟨_, ⟨Ho, po, co, rfl, hOo, rfl⟩, rfl⟩
    refine RL.q (Yld.move rfl) rfl ?_
    refine RL.q (Yld.move rfl) rfl ?_
    refine RL.e (Eff.call ent19 [1] [1, 131] (.cons rfl (.cons rfl .nil)) (rofL_ct l hx (by omega) _ _ _ hS2 g) rfl rfl rfl rfl (by rintro _ _ ⟨_, _, _, _, _, rfl⟩; rfl)) rfl ?_
    rintro _ _ ⟨_, ⟨Hr, pr, cr, rfl, hOr, rfl⟩, rfl⟩
    refine RL.e (Eff.call ent17 [130, 131] [130, 131] (.cons rfl (.cons rfl .nil)) (sameT_ct _ _ _ _ _ _ _ _ hOo.sl hOr.sl rfl) rfl rfl rfl rfl (by rintro _ _ ⟨_, rfl⟩; rfl)) rfl ?_
    rintro _ _ ⟨_, ⟨rfl, rfl⟩, rfl⟩
    refine RL.q (by first | exact Yld.notD rfl | exact Yld.not rfl) rfl ?_
    refine RL.nil ?_
    refine N.next ?_
    refine W.keep (.cons (k := 0) rfl (.cons (k := 19) rfl .nil)) (.cons (k := 0) rfl (.cons (k := 1) rfl (.cons (k := 130) rfl (.cons (k := 131) rfl .nil)))) ?_
    first | (refine W.as (t := 19) rfl (boolF (by first | assumption | omega | (simp; done))) ?_; refine W.condF rfl ?_) | refine W.condF rfl ?_
    refine W.skip ?_
    refine N.next ?_
    refine W.seq ?_
    refine W.region ?_
    refine RL.q (Yld.move rfl) rfl ?_
    refine RL.e (Eff.call ent20 [1] [1, 140] (.cons rfl .nil) (groupsL_ct l hx (by omega) _ _ _ hS2) rfl rfl rfl rfl (by rintro _ _ ⟨_, _, _, _, _, rfl⟩; rfl)) rfl ?_
    rintro _ _ ⟨_, ⟨Hg, pg, cg, rfl, hOg, rfl⟩, rfl⟩
    refine RL.q (Yld.move rfl) rfl ?_
    refine RL.e (Eff.call ent21 [1] [1, 141] (.cons rfl .nil) (rgroupsL_ct l (by omega) _ _ _ hS2) rfl rfl rfl rfl (by rintro _ _ ⟨_, _, _, _, _, rfl⟩; rfl)) rfl ?_
    rintro _ _ ⟨_, ⟨Hk, pk, ck, rfl, hOk, rfl⟩, rfl⟩
    refine RL.q (Yld.assign rfl) rfl ?_
    refine RL.q (Yld.assign rfl) rfl ?_
    refine RL.nil ?_
    refine N.next ?_
    refine W.keep (.cons (k := 0) rfl (.cons (k := 5) rfl (.cons (k := 6) rfl .nil))) (.cons (k := 0) rfl (.cons (k := 1) rfl (.cons (k := 130) rfl (.cons (k := 131) rfl (.cons (k := 140) rfl (.cons (k := 141) rfl .nil)))))) ?_
    refine W.seq ?_
    refine W.seq ?_
    refine W.region ?_
    refine RL.q (Yld.move rfl) rfl ?_
    refine RL.q (Yld.lenSl Tryd.underlying41 rfl) rfl ?_
    refine RL.q (Yld.move rfl) rfl ?_
    refine RL.q (Yld.lenSl Tryd.underlying41 rfl) rfl ?_
    refine RL.q (Yld.bin rfl rfl BinV.neq) rfl ?_
    refine RL.nil ?_
    refine N.next ?_
    refine W.keep (.cons (k := 0) rfl (.cons (k := 5) rfl (.cons (k := 6) rfl (.cons (k := 28) rfl .nil)))) (.cons (k := 0) rfl (.cons (k := 1) rfl (.cons (k := 130) rfl (.cons (k := 131) rfl (.cons (k := 140) rfl (.cons (k := 141) rfl .nil)))))) ?_
    first | (refine W.as (t := 28) rfl (boolF (by first | assumption | omega | (simp; done))) ?_; refine W.condF rfl ?_) | refine W.condF rfl ?_
    refine W.skip ?_
    refine N.next ?_
    refine W.seq ?_
    refine W.seq ?_
    refine W.region ?_
    refine RL.q (Yld.move rfl) rfl ?_
    refine RL.q (Yld.lenSl Tryd.underlying41 rfl) rfl ?_
    refine RL.q (Yld.move rfl) rfl ?_
    refine RL.nil ?_
    refine N.next ?_
    refine W.block ?_
    refine W.loopK (ι := Nat) (fun j => (j ≤ (allL (gps (l.map EvC.toEv) l.length)).length)) (fun j => [(31, .int .i64 (j : Nat))]) (fun j => []) (fun j => (allL (gps (l.map EvC.toEv) l.length)).length - j) (.cons (k := 0) rfl (.cons (k := 5) rfl (.cons (k := 6) rfl (.cons (k := 30) rfl .nil)))) (.cons (k := 0) rfl (.cons (k := 1) rfl (.cons (k := 130) rfl (.cons (k := 131) rfl (.cons (k := 140) rfl (.cons (k := 141) rfl .nil)))))) 0 ?_ ?_ ?_ ?_
    · exact Nat.zero_le _
    · exact (.as rfl (by first | rfl | (simp; done) | (congr 1; simp; done) | (congr 1; omega)) .nil)
    · exact .nil
    rintro j hj
    refine W.keep (.cons (k := 31) rfl (.cons (k := 0) rfl (.cons (k := 5) rfl (.cons (k := 6) rfl (.cons (k := 30) rfl .nil))))) (.cons (k := 0) rfl (.cons (k := 1) rfl (.cons (k := 130) rfl (.cons (k := 131) rfl (.cons (k := 140) rfl (.cons (k := 141) rfl .nil)))))) ?_
    refine W.seq ?_
    refine W.region ?_
    refine RL.q (Yld.bin rfl rfl BinV.lss) rfl ?_
    refine RL.nil ?_
    refine N.next ?_
    refine W.seq ?_
    first | refine W.condD rfl (fun hc32 => ?_) (fun hc32 => ?_) | (refine W.cond rfl (fun hc32 => ?_) (fun hc32 => ?_) <;> try simp only [Bool.or_eq_true, Bool.and_eq_true, Bool.not_eq_true', Bool.not_eq_false', decide_eq_true_eq, Bool.or_eq_false_iff, Bool.and_eq_false_iff, decide_eq_false_iff_not, beq_iff_eq, beq_eq_false_iff_ne, ne_eq, Decidable.not_not] at hc32)
    ·
      obtain ⟨z, hz, hlz⟩ := iz_at (show j < (allL (gps (l.map EvC.toEv) l.length)).length by omega)
      refine W.skip ?_
      refine N.next ?_
      refine W.seq ?_
      refine W.block ?_
      refine W.seq ?_
      refine W.region ?_
      refine RL.q (Yld.move rfl) rfl ?_
      refine RL.q (Yld.assign rfl) rfl ?_
      refine RL.nil ?_
      refine N.next ?_
      refine W.seq ?_
      refine W.draw (.q 0 (.q 1 (.q 2 (.q 3 (.q 4 (.q 5 (.q 6 (.q 7 (.q 8 (.q 9 (.q 10 (.q 11 (.q 12 (.q 13 (.q 14 (.q 16 (.q 17 (.q 18 (.q 19 (.q 20 (.one 15 (.one 21 (.one 22 (.q 23 (.q 24 .done))))))))))))))))))))))))) (.cons (k := 0) rfl (.cons (k := 130) rfl (.cons (k := 131) rfl (.cons (k := 140) rfl (.cons (k := 141) rfl .nil))))) mix (by kernel_rfl) (by kernel_rfl) ?_
      refine DL.q rfl (Yld.move rfl) rfl ?_
      refine DL.q rfl (Yld.move rfl) rfl ?_
      refine DL.q rfl (Yld.indexRow Tryd.underlying41 sz3 rfl rfl (by first | assumption | exact Own.sl (by assumption)) (by first | rfl | omega | (simp; done) | (simp; omega)) (by omega) (by first | omega | (simp; done) | (simp; omega))) rfl ?_
      refine DL.q rfl (by first | exact (by first | exact Yld.loadRow1 (cl := 1) Tryd.underlying3 rfl rfl rfl (by first | assumption | exact Own.sl (by assumption)) (by assumption) | exact Yld.loadRow1 (cl := 130) Tryd.underlying3 rfl rfl rfl (by first | assumption | exact Own.sl (by assumption)) (by assumption) | exact Yld.loadRow1 (cl := 131) Tryd.underlying3 rfl rfl rfl (by first | assumption | exact Own.sl (by assumption)) (by assumption) | exact Yld.loadRow1 (cl := 140) Tryd.underlying3 rfl rfl rfl (by first | assumption | exact Own.sl (by assumption)) (by assumption) | exact Yld.loadRow1 (cl := 141) Tryd.underlying3 rfl rfl rfl (by first | assumption | exact Own.sl (by assumption)) (by assumption)) | exact (by first | exact Yld.loadRowF (cl := 1) (j := 0) Tryd.underlying3 rfl rfl rfl (by first | assumption | exact Own.sl (by assumption)) (by assumption) rfl | exact Yld.loadRowF (cl := 130) (j := 0) Tryd.underlying3 rfl rfl rfl (by first | assumption | exact Own.sl (by assumption)) (by assumption) rfl | exact Yld.loadRowF (cl := 131) (j := 0) Tryd.underlying3 rfl rfl rfl (by first | assumption | exact Own.sl (by assumption)) (by assumption) rfl | exact Yld.loadRowF (cl := 140) (j := 0) Tryd.underlying3 rfl rfl rfl (by first | assumption | exact Own.sl (by assumption)) (by assumption) rfl | exact Yld.loadRowF (cl := 141) (j := 0) Tryd.underlying3 rfl rfl rfl (by first | assumption | exact Own.sl (by assumption)) (by assumption) rfl)) rfl ?_
      refine DL.q rfl (Yld.move rfl) rfl ?_
      refine DL.q rfl (Yld.move rfl) rfl ?_
      refine DL.q rfl (Yld.indexRow Tryd.underlying41 sz3 rfl rfl (by first | assumption | exact Own.sl (by assumption)) (by first | rfl | omega | (simp; done) | (simp; omega)) (by omega) (by first | omega | (simp; done) | (simp; omega))) rfl ?_
      refine DL.q rfl (by first | exact (by first | exact Yld.loadRow1 (cl := 1) Tryd.underlying3 rfl rfl rfl (by first | assumption | exact Own.sl (by assumption)) (by assumption) | exact Yld.loadRow1 (cl := 130) Tryd.underlying3 rfl rfl rfl (by first | assumption | exact Own.sl (by assumption)) (by assumption) | exact Yld.loadRow1 (cl := 131) Tryd.underlying3 rfl rfl rfl (by first | assumption | exact Own.sl (by assumption)) (by assumption) | exact Yld.loadRow1 (cl := 140) Tryd.underlying3 rfl rfl rfl (by first | assumption | exact Own.sl (by assumption)) (by assumption) | exact Yld.loadRow1 (cl := 141) Tryd.underlying3 rfl rfl rfl (by first | assumption | exact Own.sl (by assumption)) (by assumption)) | exact (by first | exact Yld.loadRowF (cl := 1) (j := 0) Tryd.underlying3 rfl rfl rfl (by first | assumption | exact Own.sl (by assumption)) (by assumption) rfl | exact Yld.loadRowF (cl := 130) (j := 0) Tryd.underlying3 rfl rfl rfl (by first | assumption | exact Own.sl (by assumption)) (by assumption) rfl | exact Yld.loadRowF (cl := 131) (j := 0) Tryd.underlying3 rfl rfl rfl (by first | assumption | exact Own.sl (by assumption)) (by assumption) rfl | exact Yld.loadRowF (cl := 140) (j := 0) Tryd.underlying3 rfl rfl rfl (by first | assumption | exact Own.sl (by assumption)) (by assumption) rfl | exact Yld.loadRowF (cl := 141) (j := 0) Tryd.underlying3 rfl rfl rfl (by first | assumption | exact Own.sl (by assumption)) (by assumption) rfl)) rfl ?_
      refine DL.q rfl (Yld.bin rfl rfl BinV.neq) rfl ?_
      refine DL.q rfl (Yld.move rfl) rfl ?_
      first | refine DL.as (t := 43) rfl (boolF (by first | assumption | omega | (simp; done))) ?_ | refine DL.as (t := 43) (v := .bool false) rfl rfl ?_
      refine DL.gq rfl rfl rfl (Yld.move rfl) rfl ?_
      refine DL.gq rfl rfl rfl (Yld.move rfl) rfl ?_
      refine DL.gq rfl rfl rfl (Yld.move rfl) rfl ?_
      refine DL.gq rfl rfl rfl (Yld.indexRow Tryd.underlying41 sz3 rfl rfl (by first | assumption | exact Own.sl (by assumption)) (by first | rfl | omega | (simp; done) | (simp; omega)) (by omega) (by first | omega | (simp; done) | (simp; omega))) rfl ?_
      refine DL.gq rfl rfl rfl (by first | exact (by first | exact Yld.loadRow1 (cl := 1) Tryd.underlying3 rfl rfl rfl (by first | assumption | exact Own.sl (by assumption)) (by assumption) | exact Yld.loadRow1 (cl := 130) Tryd.underlying3 rfl rfl rfl (by first | assumption | exact Own.sl (by assumption)) (by assumption) | exact Yld.loadRow1 (cl := 131) Tryd.underlying3 rfl rfl rfl (by first | assumption | exact Own.sl (by assumption)) (by assumption) | exact Yld.loadRow1 (cl := 140) Tryd.underlying3 rfl rfl rfl (by first | assumption | exact Own.sl (by assumption)) (by assumption) | exact Yld.loadRow1 (cl := 141) Tryd.underlying3 rfl rfl rfl (by first | assumption | exact Own.sl (by assumption)) (by assumption)) | exact (by first | exact Yld.loadRowF (cl := 1) (j := 0) Tryd.underlying3 rfl rfl rfl (by first | assumption | exact Own.sl (by assumption)) (by assumption) rfl | exact Yld.loadRowF (cl := 130) (j := 0) Tryd.underlying3 rfl rfl rfl (by first | assumption | exact Own.sl (by assumption)) (by assumption) rfl | exact Yld.loadRowF (cl := 131) (j := 0) Tryd.underlying3 rfl rfl rfl (by first | assumption | exact Own.sl (by assumption)) (by assumption) rfl | exact Yld.loadRowF (cl := 140) (j := 0) Tryd.underlying3 rfl rfl rfl (by first | assumption | exact Own.sl (by assumption)) (by assumption) rfl | exact Yld.loadRowF (cl := 141) (j := 0) Tryd.underlying3 rfl rfl rfl (by first | assumption | exact Own.sl (by assumption)) (by assumption) rfl)) rfl ?_
      refine DL.gq rfl rfl rfl (Yld.move rfl) rfl ?_
      refine DL.gq rfl rfl rfl (Yld.move rfl) rfl ?_
      refine DL.gq rfl rfl rfl (Yld.move rfl) rfl ?_
      refine DL.gq rfl rfl rfl (Yld.indexRow Tryd.underlying41 sz3 rfl rfl (by first | assumption | exact Own.sl (by assumption)) (by first | rfl | omega | (simp; done) | (simp; omega)) (by omega) (by first | omega | (simp; done) | (simp; omega))) rfl ?_
      refine DL.gq rfl rfl rfl (by first | exact (by first | exact Yld.loadRow1 (cl := 1) Tryd.underlying3 rfl rfl rfl (by first | assumption | exact Own.sl (by assumption)) (by assumption) | exact Yld.loadRow1 (cl := 130) Tryd.underlying3 rfl rfl rfl (by first | assumption | exact Own.sl (by assumption)) (by assumption) | exact Yld.loadRow1 (cl := 131) Tryd.underlying3 rfl rfl rfl (by first | assumption | exact Own.sl (by assumption)) (by assumption) | exact Yld.loadRow1 (cl := 140) Tryd.underlying3 rfl rfl rfl (by first | assumption | exact Own.sl (by assumption)) (by assumption) | exact Yld.loadRow1 (cl := 141) Tryd.underlying3 rfl rfl rfl (by first | assumption | exact Own.sl (by assumption)) (by assumption)) | exact (by first | exact Yld.loadRowF (cl := 1) (j := 0) Tryd.underlying3 rfl rfl rfl (by first | assumption | exact Own.sl (by assumption)) (by assumption) rfl | exact Yld.loadRowF (cl := 130) (j := 0) Tryd.underlying3 rfl rfl rfl (by first | assumption | exact Own.sl (by assumption)) (by assumption) rfl | exact Yld.loadRowF (cl := 131) (j := 0) Tryd.underlying3 rfl rfl rfl (by first | assumption | exact Own.sl (by assumption)) (by assumption) rfl | exact Yld.loadRowF (cl := 140) (j := 0) Tryd.underlying3 rfl rfl rfl (by first | assumption | exact Own.sl (by assumption)) (by assumption) rfl | exact Yld.loadRowF (cl := 141) (j := 0) Tryd.underlying3 rfl rfl rfl (by first | assumption | exact Own.sl (by assumption)) (by assumption) rfl)) rfl ?_
      refine DL.gone rfl rfl rfl (Eff.call ent13 [1] [1, 132] (.cons rfl (.cons rfl .nil)) (of_ct l hx (by omega) _ _ _ hS2 z) rfl rfl rfl rfl (by rintro _ _ ⟨_, _, _, _, _, rfl⟩; rfl)) rfl (by rintro _ _ ⟨_, ⟨Ho2, po2, co2, rfl, hOo2, rfl⟩, rfl⟩; repeat (first | exact .nil | refine .cons rfl ?_)) ?_
      rintro _ _ ⟨_, ⟨Ho2, po2, co2, rfl, hOo2, rfl⟩, rfl⟩
      refine DL.gone rfl rfl rfl (Eff.call ent19 [1] [1, 133] (.cons rfl (.cons rfl .nil)) (rofL_ct l hx (by omega) _ _ _ hS2 z) rfl rfl rfl rfl (by rintro _ _ ⟨_, _, _, _, _, rfl⟩; rfl)) rfl (by rintro _ _ ⟨_, ⟨Hr2, pr2, cr2, rfl, hOr2, rfl⟩, rfl⟩; repeat (first | exact .nil | refine .cons rfl ?_)) ?_
      rintro _ _ ⟨_, ⟨Hr2, pr2, cr2, rfl, hOr2, rfl⟩, rfl⟩
      refine DL.gone rfl rfl rfl (Eff.call ent17 [132, 133] [132, 133] (.cons rfl (.cons rfl .nil)) (sameT_ct _ _ _ _ _ _ _ _ hOo2.sl hOr2.sl rfl) rfl rfl rfl rfl (by rintro _ _ ⟨_, rfl⟩; rfl)) rfl (by rintro _ _ ⟨_, ⟨rfl, rfl⟩, rfl⟩; repeat (first | exact .nil | refine .cons rfl ?_)) ?_
      rintro _ _ ⟨_, ⟨rfl, rfl⟩, rfl⟩
      refine DL.gq rfl rfl rfl (by first | exact Yld.notD rfl | exact Yld.not rfl) rfl ?_
      refine DL.q rfl (by first | exact Yld.pickT rfl rfl | exact Yld.pickF rfl rfl) rfl ?_
      refine DL.done ?_
      refine N.next ?_
      refine W.keep (.cons (k := 0) rfl (.cons (k := 5) rfl (.cons (k := 6) rfl (.cons (k := 30) rfl (.cons (k := 31) rfl (.cons (k := 58) rfl .nil)))))) (.cons (k := 0) rfl (.cons (k := 1) rfl (.cons (k := 130) rfl (.cons (k := 131) rfl (.cons (k := 132) rfl (.cons (k := 133) rfl (.cons (k := 140) rfl (.cons (k := 141) rfl .nil)))))))) ?_
      first | (refine W.as (t := 58) rfl (boolF (by first | assumption | omega | (simp; done))) ?_; refine W.condF rfl ?_) | refine W.condF rfl ?_
      refine W.skip ?_
      refine N.block_normal ?_
      refine N.next ?_
      refine W.region ?_
      refine RL.q (Yld.bin rfl rfl (by first | exact BinV.add (by omega) (by omega) | exact BinV.addW)) rfl ?_
      refine RL.q (Yld.move rfl) rfl ?_
      refine RL.nil ?_
      exact N.famK (j + 1) ⟨by omega, by omega⟩ (.as rfl (by first | rfl | (simp; done) | (congr 1; simp; done) | (congr 1; omega)) .nil) (.cons rfl (.cons rfl (.cons rfl (.cons rfl .nil)))) .nil (.cons rfl (.cons rfl (.cons rfl (.cons rfl (.cons rfl (.cons rfl .nil))))))
    ·
      refine W.exit ?_
      refine N.then_exit ?_
      refine N.then_exit ?_
      refine N.block_eq ?_
      refine N.next ?_
      refine W.keep .nil (.cons (k := 0) rfl (.cons (k := 1) rfl (.cons (k := 130) rfl (.cons (k := 131) rfl (.cons (k := 140) rfl (.cons (k := 141) rfl .nil)))))) ?_
      refine W.seq ?_
      refine W.region ?_
      refine RL.e (Eff.call ent11 [] [] .nil awake_ct rfl rfl rfl rfl (by rintro _ _ ⟨_, rfl⟩; rfl)) rfl ?_
      rintro _ _ ⟨_, ⟨rfl, rfl⟩, rfl⟩
      refine RL.q (Yld.assign rfl) rfl ?_
      refine RL.nil ?_
      refine N.next ?_
      refine W.ret ?_
      exact N.retBy [1] (.cons (.tmp rfl) .nil) rfl rfl rfl rfl ⟨rfl, rfl⟩

end Go.Proofs.YtbgppnkccbhbpaaDoor
