/- Contracts of package config and of its reference. Written by program (walk2.py). -/
import Derived.Test.YtldnbbnaighakaaC1
namespace Go.Proofs.Ytldnbbnaighakaa
open SL Cfg
set_option linter.unusedVariables false
set_option linter.unusedSimpArgs false
theorem ent37 : Ent Try.prog 37 := ⟨_, _, Try.func37, by kernel_rfl, rfl⟩
theorem ent88 : Ent Try.prog 88 := ⟨_, _, Try.func88, by kernel_rfl, rfl⟩
theorem fo24_0 : fieldOff Try.prog 24 0 = some 0 := by kernel_rfl
theorem ent68 : Ent Try.prog 68 := ⟨_, _, Try.func68, by kernel_rfl, rfl⟩
theorem fo24_1 : fieldOff Try.prog 24 1 = some 1 := by kernel_rfl
theorem ent34 : Ent Try.prog 34 := ⟨_, _, Try.func34, by kernel_rfl, rfl⟩
theorem fo24_2 : fieldOff Try.prog 24 2 = some 2 := by kernel_rfl
theorem ent33 : Ent Try.prog 33 := ⟨_, _, Try.func33, by kernel_rfl, rfl⟩
theorem ent53 : Ent Try.prog 53 := ⟨_, _, Try.func53, by kernel_rfl, rfl⟩
theorem ent52 : Ent Try.prog 52 := ⟨_, _, Try.func52, by kernel_rfl, rfl⟩
theorem ent51 : Ent Try.prog 51 := ⟨_, _, Try.func51, by kernel_rfl, rfl⟩
theorem ent54 : Ent Try.prog 54 := ⟨_, _, Try.func54, by kernel_rfl, rfl⟩
theorem ent55 : Ent Try.prog 55 := ⟨_, _, Try.func55, by kernel_rfl, rfl⟩
theorem zc22 : zc Try.prog 22 [.slice none 0 0] := (by kernel_rfl : ((Try.prog.info? 22).bind (·.zero)).map (fun v => v.cells.toList) = some [.slice none 0 0])
theorem ent38 : Ent Try.prog 38 := ⟨_, _, Try.func38, by kernel_rfl, rfl⟩
theorem zv4 : zv Try.prog 4 (.bool false) := (by kernel_rfl : (Try.prog.info? 4).bind (·.zero) = some (.bool false))
theorem ent60 : Ent Try.prog 60 := ⟨_, _, Try.func60, by kernel_rfl, rfl⟩
theorem zc30 : zc Try.prog 30 [.map none] := (by kernel_rfl : ((Try.prog.info? 30).bind (·.zero)).map (fun v => v.cells.toList) = some [.map none])
theorem sz30 : sz Try.prog 30 1 := (by kernel_rfl : (Try.prog.info? 30).map (·.size) = some 1)
theorem ent61 : Ent Try.prog 61 := ⟨_, _, Try.func61, by kernel_rfl, rfl⟩
structure Cfg.Cf where
  o : List Int
  n : List Int
  l : List Int
  po : Option Addr
  co : Nat
  pn : Option Addr
  cn : Nat
  pl : Option Addr
  cl : Nat
def Cfg.Cf.In (x : Cf) (H : PH) : Prop := Sl H x.po x.co 1 (iz x.o) ∧ Sl H x.pn x.cn 1 (iz x.n) ∧ Sl H x.pl x.cl 1 (iz x.l)
def Cfg.Cf.Ok (x : Cf) : Prop := setL x.o = x.o ∧ setL x.n = x.n ∧ setL x.l = x.l ∧ 0 < x.o.length ∧ x.o ≠ x.n ∧ (minusL x.l (setL (x.o ++ x.n))).length = x.l.length
instance (x : Cfg.Cf) : Decidable x.Ok := inferInstanceAs (Decidable (_ ∧ _))
structure Cfg.QI where
  j : Nat
  es : Array MapEntry
  ck : Nat
  m : List (Int × Value)
theorem Cfg.cat2 {α : Type} (a c : α) (b d : Nat) (u v : List Int) : catL [(a, b, u), (c, d, v)] = u ++ v := by simp [catL]
theorem Cfg.cat3 {α : Type} (a c e : α) (b d f : Nat) (u v w : List Int) : catL [(a, b, u), (c, d, v), (e, f, w)] = u ++ v ++ w := by simp [catL]
theorem Cfg.cat1 {α : Type} (a : α) (b : Nat) (u : List Int) : catL [(a, b, u)] = u := by simp [catL]

set_option maxRecDepth 100000 in
set_option maxHeartbeats 400000 in
theorem ints_ct (l : List Int) (H1 : PH) (p : Option Addr) (c : Nat) (hl : Sl H1 p c 1 (iz l)) (m : List Int) (H2 : PH) (q : Option Addr) (d : Nat) (hm : Sl H2 q d 1 (iz m)) : Ct Try.prog 33 [.slice p l.length c, .slice q m.length d] [H1, H2] (fun v Hs => v = .bool (decide (l = m)) ∧ Hs = [H1, H2]) := by
  refine Ct.body Try.func33 rfl Try.ntmps33 rfl ?_
  intro E F
  have hmxl := hl.len_le
  simp only [iz_len, maxLen] at hmxl
  have hmxm := hm.len_le
  simp only [iz_len, maxLen] at hmxm
  refine W.seq ?_
  refine W.region ?_
  refine RL.q (Yld.assign rfl) rfl ?_
  refine RL.nil ?_
  refine N.next ?_
  refine W.seq ?_
  refine W.seq ?_
  refine W.region ?_
  refine RL.q (Yld.move rfl) rfl ?_
  refine RL.q (Yld.lenSl Try.underlying22 rfl) rfl ?_
  refine RL.q (Yld.move rfl) rfl ?_
  refine RL.q (Yld.lenSl Try.underlying22 rfl) rfl ?_
  refine RL.q (Yld.bin rfl rfl BinV.neq) rfl ?_
  refine RL.nil ?_
  refine N.next ?_
  refine W.keep (.cons (k := 0) rfl (.cons (k := 1) rfl (.cons (k := 10) rfl .nil))) (.cons (k := 0) rfl (.cons (k := 1) rfl (.cons (k := 2) rfl .nil))) ?_
  first | refine W.condD rfl (fun hc10 => ?_) (fun hc10 => ?_) | (refine W.cond rfl (fun hc10 => ?_) (fun hc10 => ?_) <;> try simp only [Bool.or_eq_true, Bool.and_eq_true, Bool.not_eq_true', Bool.not_eq_false', decide_eq_true_eq, Bool.or_eq_false_iff, Bool.and_eq_false_iff, decide_eq_false_iff_not, beq_iff_eq, beq_eq_false_iff_ne, ne_eq, Decidable.not_not] at hc10)
  ·
    refine W.seq ?_
    refine W.region ?_
    refine RL.q (Yld.assign rfl) rfl ?_
    refine RL.nil ?_
    refine N.next ?_
    refine W.ret ?_
    refine N.then_ret ?_
    exact N.retBy [1, 2] (.cons (.tmp rfl) .nil) rfl rfl rfl rfl ⟨by rw [decide_eq_false (by rintro rfl; exact hc10 rfl)]; rfl, rfl⟩
  ·
    refine W.skip ?_
    refine N.next ?_
    refine W.seq ?_
    refine W.seq ?_
    refine W.region ?_
    refine RL.q (Yld.assign rfl) rfl ?_
    refine RL.nil ?_
    refine N.next ?_
    refine W.block ?_
    refine W.loopK (ι := Nat) (fun j => (j ≤ l.length ∧ ∀ i : Nat, i < j → l[i]? = m[i]?)) (fun j => [(5, .int .i64 (j : Nat))]) (fun j => []) (fun j => l.length - j) (.cons (k := 0) rfl (.cons (k := 1) rfl .nil)) (.cons (k := 0) rfl (.cons (k := 1) rfl (.cons (k := 2) rfl .nil))) 0 ?_ ?_ ?_ ?_
    · exact ⟨Nat.zero_le _, fun _ h => absurd h (Nat.not_lt_zero _)⟩
    · exact (.as rfl (by first | rfl | (simp; done) | (congr 1; simp; done) | (congr 1; omega)) .nil)
    · exact .nil
    rintro j ⟨hj, hI⟩
    refine W.keep (.cons (k := 5) rfl (.cons (k := 0) rfl (.cons (k := 1) rfl .nil))) (.cons (k := 0) rfl (.cons (k := 1) rfl (.cons (k := 2) rfl .nil))) ?_
    refine W.seq ?_
    refine W.seq ?_
    refine W.region ?_
    refine RL.q (Yld.move rfl) rfl ?_
    refine RL.q (Yld.move rfl) rfl ?_
    refine RL.q (Yld.lenSl Try.underlying22 rfl) rfl ?_
    refine RL.q (Yld.bin rfl rfl BinV.lss) rfl ?_
    refine RL.nil ?_
    refine N.next ?_
    first | refine W.condD rfl (fun hc14 => ?_) (fun hc14 => ?_) | (refine W.cond rfl (fun hc14 => ?_) (fun hc14 => ?_) <;> try simp only [Bool.or_eq_true, Bool.and_eq_true, Bool.not_eq_true', Bool.not_eq_false', decide_eq_true_eq, Bool.or_eq_false_iff, Bool.and_eq_false_iff, decide_eq_false_iff_not, beq_iff_eq, beq_eq_false_iff_ne, ne_eq, Decidable.not_not] at hc14)
    ·
      obtain ⟨a, ha, hla⟩ := iz_at (show j < l.length by omega)
      obtain ⟨b, hb, hlb⟩ := iz_at (show j < m.length by omega)
      refine W.skip ?_
      refine N.next ?_
      refine W.keep (.cons (k := 0) rfl (.cons (k := 1) rfl (.cons (k := 5) rfl .nil))) (.cons (k := 0) rfl (.cons (k := 1) rfl (.cons (k := 2) rfl .nil))) ?_
      refine W.seq ?_
      refine W.block ?_
      refine W.seq ?_
      refine W.draw (.q 0 (.q 1 (.q 2 (.q 3 (.q 4 (.q 5 (.q 6 (.q 7 (.q 8 .done))))))))) (.cons (k := 0) rfl (.cons (k := 1) rfl (.cons (k := 2) rfl .nil))) mix (by kernel_rfl) (by kernel_rfl) ?_
      refine DL.q rfl (Yld.move rfl) rfl ?_
      refine DL.q rfl (Yld.move rfl) rfl ?_
      refine DL.q rfl (Yld.indexRow Try.underlying22 sz3 rfl rfl (by first | assumption | exact Own.sl (by assumption)) (by first | rfl | omega | (simp; done) | (simp; omega)) (by omega) (by first | omega | (simp; done) | (simp; omega))) rfl ?_
      refine DL.q rfl (by first | exact (by first | exact Yld.loadRow1 (cl := 1) Try.underlying3 rfl rfl rfl (by first | assumption | exact Own.sl (by assumption)) (by assumption) | exact Yld.loadRow1 (cl := 2) Try.underlying3 rfl rfl rfl (by first | assumption | exact Own.sl (by assumption)) (by assumption)) | exact (by first | exact Yld.loadRowF (cl := 1) (j := 0) Try.underlying3 rfl rfl rfl (by first | assumption | exact Own.sl (by assumption)) (by assumption) rfl | exact Yld.loadRowF (cl := 2) (j := 0) Try.underlying3 rfl rfl rfl (by first | assumption | exact Own.sl (by assumption)) (by assumption) rfl)) rfl ?_
      refine DL.q rfl (Yld.move rfl) rfl ?_
      refine DL.q rfl (Yld.move rfl) rfl ?_
      refine DL.q rfl (Yld.indexRow Try.underlying22 sz3 rfl rfl (by first | assumption | exact Own.sl (by assumption)) (by first | rfl | omega | (simp; done) | (simp; omega)) (by omega) (by first | omega | (simp; done) | (simp; omega))) rfl ?_
      refine DL.q rfl (by first | exact (by first | exact Yld.loadRow1 (cl := 1) Try.underlying3 rfl rfl rfl (by first | assumption | exact Own.sl (by assumption)) (by assumption) | exact Yld.loadRow1 (cl := 2) Try.underlying3 rfl rfl rfl (by first | assumption | exact Own.sl (by assumption)) (by assumption)) | exact (by first | exact Yld.loadRowF (cl := 1) (j := 0) Try.underlying3 rfl rfl rfl (by first | assumption | exact Own.sl (by assumption)) (by assumption) rfl | exact Yld.loadRowF (cl := 2) (j := 0) Try.underlying3 rfl rfl rfl (by first | assumption | exact Own.sl (by assumption)) (by assumption) rfl)) rfl ?_
      refine DL.q rfl (Yld.bin rfl rfl BinV.neq) rfl ?_
      refine DL.done ?_
      refine N.next ?_
      refine W.keep (.cons (k := 0) rfl (.cons (k := 1) rfl (.cons (k := 5) rfl (.cons (k := 25) rfl .nil)))) (.cons (k := 0) rfl (.cons (k := 1) rfl (.cons (k := 2) rfl .nil))) ?_
      first | refine W.condD rfl (fun hc25 => ?_) (fun hc25 => ?_) | (refine W.cond rfl (fun hc25 => ?_) (fun hc25 => ?_) <;> try simp only [Bool.or_eq_true, Bool.and_eq_true, Bool.not_eq_true', Bool.not_eq_false', decide_eq_true_eq, Bool.or_eq_false_iff, Bool.and_eq_false_iff, decide_eq_false_iff_not, beq_iff_eq, beq_eq_false_iff_ne, ne_eq, Decidable.not_not] at hc25)
      ·
        refine W.seq ?_
        refine W.region ?_
        refine RL.q (Yld.assign rfl) rfl ?_
        refine RL.nil ?_
        refine N.next ?_
        refine W.keep (.cons (k := 4) rfl .nil) (.cons (k := 0) rfl (.cons (k := 1) rfl (.cons (k := 2) rfl .nil))) ?_
        refine W.ret ?_
        refine N.block_ret ?_
        refine N.then_ret ?_
        refine N.then_ret ?_
        refine N.block_ret ?_
        refine N.then_ret ?_
        exact N.retBy [1, 2] (.cons (.tmp rfl) .nil) rfl rfl rfl rfl ⟨by rw [decide_eq_false (by rintro rfl; rw [ha] at hb; cases hb; exact hc25 rfl)]; rfl, rfl⟩
      ·
        refine W.skip ?_
        refine N.block_normal ?_
        refine N.next ?_
        refine W.region ?_
        refine RL.q (Yld.move rfl) rfl ?_
        refine RL.q (Yld.bin rfl rfl (by first | exact BinV.add (by omega) (by omega) | exact BinV.addW)) rfl ?_
        refine RL.q (Yld.assign rfl) rfl ?_
        refine RL.nil ?_
        exact N.famK (j + 1) ⟨⟨by omega, fun i hi => (Nat.lt_succ_iff_lt_or_eq.1 hi).elim (hI i) (fun e => by subst e; rw [ha, hb]; congr 1; omega)⟩, by omega⟩ (.as rfl (by first | rfl | (simp; done) | (congr 1; simp; done) | (congr 1; omega)) .nil) (.cons rfl (.cons rfl .nil)) .nil (.cons rfl (.cons rfl (.cons rfl .nil)))
    ·
      refine W.exit ?_
      refine N.then_exit ?_
      refine N.then_exit ?_
      refine N.block_eq ?_
      refine N.next ?_
      refine W.keep .nil (.cons (k := 0) rfl (.cons (k := 1) rfl (.cons (k := 2) rfl .nil))) ?_
      refine W.seq ?_
      refine W.region ?_
      refine RL.q (Yld.assign rfl) rfl ?_
      refine RL.nil ?_
      refine N.next ?_
      refine W.ret ?_
      exact N.retBy [1, 2] (.cons (.tmp rfl) .nil) rfl rfl rfl rfl ⟨by rw [decide_eq_true (eq_of_get (by omega) fun i hi => hI i (by omega))]; rfl, rfl⟩

/-- .. both within one piece -/
theorem ints1_ct (l m : List Int) (H1 : PH) (p q : Option Addr) (c d : Nat) (hl : Sl H1 p c 1 (iz l)) (hm : Sl H1 q d 1 (iz m)) : True := trivial

set_option maxRecDepth 100000 in
set_option maxHeartbeats 400000 in
theorem intsS_ct (l m : List Int) (H1 : PH) (p q : Option Addr) (c d : Nat) (hl : Sl H1 p c 1 (iz l)) (hm : Sl H1 q d 1 (iz m)) : Ct Try.prog 33 [.slice p l.length c, .slice q m.length d] [H1] (fun v Hs => v = .bool (decide (l = m)) ∧ Hs = [H1]) := by
  refine Ct.body Try.func33 rfl Try.ntmps33 rfl ?_
  intro E F
  have hmxl := hl.len_le
  simp only [iz_len, maxLen] at hmxl
  have hmxm := hm.len_le
  simp only [iz_len, maxLen] at hmxm
  refine W.seq ?_
  refine W.region ?_
  refine RL.q (Yld.assign rfl) rfl ?_
  refine RL.nil ?_
  refine N.next ?_
  refine W.seq ?_
  refine W.seq ?_
  refine W.region ?_
  refine RL.q (Yld.move rfl) rfl ?_
  refine RL.q (Yld.lenSl Try.underlying22 rfl) rfl ?_
  refine RL.q (Yld.move rfl) rfl ?_
  refine RL.q (Yld.lenSl Try.underlying22 rfl) rfl ?_
  refine RL.q (Yld.bin rfl rfl BinV.neq) rfl ?_
  refine RL.nil ?_
  refine N.next ?_
  refine W.keep (.cons (k := 0) rfl (.cons (k := 1) rfl (.cons (k := 10) rfl .nil))) (.cons (k := 0) rfl (.cons (k := 1) rfl .nil)) ?_
  first | refine W.condD rfl (fun hc10 => ?_) (fun hc10 => ?_) | (refine W.cond rfl (fun hc10 => ?_) (fun hc10 => ?_) <;> try simp only [Bool.or_eq_true, Bool.and_eq_true, Bool.not_eq_true', Bool.not_eq_false', decide_eq_true_eq, Bool.or_eq_false_iff, Bool.and_eq_false_iff, decide_eq_false_iff_not, beq_iff_eq, beq_eq_false_iff_ne, ne_eq, Decidable.not_not] at hc10)
  ·
    refine W.seq ?_
    refine W.region ?_
    refine RL.q (Yld.assign rfl) rfl ?_
    refine RL.nil ?_
    refine N.next ?_
    refine W.ret ?_
    refine N.then_ret ?_
    exact N.retBy [1] (.cons (.tmp rfl) .nil) rfl rfl rfl rfl ⟨by rw [decide_eq_false (by rintro rfl; exact hc10 rfl)]; rfl, rfl⟩
  ·
    refine W.skip ?_
    refine N.next ?_
    refine W.seq ?_
    refine W.seq ?_
    refine W.region ?_
    refine RL.q (Yld.assign rfl) rfl ?_
    refine RL.nil ?_
    refine N.next ?_
    refine W.block ?_
    refine W.loopK (ι := Nat) (fun j => (j ≤ l.length ∧ ∀ i : Nat, i < j → l[i]? = m[i]?)) (fun j => [(5, .int .i64 (j : Nat))]) (fun j => []) (fun j => l.length - j) (.cons (k := 0) rfl (.cons (k := 1) rfl .nil)) (.cons (k := 0) rfl (.cons (k := 1) rfl .nil)) 0 ?_ ?_ ?_ ?_
    · exact ⟨Nat.zero_le _, fun _ h => absurd h (Nat.not_lt_zero _)⟩
    · exact (.as rfl (by first | rfl | (simp; done) | (congr 1; simp; done) | (congr 1; omega)) .nil)
    · exact .nil
    rintro j ⟨hj, hI⟩
    refine W.keep (.cons (k := 5) rfl (.cons (k := 0) rfl (.cons (k := 1) rfl .nil))) (.cons (k := 0) rfl (.cons (k := 1) rfl .nil)) ?_
    refine W.seq ?_
    refine W.seq ?_
    refine W.region ?_
    refine RL.q (Yld.move rfl) rfl ?_
    refine RL.q (Yld.move rfl) rfl ?_
    refine RL.q (Yld.lenSl Try.underlying22 rfl) rfl ?_
    refine RL.q (Yld.bin rfl rfl BinV.lss) rfl ?_
    refine RL.nil ?_
    refine N.next ?_
    first | refine W.condD rfl (fun hc14 => ?_) (fun hc14 => ?_) | (refine W.cond rfl (fun hc14 => ?_) (fun hc14 => ?_) <;> try simp only [Bool.or_eq_true, Bool.and_eq_true, Bool.not_eq_true', Bool.not_eq_false', decide_eq_true_eq, Bool.or_eq_false_iff, Bool.and_eq_false_iff, decide_eq_false_iff_not, beq_iff_eq, beq_eq_false_iff_ne, ne_eq, Decidable.not_not] at hc14)
    ·
      obtain ⟨a, ha, hla⟩ := iz_at (show j < l.length by omega)
      obtain ⟨b, hb, hlb⟩ := iz_at (show j < m.length by omega)
      refine W.skip ?_
      refine N.next ?_
      refine W.keep (.cons (k := 0) rfl (.cons (k := 1) rfl (.cons (k := 5) rfl .nil))) (.cons (k := 0) rfl (.cons (k := 1) rfl .nil)) ?_
      refine W.seq ?_
      refine W.block ?_
      refine W.seq ?_
      refine W.draw (.q 0 (.q 1 (.q 2 (.q 3 (.q 4 (.q 5 (.q 6 (.q 7 (.q 8 .done))))))))) (.cons (k := 0) rfl (.cons (k := 1) rfl .nil)) mix (by kernel_rfl) (by kernel_rfl) ?_
      refine DL.q rfl (Yld.move rfl) rfl ?_
      refine DL.q rfl (Yld.move rfl) rfl ?_
      refine DL.q rfl (Yld.indexRow Try.underlying22 sz3 rfl rfl hl (by first | rfl | omega | (simp; done) | (simp; omega)) (by omega) (by first | omega | (simp; done) | (simp; omega))) rfl ?_
      refine DL.q rfl (Yld.loadRow1 (cl := 1) Try.underlying3 rfl rfl rfl hl hla) rfl ?_
      refine DL.q rfl (Yld.move rfl) rfl ?_
      refine DL.q rfl (Yld.move rfl) rfl ?_
      refine DL.q rfl (Yld.indexRow Try.underlying22 sz3 rfl rfl hm (by first | rfl | omega | (simp; done) | (simp; omega)) (by omega) (by first | omega | (simp; done) | (simp; omega))) rfl ?_
      refine DL.q rfl (Yld.loadRow1 (cl := 1) Try.underlying3 rfl rfl rfl hm hlb) rfl ?_
      refine DL.q rfl (Yld.bin rfl rfl BinV.neq) rfl ?_
      refine DL.done ?_
      refine N.next ?_
      refine W.keep (.cons (k := 0) rfl (.cons (k := 1) rfl (.cons (k := 5) rfl (.cons (k := 25) rfl .nil)))) (.cons (k := 0) rfl (.cons (k := 1) rfl .nil)) ?_
      first | refine W.condD rfl (fun hc25 => ?_) (fun hc25 => ?_) | (refine W.cond rfl (fun hc25 => ?_) (fun hc25 => ?_) <;> try simp only [Bool.or_eq_true, Bool.and_eq_true, Bool.not_eq_true', Bool.not_eq_false', decide_eq_true_eq, Bool.or_eq_false_iff, Bool.and_eq_false_iff, decide_eq_false_iff_not, beq_iff_eq, beq_eq_false_iff_ne, ne_eq, Decidable.not_not] at hc25)
      ·
        refine W.seq ?_
        refine W.region ?_
        refine RL.q (Yld.assign rfl) rfl ?_
        refine RL.nil ?_
        refine N.next ?_
        refine W.keep (.cons (k := 4) rfl .nil) (.cons (k := 0) rfl (.cons (k := 1) rfl .nil)) ?_
        refine W.ret ?_
        refine N.block_ret ?_
        refine N.then_ret ?_
        refine N.then_ret ?_
        refine N.block_ret ?_
        refine N.then_ret ?_
        exact N.retBy [1] (.cons (.tmp rfl) .nil) rfl rfl rfl rfl ⟨by rw [decide_eq_false (by rintro rfl; rw [ha] at hb; cases hb; exact hc25 rfl)]; rfl, rfl⟩
      ·
        refine W.skip ?_
        refine N.block_normal ?_
        refine N.next ?_
        refine W.region ?_
        refine RL.q (Yld.move rfl) rfl ?_
        refine RL.q (Yld.bin rfl rfl (by first | exact BinV.add (by omega) (by omega) | exact BinV.addW)) rfl ?_
        refine RL.q (Yld.assign rfl) rfl ?_
        refine RL.nil ?_
        exact N.famK (j + 1) ⟨⟨by omega, fun i hi => (Nat.lt_succ_iff_lt_or_eq.1 hi).elim (hI i) (fun e => by subst e; rw [ha, hb]; congr 1; omega)⟩, by omega⟩ (.as rfl (by first | rfl | (simp; done) | (congr 1; simp; done) | (congr 1; omega)) .nil) (.cons rfl (.cons rfl .nil)) .nil (.cons rfl (.cons rfl .nil))
    ·
      refine W.exit ?_
      refine N.then_exit ?_
      refine N.then_exit ?_
      refine N.block_eq ?_
      refine N.next ?_
      refine W.keep .nil (.cons (k := 0) rfl (.cons (k := 1) rfl .nil)) ?_
      refine W.seq ?_
      refine W.region ?_
      refine RL.q (Yld.assign rfl) rfl ?_
      refine RL.nil ?_
      refine N.next ?_
      refine W.ret ?_
      exact N.retBy [1] (.cons (.tmp rfl) .nil) rfl rfl rfl rfl ⟨by rw [decide_eq_true (eq_of_get (by omega) fun i hi => hI i (by omega))]; rfl, rfl⟩

set_option maxRecDepth 100000 in
set_option maxHeartbeats 400000 in
theorem has_ct (l : List Int) (H1 : PH) (p : Option Addr) (c : Nat) (hl : Sl H1 p c 1 (iz l)) (n : Int) : Ct Try.prog 37 [.slice p l.length c, .int .i64 n] [H1] (fun v Hs => v = .bool (decide (n ∈ l)) ∧ Hs = [H1]) := by
  refine Ct.body Try.func37 rfl Try.ntmps37 rfl ?_
  intro E F
  have hmxl := hl.len_le
  simp only [iz_len, maxLen] at hmxl
  refine W.seq ?_
  refine W.region ?_
  refine RL.q (Yld.assign rfl) rfl ?_
  refine RL.nil ?_
  refine N.next ?_
  refine W.seq ?_
  refine W.seq ?_
  refine W.region ?_
  refine RL.q (Yld.assign rfl) rfl ?_
  refine RL.nil ?_
  refine N.next ?_
  refine W.block ?_
  refine W.loopK (ι := Nat) (fun j => (j ≤ l.length ∧ ∀ (i : Nat) z, i < j → l[i]? = some z → z ≠ n)) (fun j => [(5, .int .i64 (j : Nat))]) (fun j => []) (fun j => l.length - j) (.cons (k := 0) rfl (.cons (k := 1) rfl .nil)) (.cons (k := 0) rfl (.cons (k := 1) rfl .nil)) 0 ?_ ?_ ?_ ?_
  · exact ⟨Nat.zero_le _, upto0⟩
  · exact (.as rfl (by first | rfl | (simp; done) | (congr 1; simp; done) | (congr 1; omega)) .nil)
  · exact .nil
  rintro j ⟨hj, hI⟩
  refine W.keep (.cons (k := 5) rfl (.cons (k := 0) rfl (.cons (k := 1) rfl .nil))) (.cons (k := 0) rfl (.cons (k := 1) rfl .nil)) ?_
  refine W.seq ?_
  refine W.seq ?_
  refine W.region ?_
  refine RL.q (Yld.move rfl) rfl ?_
  refine RL.q (Yld.move rfl) rfl ?_
  refine RL.q (Yld.lenSl Try.underlying22 rfl) rfl ?_
  refine RL.q (Yld.bin rfl rfl BinV.lss) rfl ?_
  refine RL.nil ?_
  refine N.next ?_
  first | refine W.condD rfl (fun hc9 => ?_) (fun hc9 => ?_) | (refine W.cond rfl (fun hc9 => ?_) (fun hc9 => ?_) <;> try simp only [Bool.or_eq_true, Bool.and_eq_true, Bool.not_eq_true', Bool.not_eq_false', decide_eq_true_eq, Bool.or_eq_false_iff, Bool.and_eq_false_iff, decide_eq_false_iff_not, beq_iff_eq, beq_eq_false_iff_ne, ne_eq, Decidable.not_not] at hc9)
  ·
    obtain ⟨z, hz, hlz⟩ := iz_at (show j < l.length by omega)
    refine W.skip ?_
    refine N.next ?_
    refine W.keep (.cons (k := 0) rfl (.cons (k := 1) rfl (.cons (k := 5) rfl .nil))) (.cons (k := 0) rfl (.cons (k := 1) rfl .nil)) ?_
    refine W.seq ?_
    refine W.block ?_
    refine W.seq ?_
    refine W.region ?_
    refine RL.q (Yld.move rfl) rfl ?_
    refine RL.q (Yld.move rfl) rfl ?_
    refine RL.q (Yld.indexRow Try.underlying22 sz3 rfl rfl (by first | assumption | exact Own.sl (by assumption)) (by first | rfl | omega | (simp; done) | (simp; omega)) (by omega) (by first | omega | (simp; done) | (simp; omega))) rfl ?_
    refine RL.q (by first | exact (Yld.loadRow1 (cl := 1) Try.underlying3 rfl rfl rfl (by first | assumption | exact Own.sl (by assumption)) (by assumption)) | exact (Yld.loadRowF (cl := 1) (j := 0) Try.underlying3 rfl rfl rfl (by first | assumption | exact Own.sl (by assumption)) (by assumption) rfl)) rfl ?_
    refine RL.q (Yld.move rfl) rfl ?_
    refine RL.q (Yld.bin rfl rfl BinV.eql) rfl ?_
    refine RL.nil ?_
    refine N.next ?_
    refine W.keep (.cons (k := 0) rfl (.cons (k := 1) rfl (.cons (k := 5) rfl (.cons (k := 17) rfl .nil)))) (.cons (k := 0) rfl (.cons (k := 1) rfl .nil)) ?_
    first | refine W.condD rfl (fun hc17 => ?_) (fun hc17 => ?_) | (refine W.cond rfl (fun hc17 => ?_) (fun hc17 => ?_) <;> try simp only [Bool.or_eq_true, Bool.and_eq_true, Bool.not_eq_true', Bool.not_eq_false', decide_eq_true_eq, Bool.or_eq_false_iff, Bool.and_eq_false_iff, decide_eq_false_iff_not, beq_iff_eq, beq_eq_false_iff_ne, ne_eq, Decidable.not_not] at hc17)
    ·
      refine W.seq ?_
      refine W.region ?_
      refine RL.q (Yld.assign rfl) rfl ?_
      refine RL.nil ?_
      refine N.next ?_
      refine W.keep (.cons (k := 4) rfl .nil) (.cons (k := 0) rfl (.cons (k := 1) rfl .nil)) ?_
      refine W.ret ?_
      refine N.block_ret ?_
      refine N.then_ret ?_
      refine N.then_ret ?_
      refine N.block_ret ?_
      refine N.then_ret ?_
      exact N.retBy [1] (.cons (.tmp rfl) .nil) rfl rfl rfl rfl ⟨by rw [decide_eq_true (by rw [← hc17]; exact List.mem_of_getElem? hz)]; rfl, rfl⟩
    ·
      refine W.skip ?_
      refine N.block_normal ?_
      refine N.next ?_
      refine W.region ?_
      refine RL.q (Yld.move rfl) rfl ?_
      refine RL.q (Yld.bin rfl rfl (by first | exact BinV.add (by omega) (by omega) | exact BinV.addW)) rfl ?_
      refine RL.q (Yld.assign rfl) rfl ?_
      refine RL.nil ?_
      exact N.famK (j + 1) ⟨⟨by omega, upto hI hz hc17⟩, by omega⟩ (.as rfl (by first | rfl | (simp; done) | (congr 1; simp; done) | (congr 1; omega)) .nil) (.cons rfl (.cons rfl .nil)) .nil (.cons rfl (.cons rfl .nil))
  ·
    refine W.exit ?_
    refine N.then_exit ?_
    refine N.then_exit ?_
    refine N.block_eq ?_
    refine N.next ?_
    refine W.keep .nil (.cons (k := 0) rfl (.cons (k := 1) rfl .nil)) ?_
    refine W.seq ?_
    refine W.region ?_
    refine RL.q (Yld.assign rfl) rfl ?_
    refine RL.nil ?_
    refine N.next ?_
    refine W.ret ?_
    exact N.retBy [1] (.cons (.tmp rfl) .nil) rfl rfl rfl rfl ⟨by rw [decide_eq_false (fun h => by obtain ⟨i, hi⟩ := List.getElem?_of_mem h; exact hI i n (by have := (List.getElem?_eq_some_iff.1 hi).1; omega) hi rfl)]; rfl, rfl⟩

set_option maxRecDepth 100000 in
set_option maxHeartbeats 1600000 in
theorem rset_ct (l : List Int) (H1 : PH) (p : Option Addr) (c : Nat) (hl : Sl H1 p c 1 (iz l)) (hb : l.length ≤ 1000000) : Ct Try.prog 34 [.slice p l.length c] [H1] (fun v Hs => ∃ H' p' c', v = .slice p' (setL l).length c' ∧ Own H' p' c' 3 1 (iz (setL l)) ∧ Hs = [H1, H']) := by
  refine Ct.body Try.func34 rfl Try.ntmps34 rfl ?_
  intro E F
  have hmxl := hl.len_le
  simp only [iz_len, maxLen] at hmxl
  refine W.seq ?_
  refine W.region ?_
  refine RL.q (Yld.assign rfl) rfl ?_
  refine RL.nil ?_
  refine N.next ?_
  refine W.seq ?_
  refine W.region ?_
  refine RL.e (Eff.buildSlice 106 Try.underlying22 sz3 zc3 rfl rfl .nil rfl) rfl ?_
  rintro _ _ ⟨b6, rfl, rfl⟩
  refine RL.q (Yld.assign rfl) rfl ?_
  refine RL.nil ?_
  refine N.next ?_
  refine W.seq ?_
  refine W.seq ?_
  refine W.region ?_
  refine RL.q (Yld.assign rfl) rfl ?_
  refine RL.nil ?_
  refine N.next ?_
  refine W.block ?_
  refine W.loopK (ι := SI) (fun x => (x.i ≤ l.length ∧ Own x.H x.p x.c 3 1 (iz x.s) ∧ IsSet (l.take x.i) x.s)) (fun x => [(3, .slice x.p x.s.length x.c), (4, .int .i64 (x.i : Nat))]) (fun x => [(106, x.H)]) (fun x => l.length - x.i) (.cons (k := 0) rfl .nil) (.cons (k := 0) rfl (.cons (k := 1) rfl .nil)) ⟨0, single b6 (.cells [].toArray 3 (0, 0)), some ⟨b6, 0, none⟩, 0, []⟩ ?_ ?_ ?_ ?_
  · exact ⟨Nat.zero_le _, iz_none rfl, IsSet.nil⟩
  · exact (.as rfl (by first | rfl | (simp; done) | (congr 1; simp; done) | (congr 1; omega)) (.as rfl (by first | rfl | (simp; done) | (congr 1; simp; done) | (congr 1; omega)) .nil))
  · exact (.cons rfl .nil)
  rintro x ⟨hi, hO, hs⟩
  refine W.keep (.cons (k := 3) rfl (.cons (k := 4) rfl (.cons (k := 0) rfl .nil))) (.cons (k := 106) rfl (.cons (k := 0) rfl (.cons (k := 1) rfl .nil))) ?_
  refine W.seq ?_
  refine W.seq ?_
  refine W.region ?_
  refine RL.q (Yld.move rfl) rfl ?_
  refine RL.q (Yld.move rfl) rfl ?_
  refine RL.q (Yld.lenSl Try.underlying22 rfl) rfl ?_
  refine RL.q (Yld.bin rfl rfl BinV.lss) rfl ?_
  refine RL.nil ?_
  refine N.next ?_
  first | refine W.condD rfl (fun hc10 => ?_) (fun hc10 => ?_) | (refine W.cond rfl (fun hc10 => ?_) (fun hc10 => ?_) <;> try simp only [Bool.or_eq_true, Bool.and_eq_true, Bool.not_eq_true', Bool.not_eq_false', decide_eq_true_eq, Bool.or_eq_false_iff, Bool.and_eq_false_iff, decide_eq_false_iff_not, beq_iff_eq, beq_eq_false_iff_ne, ne_eq, Decidable.not_not] at hc10)
  ·
    obtain ⟨z, hz, hlz⟩ := iz_at (show x.i < l.length by omega)
    have hsl := hs.len
    rw [List.length_take] at hsl
    have hcx := hO.sl.len_le
    simp only [iz_len, maxLen] at hcx
    refine W.skip ?_
    refine N.next ?_
    refine W.keep (.cons (k := 0) rfl (.cons (k := 3) rfl (.cons (k := 4) rfl .nil))) (.cons (k := 0) rfl (.cons (k := 1) rfl (.cons (k := 106) rfl .nil))) ?_
    refine W.seq ?_
    refine W.block ?_
    refine W.seq ?_
    refine W.seq ?_
    refine W.region ?_
    refine RL.q (Yld.move rfl) rfl ?_
    refine RL.q (Yld.move rfl) rfl ?_
    refine RL.q (Yld.indexRow Try.underlying22 sz3 rfl rfl (by first | assumption | exact Own.sl (by assumption)) (by first | rfl | omega | (simp; done) | (simp; omega)) (by omega) (by first | omega | (simp; done) | (simp; omega))) rfl ?_
    refine RL.q (by first | exact (by first | exact Yld.loadRow1 (cl := 1) Try.underlying3 rfl rfl rfl (by first | assumption | exact Own.sl (by assumption)) (by assumption) | exact Yld.loadRow1 (cl := 106) Try.underlying3 rfl rfl rfl (by first | assumption | exact Own.sl (by assumption)) (by assumption)) | exact (by first | exact Yld.loadRowF (cl := 1) (j := 0) Try.underlying3 rfl rfl rfl (by first | assumption | exact Own.sl (by assumption)) (by assumption) rfl | exact Yld.loadRowF (cl := 106) (j := 0) Try.underlying3 rfl rfl rfl (by first | assumption | exact Own.sl (by assumption)) (by assumption) rfl)) rfl ?_
    refine RL.q (Yld.bin rfl rfl BinV.lss) rfl ?_
    refine RL.q (Yld.move rfl) rfl ?_
    refine' RL.or (t := 18) (d := 25) 7 rfl (.cons (k := 0) rfl (.cons (k := 3) rfl (.cons (k := 4) rfl (.cons (k := 13) rfl (.cons (k := 14) rfl (.cons (k := 15) rfl (.cons (k := 16) rfl (.cons (k := 17) rfl .nil)))))))) (.cons (k := 0) rfl (.cons (k := 1) rfl (.cons (k := 106) rfl .nil))) ?_ ?_ ?_
    rotate_left 1
    ·
      intro hg18
      refine RL.gq rfl rfl (Yld.move rfl) rfl ?_
      refine RL.gq rfl rfl (Yld.move rfl) rfl ?_
      refine RL.gq rfl rfl (Yld.move rfl) rfl ?_
      refine RL.gq rfl rfl (Yld.indexRow Try.underlying22 sz3 rfl rfl (by first | assumption | exact Own.sl (by assumption)) (by first | rfl | omega | (simp; done) | (simp; omega)) (by omega) (by first | omega | (simp; done) | (simp; omega))) rfl ?_
      refine RL.gq rfl rfl (by first | exact (by first | exact Yld.loadRow1 (cl := 1) Try.underlying3 rfl rfl rfl (by first | assumption | exact Own.sl (by assumption)) (by assumption) | exact Yld.loadRow1 (cl := 106) Try.underlying3 rfl rfl rfl (by first | assumption | exact Own.sl (by assumption)) (by assumption)) | exact (by first | exact Yld.loadRowF (cl := 1) (j := 0) Try.underlying3 rfl rfl rfl (by first | assumption | exact Own.sl (by assumption)) (by assumption) rfl | exact Yld.loadRowF (cl := 106) (j := 0) Try.underlying3 rfl rfl rfl (by first | assumption | exact Own.sl (by assumption)) (by assumption) rfl)) rfl ?_
      refine RL.ge rfl rfl (Eff.call ent37 [106] [106] (.cons rfl (.cons rfl .nil)) (has_ct x.s _ _ _ hO.sl z) rfl rfl rfl rfl (by rintro _ _ ⟨_, rfl⟩; rfl)) rfl ?_
      rintro _ _ ⟨_, ⟨rfl, rfl⟩, rfl⟩
      refine RL.q (by first | exact Yld.pickT rfl rfl | exact Yld.pickF rfl rfl) rfl ?_
      exact RL.nil (N.meet (.cons rfl (.cons rfl (.cons rfl (.cons rfl (.cons rfl (.cons rfl (.cons rfl (.cons rfl (.cons rfl .nil))))))))) (.cons rfl (.cons rfl (.cons rfl .nil))))
    ·
      intro hg18
      refine RL.gskip rfl rfl rfl rfl ?_
      refine RL.gskip rfl rfl rfl rfl ?_
      refine RL.gskip rfl rfl rfl rfl ?_
      refine RL.gskip rfl rfl rfl rfl ?_
      refine RL.gskip rfl rfl rfl rfl ?_
      refine RL.gskip rfl rfl rfl rfl ?_
      refine RL.q (by first | exact Yld.pickT rfl rfl | exact Yld.pickF rfl rfl) rfl ?_
      exact RL.nil (N.meet (.cons rfl (.cons rfl (.cons rfl (.cons rfl (.cons rfl (.cons rfl (.cons rfl (.cons rfl (.cons rfl .nil))))))))) (.cons rfl (.cons rfl (.cons rfl .nil))))
    refine RL.nil ?_
    refine N.next ?_
    refine W.keep (.cons (k := 0) rfl (.cons (k := 3) rfl (.cons (k := 4) rfl (.cons (k := 25) rfl .nil)))) (.cons (k := 0) rfl (.cons (k := 1) rfl (.cons (k := 106) rfl .nil))) ?_
    first | refine W.condD rfl (fun hc25 => ?_) (fun hc25 => ?_) | (refine W.cond rfl (fun hc25 => ?_) (fun hc25 => ?_) <;> try simp only [Bool.or_eq_true, Bool.and_eq_true, Bool.not_eq_true', Bool.not_eq_false', decide_eq_true_eq, Bool.or_eq_false_iff, Bool.and_eq_false_iff, decide_eq_false_iff_not, beq_iff_eq, beq_eq_false_iff_ne, ne_eq, Decidable.not_not] at hc25)
    ·
      refine W.exit ?_
      refine N.then_exit ?_
      refine N.block_eq ?_
      refine N.next ?_
      refine W.region ?_
      refine RL.q (Yld.move rfl) rfl ?_
      refine RL.q (Yld.bin rfl rfl (by first | exact BinV.add (by omega) (by omega) | exact BinV.addW)) rfl ?_
      refine RL.q (Yld.assign rfl) rfl ?_
      refine RL.nil ?_
      exact N.famK ⟨x.i + 1, x.H, x.p, x.c, x.s⟩ ⟨⟨by dsimp only; omega, hO, hs.skip hz hc25⟩, by dsimp only; omega⟩ (.as rfl (by first | rfl | (simp; done) | (congr 1; simp; done) | (congr 1; omega)) (.as rfl (by first | rfl | (simp; done) | (congr 1; simp; done) | (congr 1; omega)) .nil)) (.cons rfl .nil) (.cons rfl .nil) (.cons rfl (.cons rfl .nil))
    ·
      refine W.skip ?_
      refine N.next ?_
      refine W.seq ?_
      refine W.region ?_
      refine RL.q (Yld.assign rfl) rfl ?_
      refine RL.nil ?_
      refine N.next ?_
      refine W.seq ?_
      refine W.block ?_
      refine W.loopK (ι := Nat) (fun k => (k ≤ x.s.length ∧ ∀ (i : Nat) y, i < k → x.s[i]? = some y → y < z)) (fun k => [(5, .int .i64 (k : Nat))]) (fun k => []) (fun k => x.s.length - k) (.cons (k := 0) rfl (.cons (k := 3) rfl (.cons (k := 4) rfl .nil))) (.cons (k := 0) rfl (.cons (k := 1) rfl (.cons (k := 106) rfl .nil))) 0 ?_ ?_ ?_ ?_
      · exact ⟨Nat.zero_le _, upto0⟩
      · exact (.as rfl (by first | rfl | (simp; done) | (congr 1; simp; done) | (congr 1; omega)) .nil)
      · exact .nil
      rintro k ⟨hk, hkI⟩
      refine W.keep (.cons (k := 5) rfl (.cons (k := 0) rfl (.cons (k := 3) rfl (.cons (k := 4) rfl .nil)))) (.cons (k := 0) rfl (.cons (k := 1) rfl (.cons (k := 106) rfl .nil))) ?_
      refine W.seq ?_
      refine W.seq ?_
      refine W.draw (.q 0 (.q 1 (.q 2 (.q 3 (.q 4 (.q 5 (.q 6 (.q 7 (.q 8 (.q 9 (.q 10 (.q 11 (.q 12 (.q 13 (.q 14 .done))))))))))))))) (.cons (k := 0) rfl (.cons (k := 1) rfl (.cons (k := 106) rfl .nil))) mix (by kernel_rfl) (by kernel_rfl) ?_
      refine DL.q rfl (Yld.move rfl) rfl ?_
      refine DL.q rfl (Yld.move rfl) rfl ?_
      refine DL.q rfl (Yld.lenSl Try.underlying22 rfl) rfl ?_
      refine DL.q rfl (Yld.bin rfl rfl BinV.lss) rfl ?_
      refine DL.q rfl (Yld.move rfl) rfl ?_
      refine' DL.and (t := 30) (d := 40) 10 rfl (.cons (k := 0) rfl (.cons (k := 3) rfl (.cons (k := 4) rfl (.cons (k := 5) rfl (.cons (k := 26) rfl (.cons (k := 27) rfl (.cons (k := 28) rfl (.cons (k := 29) rfl .nil)))))))) (.cons (k := 0) rfl (.cons (k := 1) rfl (.cons (k := 106) rfl .nil))) ?_ ?_ ?_
      rotate_left 1
      ·
        intro hg30
        have hg30 := of_decide_eq_true hg30
        have hly := iz_getD (show k < x.s.length by omega)
        refine DL.gq rfl rfl rfl (Yld.move rfl) rfl ?_
        refine DL.gq rfl rfl rfl (Yld.move rfl) rfl ?_
        refine DL.gq rfl rfl rfl (Yld.indexRow Try.underlying22 sz3 rfl rfl (by first | assumption | exact Own.sl (by assumption)) (by first | rfl | omega | (simp; done) | (simp; omega)) (by omega) (by first | omega | (simp; done) | (simp; omega))) rfl ?_
        refine DL.gq rfl rfl rfl (by first | exact (by first | exact Yld.loadRow1 (cl := 1) Try.underlying3 rfl rfl rfl (by first | assumption | exact Own.sl (by assumption)) (by assumption) | exact Yld.loadRow1 (cl := 106) Try.underlying3 rfl rfl rfl (by first | assumption | exact Own.sl (by assumption)) (by assumption)) | exact (by first | exact Yld.loadRowF (cl := 1) (j := 0) Try.underlying3 rfl rfl rfl (by first | assumption | exact Own.sl (by assumption)) (by assumption) rfl | exact Yld.loadRowF (cl := 106) (j := 0) Try.underlying3 rfl rfl rfl (by first | assumption | exact Own.sl (by assumption)) (by assumption) rfl)) rfl ?_
        refine DL.gq rfl rfl rfl (Yld.move rfl) rfl ?_
        refine DL.gq rfl rfl rfl (Yld.move rfl) rfl ?_
        refine DL.gq rfl rfl rfl (Yld.indexRow Try.underlying22 sz3 rfl rfl (by first | assumption | exact Own.sl (by assumption)) (by first | rfl | omega | (simp; done) | (simp; omega)) (by omega) (by first | omega | (simp; done) | (simp; omega))) rfl ?_
        refine DL.gq rfl rfl rfl (by first | exact (by first | exact Yld.loadRow1 (cl := 1) Try.underlying3 rfl rfl rfl (by first | assumption | exact Own.sl (by assumption)) (by assumption) | exact Yld.loadRow1 (cl := 106) Try.underlying3 rfl rfl rfl (by first | assumption | exact Own.sl (by assumption)) (by assumption)) | exact (by first | exact Yld.loadRowF (cl := 1) (j := 0) Try.underlying3 rfl rfl rfl (by first | assumption | exact Own.sl (by assumption)) (by assumption) rfl | exact Yld.loadRowF (cl := 106) (j := 0) Try.underlying3 rfl rfl rfl (by first | assumption | exact Own.sl (by assumption)) (by assumption) rfl)) rfl ?_
        refine DL.gq rfl rfl rfl (Yld.bin rfl rfl BinV.lss) rfl ?_
        refine DL.q rfl (by first | exact Yld.pickT rfl rfl | exact Yld.pickF rfl rfl) rfl ?_
        exact DL.meet (.cons rfl (.cons rfl (.cons rfl (.cons rfl (.cons rfl (.cons rfl (.cons rfl (.cons rfl (.cons rfl .nil))))))))) (.cons rfl (.cons rfl (.cons rfl .nil)))
      ·
        intro hg30
        refine DL.gskip rfl rfl rfl rfl rfl ?_
        refine DL.gskip rfl rfl rfl rfl rfl ?_
        refine DL.gskip rfl rfl rfl rfl rfl ?_
        refine DL.gskip rfl rfl rfl rfl rfl ?_
        refine DL.gskip rfl rfl rfl rfl rfl ?_
        refine DL.gskip rfl rfl rfl rfl rfl ?_
        refine DL.gskip rfl rfl rfl rfl rfl ?_
        refine DL.gskip rfl rfl rfl rfl rfl ?_
        refine DL.gskip rfl rfl rfl rfl rfl ?_
        refine DL.q rfl (by first | exact Yld.pickT rfl rfl | exact Yld.pickF rfl rfl) rfl ?_
        exact DL.meet (.cons rfl (.cons rfl (.cons rfl (.cons rfl (.cons rfl (.cons rfl (.cons rfl (.cons rfl (.cons rfl .nil))))))))) (.cons rfl (.cons rfl (.cons rfl .nil)))
      refine DL.done ?_
      refine N.next ?_
      refine W.keep (.cons (k := 0) rfl (.cons (k := 3) rfl (.cons (k := 4) rfl (.cons (k := 5) rfl (.cons (k := 40) rfl .nil))))) (.cons (k := 0) rfl (.cons (k := 1) rfl (.cons (k := 106) rfl .nil))) ?_
      first | refine W.condD rfl (fun hc40 => ?_) (fun hc40 => ?_) | (refine W.cond rfl (fun hc40 => ?_) (fun hc40 => ?_) <;> try simp only [Bool.or_eq_true, Bool.and_eq_true, Bool.not_eq_true', Bool.not_eq_false', decide_eq_true_eq, Bool.or_eq_false_iff, Bool.and_eq_false_iff, decide_eq_false_iff_not, beq_iff_eq, beq_eq_false_iff_ne, ne_eq, Decidable.not_not] at hc40)
      ·
        refine W.skip ?_
        refine N.next ?_
        refine W.block ?_
        refine W.region ?_
        refine RL.q (Yld.move rfl) rfl ?_
        refine RL.q (Yld.bin rfl rfl (by first | exact BinV.add (by omega) (by omega) | exact BinV.addW)) rfl ?_
        refine RL.q (Yld.assign rfl) rfl ?_
        refine RL.nil ?_
        refine N.block_normal ?_
        exact N.famK (k + 1) ⟨⟨by omega, upto hkI (List.getElem?_eq_getElem (show k < x.s.length by omega)) (by have h := hc40.2; rw [List.getD_eq_getElem?_getD, List.getElem?_eq_getElem (show k < x.s.length by omega)] at h; exact h)⟩, by omega⟩ (.as rfl (by first | rfl | (simp; done) | (congr 1; simp; done) | (congr 1; omega)) .nil) (.cons rfl (.cons rfl (.cons rfl .nil))) .nil (.cons rfl (.cons rfl (.cons rfl .nil)))
      ·
        refine W.exit ?_
        refine N.then_exit ?_
        refine N.then_exit ?_
        refine N.block_eq ?_
        refine N.next ?_
        refine W.draw (.q 1 (.q 2 (.q 3 (.q 5 (.q 6 (.q 7 (.q 8 (.q 11 (.q 12 (.q 13 (.two 0 (.two 4 (.one 9 (.one 10 (.one 14 (.q 15 .done)))) 9 (.one 4 (.one 10 (.one 14 (.q 15 .done))))) 9 (.one 0 (.one 4 (.one 10 (.one 14 (.q 15 .done)))))))))))))))) (.cons (k := 0) rfl (.cons (k := 1) rfl (.cons (k := 106) rfl .nil))) mix (by kernel_rfl) (by kernel_rfl) ?_
        refine DL.q rfl (Yld.move rfl) rfl ?_
        refine DL.q rfl (Yld.move rfl) rfl ?_
        refine DL.q rfl (Yld.sliceH Try.underlying22 sz3 rfl rfl (by omega) (by first | omega | (simp; done) | (simp; omega))) rfl ?_
        refine DL.q rfl (Yld.move rfl) rfl ?_
        refine DL.q rfl (Yld.move rfl) rfl ?_
        refine DL.q rfl (Yld.indexRow Try.underlying22 sz3 rfl rfl (by first | assumption | exact Own.sl (by assumption)) (by first | rfl | omega | (simp; done) | (simp; omega)) (by omega) (by first | omega | (simp; done) | (simp; omega))) rfl ?_
        refine DL.q rfl (by first | exact (by first | exact Yld.loadRow1 (cl := 1) Try.underlying3 rfl rfl rfl (by first | assumption | exact Own.sl (by assumption)) (by assumption) | exact Yld.loadRow1 (cl := 106) Try.underlying3 rfl rfl rfl (by first | assumption | exact Own.sl (by assumption)) (by assumption)) | exact (by first | exact Yld.loadRowF (cl := 1) (j := 0) Try.underlying3 rfl rfl rfl (by first | assumption | exact Own.sl (by assumption)) (by assumption) rfl | exact Yld.loadRowF (cl := 106) (j := 0) Try.underlying3 rfl rfl rfl (by first | assumption | exact Own.sl (by assumption)) (by assumption) rfl)) rfl ?_
        refine DL.q rfl (Yld.move rfl) rfl ?_
        refine DL.q rfl (Yld.move rfl) rfl ?_
        refine DL.q rfl (Yld.sliceL Try.underlying22 sz3 rfl rfl (by omega) (by first | omega | (simp; done) | (simp; omega))) rfl ?_
        refine DL.two ?_ ?_
        ·
          refine DL.one rfl (Eff.buildSlice 143 Try.underlying22 sz3 zc3 rfl rfl .nil rfl) rfl (by rintro _ _ ⟨b43, rfl, rfl⟩; repeat (first | exact .nil | refine .cons rfl ?_)) ?_
          rintro _ _ ⟨b43, rfl, rfl⟩
          refine DL.two ?_ ?_
          ·
            refine DL.one rfl (Eff.appendE (tc := 143) (sc := 106) (fun z : Int => [Value.int .i64 z]) Try.underlying22 el3 rfl rfl rfl rfl (iz_none rfl) rfl (iz_take _ _ ▸ hO.sl.take k : Sl _ _ _ 1 (iz (x.s.take k))) (by simp; omega) (iz_one1 _) (by decide) (by first | (simp; done) | (simp; omega)) (by first | (simp [maxLen]; done) | (simp [maxLen]; omega))) rfl (by rintro _ _ ⟨Ha, pa, ca, rfl, hOa, rfl⟩; repeat (first | exact .nil | refine .cons rfl ?_)) ?_
            rintro _ _ ⟨Ha, pa, ca, rfl, hOa, rfl⟩
            refine DL.one rfl (Eff.buildSlice 152 Try.underlying22 sz3 zc3 rfl rfl (.cons rfl rfl .nil) rfl) rfl (by rintro _ _ ⟨b52, rfl, rfl⟩; repeat (first | exact .nil | refine .cons rfl ?_)) ?_
            rintro _ _ ⟨b52, rfl, rfl⟩
            refine DL.one rfl (Eff.appendE (tc := 143) (sc := 152) (fun z : Int => [Value.int .i64 z]) Try.underlying22 el3 rfl rfl rfl rfl hOa rfl (iz_single rfl) rfl (iz_one1 _) (by decide) (by simp; omega) (by first | (simp [maxLen]; done) | (simp [maxLen]; omega))) rfl (by rintro _ _ ⟨Hb, pb, cb, rfl, hOb, rfl⟩; repeat (first | exact .nil | refine .cons rfl ?_)) ?_
            rintro _ _ ⟨Hb, pb, cb, rfl, hOb, rfl⟩
            refine DL.one rfl (Eff.appendE (tc := 143) (sc := 106) (fun z : Int => [Value.int .i64 z]) Try.underlying22 el3 rfl rfl rfl rfl hOb rfl (iz_drop _ _ ▸ hO.sl.drop (k := k) (by simp; omega) : Sl _ _ _ 1 (iz (x.s.drop k))) (by simp) (iz_one1 _) (by decide) (by first | (simp; done) | (simp; omega)) (by first | (simp [maxLen]; done) | (simp [maxLen]; omega))) rfl (by rintro _ _ ⟨Hd, pd, cd, rfl, hOd, rfl⟩; repeat (first | exact .nil | refine .cons rfl ?_)) ?_
            rintro _ _ ⟨Hd, pd, cd, rfl, hOd, rfl⟩
            refine DL.q rfl (Yld.assign rfl) rfl ?_
            refine DL.done ?_
            refine N.block_normal ?_
            refine N.next ?_
            refine W.keep (.cons (k := 0) rfl (.cons (k := 3) rfl (.cons (k := 4) rfl .nil))) (.cons (k := 0) rfl (.cons (k := 1) rfl (.cons (k := 106) rfl (.cons (k := 143) rfl (.cons (k := 152) rfl .nil))))) ?_
            refine W.region ?_
            refine RL.q (Yld.move rfl) rfl ?_
            refine RL.q (Yld.bin rfl rfl (by first | exact BinV.add (by omega) (by omega) | exact BinV.addW)) rfl ?_
            refine RL.q (Yld.assign rfl) rfl ?_
            refine RL.nil ?_
            refine N.imp (Imp.move (c := 143) (c' := 106) rfl rfl) ?_
            exact N.famK ⟨x.i + 1, Hd, pd, cd, ins x.s k z⟩ ⟨⟨by dsimp only; omega, hOd, hs.put hz (by omega) hc25.2 hk hkI (fun y hy h => hc40.elim (fun h1 => h1 (by have := (List.getElem?_eq_some_iff.1 hy).1; omega)) (fun h1 => h1 (by rw [List.getD_eq_getElem?_getD, hy]; exact h)))⟩, by dsimp only; omega⟩ (.as rfl (by first | rfl | (simp; done) | (congr 1; simp; done) | (congr 1; omega)) (.as rfl (by first | rfl | (simp; done) | (congr 1; simp; done) | (congr 1; omega)) .nil)) (.cons rfl .nil) (.cons rfl .nil) (.cons rfl (.cons rfl .nil))
          ·
            refine DL.one rfl (Eff.buildSlice 152 Try.underlying22 sz3 zc3 rfl rfl (.cons rfl rfl .nil) rfl) rfl (by rintro _ _ ⟨b52, rfl, rfl⟩; repeat (first | exact .nil | refine .cons rfl ?_)) ?_
            rintro _ _ ⟨b52, rfl, rfl⟩
            refine DL.one rfl (Eff.appendE (tc := 143) (sc := 106) (fun z : Int => [Value.int .i64 z]) Try.underlying22 el3 rfl rfl rfl rfl (iz_none rfl) rfl (iz_take _ _ ▸ hO.sl.take k : Sl _ _ _ 1 (iz (x.s.take k))) (by simp; omega) (iz_one1 _) (by decide) (by first | (simp; done) | (simp; omega)) (by first | (simp [maxLen]; done) | (simp [maxLen]; omega))) rfl (by rintro _ _ ⟨Ha, pa, ca, rfl, hOa, rfl⟩; repeat (first | exact .nil | refine .cons rfl ?_)) ?_
            rintro _ _ ⟨Ha, pa, ca, rfl, hOa, rfl⟩
            refine DL.one rfl (Eff.appendE (tc := 143) (sc := 152) (fun z : Int => [Value.int .i64 z]) Try.underlying22 el3 rfl rfl rfl rfl hOa rfl (iz_single rfl) rfl (iz_one1 _) (by decide) (by simp; omega) (by first | (simp [maxLen]; done) | (simp [maxLen]; omega))) rfl (by rintro _ _ ⟨Hb, pb, cb, rfl, hOb, rfl⟩; repeat (first | exact .nil | refine .cons rfl ?_)) ?_
            rintro _ _ ⟨Hb, pb, cb, rfl, hOb, rfl⟩
            refine DL.one rfl (Eff.appendE (tc := 143) (sc := 106) (fun z : Int => [Value.int .i64 z]) Try.underlying22 el3 rfl rfl rfl rfl hOb rfl (iz_drop _ _ ▸ hO.sl.drop (k := k) (by simp; omega) : Sl _ _ _ 1 (iz (x.s.drop k))) (by simp) (iz_one1 _) (by decide) (by first | (simp; done) | (simp; omega)) (by first | (simp [maxLen]; done) | (simp [maxLen]; omega))) rfl (by rintro _ _ ⟨Hd, pd, cd, rfl, hOd, rfl⟩; repeat (first | exact .nil | refine .cons rfl ?_)) ?_
            rintro _ _ ⟨Hd, pd, cd, rfl, hOd, rfl⟩
            refine DL.q rfl (Yld.assign rfl) rfl ?_
            refine DL.done ?_
            refine N.block_normal ?_
            refine N.next ?_
            refine W.keep (.cons (k := 0) rfl (.cons (k := 3) rfl (.cons (k := 4) rfl .nil))) (.cons (k := 0) rfl (.cons (k := 1) rfl (.cons (k := 106) rfl (.cons (k := 143) rfl (.cons (k := 152) rfl .nil))))) ?_
            refine W.region ?_
            refine RL.q (Yld.move rfl) rfl ?_
            refine RL.q (Yld.bin rfl rfl (by first | exact BinV.add (by omega) (by omega) | exact BinV.addW)) rfl ?_
            refine RL.q (Yld.assign rfl) rfl ?_
            refine RL.nil ?_
            refine N.imp (Imp.move (c := 143) (c' := 106) rfl rfl) ?_
            exact N.famK ⟨x.i + 1, Hd, pd, cd, ins x.s k z⟩ ⟨⟨by dsimp only; omega, hOd, hs.put hz (by omega) hc25.2 hk hkI (fun y hy h => hc40.elim (fun h1 => h1 (by have := (List.getElem?_eq_some_iff.1 hy).1; omega)) (fun h1 => h1 (by rw [List.getD_eq_getElem?_getD, hy]; exact h)))⟩, by dsimp only; omega⟩ (.as rfl (by first | rfl | (simp; done) | (congr 1; simp; done) | (congr 1; omega)) (.as rfl (by first | rfl | (simp; done) | (congr 1; simp; done) | (congr 1; omega)) .nil)) (.cons rfl .nil) (.cons rfl .nil) (.cons rfl (.cons rfl .nil))
        ·
          refine DL.one rfl (Eff.buildSlice 152 Try.underlying22 sz3 zc3 rfl rfl (.cons rfl rfl .nil) rfl) rfl (by rintro _ _ ⟨b52, rfl, rfl⟩; repeat (first | exact .nil | refine .cons rfl ?_)) ?_
          rintro _ _ ⟨b52, rfl, rfl⟩
          refine DL.one rfl (Eff.buildSlice 143 Try.underlying22 sz3 zc3 rfl rfl .nil rfl) rfl (by rintro _ _ ⟨b43, rfl, rfl⟩; repeat (first | exact .nil | refine .cons rfl ?_)) ?_
          rintro _ _ ⟨b43, rfl, rfl⟩
          refine DL.one rfl (Eff.appendE (tc := 143) (sc := 106) (fun z : Int => [Value.int .i64 z]) Try.underlying22 el3 rfl rfl rfl rfl (iz_none rfl) rfl (iz_take _ _ ▸ hO.sl.take k : Sl _ _ _ 1 (iz (x.s.take k))) (by simp; omega) (iz_one1 _) (by decide) (by first | (simp; done) | (simp; omega)) (by first | (simp [maxLen]; done) | (simp [maxLen]; omega))) rfl (by rintro _ _ ⟨Ha, pa, ca, rfl, hOa, rfl⟩; repeat (first | exact .nil | refine .cons rfl ?_)) ?_
          rintro _ _ ⟨Ha, pa, ca, rfl, hOa, rfl⟩
          refine DL.one rfl (Eff.appendE (tc := 143) (sc := 152) (fun z : Int => [Value.int .i64 z]) Try.underlying22 el3 rfl rfl rfl rfl hOa rfl (iz_single rfl) rfl (iz_one1 _) (by decide) (by simp; omega) (by first | (simp [maxLen]; done) | (simp [maxLen]; omega))) rfl (by rintro _ _ ⟨Hb, pb, cb, rfl, hOb, rfl⟩; repeat (first | exact .nil | refine .cons rfl ?_)) ?_
          rintro _ _ ⟨Hb, pb, cb, rfl, hOb, rfl⟩
          refine DL.one rfl (Eff.appendE (tc := 143) (sc := 106) (fun z : Int => [Value.int .i64 z]) Try.underlying22 el3 rfl rfl rfl rfl hOb rfl (iz_drop _ _ ▸ hO.sl.drop (k := k) (by simp; omega) : Sl _ _ _ 1 (iz (x.s.drop k))) (by simp) (iz_one1 _) (by decide) (by first | (simp; done) | (simp; omega)) (by first | (simp [maxLen]; done) | (simp [maxLen]; omega))) rfl (by rintro _ _ ⟨Hd, pd, cd, rfl, hOd, rfl⟩; repeat (first | exact .nil | refine .cons rfl ?_)) ?_
          rintro _ _ ⟨Hd, pd, cd, rfl, hOd, rfl⟩
          refine DL.q rfl (Yld.assign rfl) rfl ?_
          refine DL.done ?_
          refine N.block_normal ?_
          refine N.next ?_
          refine W.keep (.cons (k := 0) rfl (.cons (k := 3) rfl (.cons (k := 4) rfl .nil))) (.cons (k := 0) rfl (.cons (k := 1) rfl (.cons (k := 106) rfl (.cons (k := 143) rfl (.cons (k := 152) rfl .nil))))) ?_
          refine W.region ?_
          refine RL.q (Yld.move rfl) rfl ?_
          refine RL.q (Yld.bin rfl rfl (by first | exact BinV.add (by omega) (by omega) | exact BinV.addW)) rfl ?_
          refine RL.q (Yld.assign rfl) rfl ?_
          refine RL.nil ?_
          refine N.imp (Imp.move (c := 143) (c' := 106) rfl rfl) ?_
          exact N.famK ⟨x.i + 1, Hd, pd, cd, ins x.s k z⟩ ⟨⟨by dsimp only; omega, hOd, hs.put hz (by omega) hc25.2 hk hkI (fun y hy h => hc40.elim (fun h1 => h1 (by have := (List.getElem?_eq_some_iff.1 hy).1; omega)) (fun h1 => h1 (by rw [List.getD_eq_getElem?_getD, hy]; exact h)))⟩, by dsimp only; omega⟩ (.as rfl (by first | rfl | (simp; done) | (congr 1; simp; done) | (congr 1; omega)) (.as rfl (by first | rfl | (simp; done) | (congr 1; simp; done) | (congr 1; omega)) .nil)) (.cons rfl .nil) (.cons rfl .nil) (.cons rfl (.cons rfl .nil))
  ·
    have hend : x.i = l.length := by omega
    rw [hend, List.take_length] at hs
    have hse := hs.eq
    refine W.exit ?_
    refine N.then_exit ?_
    refine N.then_exit ?_
    refine N.block_eq ?_
    refine N.next ?_
    refine W.keep (.cons (k := 3) rfl .nil) (.cons (k := 0) rfl (.cons (k := 1) rfl (.cons (k := 106) rfl .nil))) ?_
    refine W.seq ?_
    refine W.region ?_
    refine RL.q (Yld.move rfl) rfl ?_
    refine RL.q (Yld.assign rfl) rfl ?_
    refine RL.nil ?_
    refine N.next ?_
    refine W.ret ?_
    exact N.retBy [1, 106] (.cons (.tmp rfl) .nil) rfl rfl rfl rfl ⟨x.H, x.p, x.c, by rw [← hse]; rfl, by rw [← hse]; exact hO, rfl⟩

set_option maxRecDepth 100000 in
set_option maxHeartbeats 400000 in
theorem rminus_ct (l : List Int) (H1 : PH) (p : Option Addr) (c : Nat) (hl : Sl H1 p c 1 (iz l)) (m : List Int) (H2 : PH) (q : Option Addr) (d : Nat) (hm : Sl H2 q d 1 (iz m)) (hb : l.length ≤ 1000000) : Ct Try.prog 88 [.slice p l.length c, .slice q m.length d] [H1, H2] (fun v Hs => ∃ H' p' c', v = .slice p' (minusL l m).length c' ∧ Own H' p' c' 3 1 (iz (minusL l m)) ∧ Hs = [H1, H2, H']) := by
  refine Ct.body Try.func88 rfl Try.ntmps88 rfl ?_
  intro E F
  have hmxl := hl.len_le
  simp only [iz_len, maxLen] at hmxl
  have hmxm := hm.len_le
  simp only [iz_len, maxLen] at hmxm
  refine W.seq ?_
  refine W.region ?_
  refine RL.q (Yld.assign rfl) rfl ?_
  refine RL.nil ?_
  refine N.next ?_
  refine W.seq ?_
  refine W.region ?_
  refine RL.e (Eff.buildSlice 107 Try.underlying22 sz3 zc3 rfl rfl .nil rfl) rfl ?_
  rintro _ _ ⟨b7, rfl, rfl⟩
  refine RL.q (Yld.assign rfl) rfl ?_
  refine RL.nil ?_
  refine N.next ?_
  refine W.seq ?_
  refine W.seq ?_
  refine W.region ?_
  refine RL.q (Yld.assign rfl) rfl ?_
  refine RL.nil ?_
  refine N.next ?_
  refine W.block ?_
  refine W.loopK (ι := SI) (fun x => (x.i ≤ l.length ∧ Own x.H x.p x.c 3 1 (iz x.s) ∧ x.s = minusL (l.take x.i) m)) (fun x => [(5, .slice x.p x.s.length x.c), (6, .int .i64 (x.i : Nat))]) (fun x => [(107, x.H)]) (fun x => l.length - x.i) (.cons (k := 0) rfl (.cons (k := 1) rfl .nil)) (.cons (k := 0) rfl (.cons (k := 1) rfl (.cons (k := 2) rfl .nil))) ⟨0, single b7 (.cells [].toArray 3 (0, 0)), some ⟨b7, 0, none⟩, 0, []⟩ ?_ ?_ ?_ ?_
  · exact ⟨Nat.zero_le _, iz_none rfl, rfl⟩
  · exact (.as rfl (by first | rfl | (simp; done) | (congr 1; simp; done) | (congr 1; omega)) (.as rfl (by first | rfl | (simp; done) | (congr 1; simp; done) | (congr 1; omega)) .nil))
  · exact (.cons rfl .nil)
  rintro x ⟨hi, hO, hs⟩
  refine W.keep (.cons (k := 5) rfl (.cons (k := 6) rfl (.cons (k := 0) rfl (.cons (k := 1) rfl .nil)))) (.cons (k := 107) rfl (.cons (k := 0) rfl (.cons (k := 1) rfl (.cons (k := 2) rfl .nil)))) ?_
  refine W.seq ?_
  refine W.seq ?_
  refine W.region ?_
  refine RL.q (Yld.move rfl) rfl ?_
  refine RL.q (Yld.move rfl) rfl ?_
  refine RL.q (Yld.lenSl Try.underlying22 rfl) rfl ?_
  refine RL.q (Yld.bin rfl rfl BinV.lss) rfl ?_
  refine RL.nil ?_
  refine N.next ?_
  first | refine W.condD rfl (fun hc11 => ?_) (fun hc11 => ?_) | (refine W.cond rfl (fun hc11 => ?_) (fun hc11 => ?_) <;> try simp only [Bool.or_eq_true, Bool.and_eq_true, Bool.not_eq_true', Bool.not_eq_false', decide_eq_true_eq, Bool.or_eq_false_iff, Bool.and_eq_false_iff, decide_eq_false_iff_not, beq_iff_eq, beq_eq_false_iff_ne, ne_eq, Decidable.not_not] at hc11)
  ·
    obtain ⟨z, hz, hlz⟩ := iz_at (show x.i < l.length by omega)
    have hsl : x.s.length ≤ x.i := by rw [hs]; exact Nat.le_trans minus_len (by rw [List.length_take]; omega)
    refine W.skip ?_
    refine N.next ?_
    refine W.keep (.cons (k := 0) rfl (.cons (k := 1) rfl (.cons (k := 5) rfl (.cons (k := 6) rfl .nil)))) (.cons (k := 0) rfl (.cons (k := 1) rfl (.cons (k := 2) rfl (.cons (k := 107) rfl .nil)))) ?_
    refine W.seq ?_
    refine W.block ?_
    refine W.seq ?_
    refine W.region ?_
    refine RL.q (Yld.move rfl) rfl ?_
    refine RL.q (Yld.move rfl) rfl ?_
    refine RL.q (Yld.move rfl) rfl ?_
    refine RL.q (Yld.indexRow Try.underlying22 sz3 rfl rfl (by first | assumption | exact Own.sl (by assumption)) (by first | rfl | omega | (simp; done) | (simp; omega)) (by omega) (by first | omega | (simp; done) | (simp; omega))) rfl ?_
    refine RL.q (by first | exact (by first | exact Yld.loadRow1 (cl := 1) Try.underlying3 rfl rfl rfl (by first | assumption | exact Own.sl (by assumption)) (by assumption) | exact Yld.loadRow1 (cl := 2) Try.underlying3 rfl rfl rfl (by first | assumption | exact Own.sl (by assumption)) (by assumption) | exact Yld.loadRow1 (cl := 107) Try.underlying3 rfl rfl rfl (by first | assumption | exact Own.sl (by assumption)) (by assumption)) | exact (by first | exact Yld.loadRowF (cl := 1) (j := 0) Try.underlying3 rfl rfl rfl (by first | assumption | exact Own.sl (by assumption)) (by assumption) rfl | exact Yld.loadRowF (cl := 2) (j := 0) Try.underlying3 rfl rfl rfl (by first | assumption | exact Own.sl (by assumption)) (by assumption) rfl | exact Yld.loadRowF (cl := 107) (j := 0) Try.underlying3 rfl rfl rfl (by first | assumption | exact Own.sl (by assumption)) (by assumption) rfl)) rfl ?_
    refine RL.e (Eff.call ent37 [2] [2] (.cons rfl (.cons rfl .nil)) (has_ct m _ _ _ hm z) rfl rfl rfl rfl (by rintro _ _ ⟨_, rfl⟩; rfl)) rfl ?_
    rintro _ _ ⟨_, ⟨rfl, rfl⟩, rfl⟩
    refine RL.q (by first | exact Yld.notD rfl | exact Yld.not rfl) rfl ?_
    refine RL.nil ?_
    refine N.next ?_
    refine W.keep (.cons (k := 0) rfl (.cons (k := 1) rfl (.cons (k := 5) rfl (.cons (k := 6) rfl (.cons (k := 20) rfl .nil))))) (.cons (k := 0) rfl (.cons (k := 1) rfl (.cons (k := 2) rfl (.cons (k := 107) rfl .nil)))) ?_
    first | refine W.condD rfl (fun hc20 => ?_) (fun hc20 => ?_) | (refine W.cond rfl (fun hc20 => ?_) (fun hc20 => ?_) <;> try simp only [Bool.or_eq_true, Bool.and_eq_true, Bool.not_eq_true', Bool.not_eq_false', decide_eq_true_eq, Bool.or_eq_false_iff, Bool.and_eq_false_iff, decide_eq_false_iff_not, beq_iff_eq, beq_eq_false_iff_ne, ne_eq, Decidable.not_not] at hc20)
    ·
      refine W.region ?_
      refine RL.q (Yld.move rfl) rfl ?_
      refine RL.q (Yld.move rfl) rfl ?_
      refine RL.q (Yld.move rfl) rfl ?_
      refine RL.q (Yld.indexRow Try.underlying22 sz3 rfl rfl (by first | assumption | exact Own.sl (by assumption)) (by first | rfl | omega | (simp; done) | (simp; omega)) (by omega) (by first | omega | (simp; done) | (simp; omega))) rfl ?_
      refine RL.q (by first | exact (by first | exact Yld.loadRow1 (cl := 2) Try.underlying3 rfl rfl rfl (by first | assumption | exact Own.sl (by assumption)) (by assumption) | exact Yld.loadRow1 (cl := 1) Try.underlying3 rfl rfl rfl (by first | assumption | exact Own.sl (by assumption)) (by assumption) | exact Yld.loadRow1 (cl := 107) Try.underlying3 rfl rfl rfl (by first | assumption | exact Own.sl (by assumption)) (by assumption)) | exact (by first | exact Yld.loadRowF (cl := 2) (j := 0) Try.underlying3 rfl rfl rfl (by first | assumption | exact Own.sl (by assumption)) (by assumption) rfl | exact Yld.loadRowF (cl := 1) (j := 0) Try.underlying3 rfl rfl rfl (by first | assumption | exact Own.sl (by assumption)) (by assumption) rfl | exact Yld.loadRowF (cl := 107) (j := 0) Try.underlying3 rfl rfl rfl (by first | assumption | exact Own.sl (by assumption)) (by assumption) rfl)) rfl ?_
      refine RL.e (Eff.buildSlice 126 Try.underlying22 sz3 zc3 rfl rfl (.cons rfl rfl .nil) rfl) rfl ?_
      rintro _ _ ⟨b26, rfl, rfl⟩
      refine RL.e (Eff.appendE (tc := 107) (sc := 126) (fun z : Int => [Value.int .i64 z]) Try.underlying22 el3 rfl rfl rfl rfl hO rfl (iz_single rfl) rfl (iz_one1 _) (by decide) (by first | (simp; done) | (simp; omega)) (by first | (simp [maxLen]; done) | (simp [maxLen]; omega))) rfl ?_
      rintro _ _ ⟨Ha, pa, ca, rfl, hOa, rfl⟩
      refine RL.q (Yld.assign rfl) rfl ?_
      refine RL.nil ?_
      refine N.block_normal ?_
      refine N.next ?_
      refine W.keep (.cons (k := 0) rfl (.cons (k := 1) rfl (.cons (k := 5) rfl (.cons (k := 6) rfl .nil)))) (.cons (k := 0) rfl (.cons (k := 1) rfl (.cons (k := 2) rfl (.cons (k := 107) rfl (.cons (k := 126) rfl .nil))))) ?_
      refine W.region ?_
      refine RL.q (Yld.move rfl) rfl ?_
      refine RL.q (Yld.bin rfl rfl (by first | exact BinV.add (by omega) (by omega) | exact BinV.addW)) rfl ?_
      refine RL.q (Yld.assign rfl) rfl ?_
      refine RL.nil ?_
      exact N.famK ⟨x.i + 1, Ha, pa, ca, x.s ++ [z]⟩ ⟨⟨by dsimp only; omega, hOa, by dsimp only; rw [minus_take hz, if_neg hc20, hs]⟩, by dsimp only; omega⟩ (.as rfl (by first | rfl | (simp; done) | (congr 1; simp; done) | (congr 1; omega)) (.as rfl (by first | rfl | (simp; done) | (congr 1; simp; done) | (congr 1; omega)) .nil)) (.cons rfl (.cons rfl .nil)) (.cons rfl .nil) (.cons rfl (.cons rfl (.cons rfl .nil)))
    ·
      refine W.skip ?_
      refine N.block_normal ?_
      refine N.next ?_
      refine W.region ?_
      refine RL.q (Yld.move rfl) rfl ?_
      refine RL.q (Yld.bin rfl rfl (by first | exact BinV.add (by omega) (by omega) | exact BinV.addW)) rfl ?_
      refine RL.q (Yld.assign rfl) rfl ?_
      refine RL.nil ?_
      exact N.famK ⟨x.i + 1, x.H, x.p, x.c, x.s⟩ ⟨⟨by dsimp only; omega, hO, by dsimp only; rw [minus_take hz, if_pos (Classical.not_not.1 hc20)]; exact hs⟩, by dsimp only; omega⟩ (.as rfl (by first | rfl | (simp; done) | (congr 1; simp; done) | (congr 1; omega)) (.as rfl (by first | rfl | (simp; done) | (congr 1; simp; done) | (congr 1; omega)) .nil)) (.cons rfl (.cons rfl .nil)) (.cons rfl .nil) (.cons rfl (.cons rfl (.cons rfl .nil)))
  ·
    have hend : x.i = l.length := by omega
    rw [hend, List.take_length] at hs
    refine W.exit ?_
    refine N.then_exit ?_
    refine N.then_exit ?_
    refine N.block_eq ?_
    refine N.next ?_
    refine W.keep (.cons (k := 5) rfl .nil) (.cons (k := 0) rfl (.cons (k := 1) rfl (.cons (k := 2) rfl (.cons (k := 107) rfl .nil)))) ?_
    refine W.seq ?_
    refine W.region ?_
    refine RL.q (Yld.move rfl) rfl ?_
    refine RL.q (Yld.assign rfl) rfl ?_
    refine RL.nil ?_
    refine N.next ?_
    refine W.ret ?_
    exact N.retBy [1, 2, 107] (.cons (.tmp rfl) .nil) rfl rfl rfl rfl ⟨x.H, x.p, x.c, by rw [← hs]; rfl, by rw [← hs]; exact hO, rfl⟩

set_option maxRecDepth 100000 in
set_option maxHeartbeats 400000 in
theorem most_ct (l : List Int) (H1 : PH) (p : Option Addr) (c : Nat) (hl : Sl H1 p c 1 (iz l)) (m : List Int) (H2 : PH) (q : Option Addr) (d : Nat) (hm : Sl H2 q d 1 (iz m)) (hb : l.length ≤ 1000000) : Ct Try.prog 68 [.slice p l.length c, .slice q m.length d] [H1, H2] (fun v Hs => v = .bool (maj l m) ∧ Hs = [H1, H2]) := by
  refine Ct.body Try.func68 rfl Try.ntmps68 rfl ?_
  intro E F
  refine W.seq ?_
  refine W.region ?_
  refine RL.q (Yld.assign rfl) rfl ?_
  refine RL.nil ?_
  refine N.next ?_
  refine W.seq ?_
  refine W.region ?_
  refine RL.q (Yld.move rfl) rfl ?_
  refine RL.q (Yld.lenSl Try.underlying22 rfl) rfl ?_
  refine RL.q (Yld.move rfl) rfl ?_
  refine RL.q (Yld.move rfl) rfl ?_
  refine RL.e (Eff.call ent88 [1, 2] [1, 2, 30] (.cons rfl (.cons rfl .nil)) (rminus_ct l _ _ _ hl m _ _ _ hm hb) rfl rfl rfl rfl (by rintro _ _ ⟨_, _, _, _, _, rfl⟩; rfl)) rfl ?_
  rintro _ _ ⟨_, ⟨Ha, pa, ca, rfl, hOa, rfl⟩, rfl⟩
  have hml := minus_len (l := l) (m := m)
  refine RL.q (Yld.lenSl Try.underlying22 rfl) rfl ?_
  refine RL.q (Yld.bin rfl rfl (by first | exact BinV.sub (by omega) (by omega) | exact BinV.subW)) rfl ?_
  refine RL.q (Yld.bin rfl rfl (by first | exact BinV.mul (by omega) (by omega) | exact BinV.mulW)) rfl ?_
  refine RL.q (Yld.move rfl) rfl ?_
  refine RL.q (Yld.lenSl Try.underlying22 rfl) rfl ?_
  refine RL.q (Yld.bin rfl rfl BinV.gtr) rfl ?_
  refine RL.q (Yld.assign rfl) rfl ?_
  refine RL.nil ?_
  refine N.next ?_
  refine W.keep (.cons (k := 4) rfl .nil) (.cons (k := 0) rfl (.cons (k := 1) rfl (.cons (k := 2) rfl (.cons (k := 30) rfl .nil)))) ?_
  refine W.ret ?_
  exact N.retBy [1, 2] (.cons (.tmp rfl) .nil) rfl rfl rfl rfl ⟨by rw [← maj_of]; rfl, rfl⟩

set_option maxRecDepth 100000 in
set_option maxHeartbeats 400000 in
theorem rquorum_ct (x : Cf) (H1 : PH) (hx : x.In H1) (m : List Int) (H2 : PH) (q : Option Addr) (d : Nat) (hm : Sl H2 q d 1 (iz m)) (hbo : x.o.length ≤ 1000000) (hbn : x.n.length ≤ 1000000) : Ct Try.prog 56 [.agg [.slice x.po x.o.length x.co, .slice x.pn x.n.length x.cn, .slice x.pl x.l.length x.cl].toArray, .slice q m.length d] [H1, H2] (fun v Hs => v = .bool (quor x.o x.n m) ∧ Hs = [H1, H2]) := by
  refine Ct.body Try.func56 rfl Try.ntmps56 rfl ?_
  intro E F
  obtain ⟨ho, hn, hl⟩ := hx
  have hmo := ho.len_le
  have hmn := hn.len_le
  have hml := hl.len_le
  simp only [iz_len, maxLen] at hmo hmn hml
  refine W.seq ?_
  refine W.region ?_
  refine RL.e (Eff.box 102 _ rfl rfl) rfl ?_
  rintro _ _ ⟨b2, rfl, rfl⟩
  refine RL.q (Yld.assign rfl) rfl ?_
  refine RL.nil ?_
  refine N.next ?_
  refine W.seq ?_
  refine W.region ?_
  refine RL.q (Yld.fieldAddr fo24_0 rfl) rfl ?_
  refine RL.q (Yld.load1 (c := 102) Try.underlying22 rfl rfl rfl (by first | exact single_self _ _ | exact pset_self _ _ _ | assumption) rfl) rfl ?_
  refine RL.q (Yld.move rfl) rfl ?_
  refine RL.e (Eff.call ent68 [1, 2] [1, 2] (.cons rfl (.cons rfl .nil)) (most_ct x.o _ _ _ ho m _ _ _ hm hbo) rfl rfl rfl rfl (by rintro _ _ ⟨_, rfl⟩; rfl)) rfl ?_
  rintro _ _ ⟨_, ⟨rfl, rfl⟩, rfl⟩
  refine RL.q (Yld.move rfl) rfl ?_
  refine' RL.and (t := 9) (d := 20) 11 rfl (.cons (k := 0) rfl (.cons (k := 1) rfl (.cons (k := 2) rfl (.cons (k := 4) rfl (.cons (k := 5) rfl (.cons (k := 6) rfl (.cons (k := 7) rfl (.cons (k := 8) rfl .nil)))))))) (.cons (k := 0) rfl (.cons (k := 1) rfl (.cons (k := 2) rfl (.cons (k := 102) rfl .nil)))) ?_ ?_ ?_
  rotate_left 1
  ·
    intro hg9
    refine RL.gq rfl rfl (Yld.fieldAddr fo24_1 rfl) rfl ?_
    refine RL.gq rfl rfl (Yld.load1 (c := 102) Try.underlying22 rfl rfl rfl (by first | exact single_self _ _ | exact pset_self _ _ _ | assumption) rfl) rfl ?_
    refine RL.gq rfl rfl (Yld.lenSl Try.underlying22 rfl) rfl ?_
    refine RL.gq rfl rfl (Yld.bin rfl rfl BinV.eql) rfl ?_
    refine RL.gq rfl rfl (Yld.move rfl) rfl ?_
    refine' RL.or (t := 14) (d := 19) 5 rfl (.cons (k := 0) rfl (.cons (k := 1) rfl (.cons (k := 2) rfl (.cons (k := 4) rfl (.cons (k := 5) rfl (.cons (k := 6) rfl (.cons (k := 7) rfl (.cons (k := 8) rfl (.cons (k := 9) rfl (.cons (k := 10) rfl (.cons (k := 11) rfl (.cons (k := 12) rfl (.cons (k := 13) rfl .nil))))))))))))) (.cons (k := 0) rfl (.cons (k := 1) rfl (.cons (k := 2) rfl (.cons (k := 102) rfl .nil)))) ?_ ?_ ?_
    rotate_left 1
    ·
      intro hg14
      refine RL.gq rfl rfl (Yld.fieldAddr fo24_1 rfl) rfl ?_
      refine RL.gq rfl rfl (Yld.load1 (c := 102) Try.underlying22 rfl rfl rfl (by first | exact single_self _ _ | exact pset_self _ _ _ | assumption) rfl) rfl ?_
      refine RL.gq rfl rfl (Yld.move rfl) rfl ?_
      refine RL.ge rfl rfl (Eff.call ent68 [1, 2] [1, 2] (.cons rfl (.cons rfl .nil)) (most_ct x.n _ _ _ hn m _ _ _ hm hbn) rfl rfl rfl rfl (by rintro _ _ ⟨_, rfl⟩; rfl)) rfl ?_
      rintro _ _ ⟨_, ⟨rfl, rfl⟩, rfl⟩
      refine RL.gq rfl rfl (by first | exact Yld.pickT rfl rfl | exact Yld.pickF rfl rfl) rfl ?_
      exact RL.nil (N.meet (.cons rfl (.cons rfl (.cons rfl (.cons rfl (.cons rfl (.cons rfl (.cons rfl (.cons rfl (.cons rfl (.cons rfl (.cons rfl (.cons rfl (.cons rfl (.cons rfl .nil)))))))))))))) (.cons rfl (.cons rfl (.cons rfl (.cons rfl .nil)))))
    ·
      intro hg14
      refine RL.gskip rfl rfl rfl rfl ?_
      refine RL.gskip rfl rfl rfl rfl ?_
      refine RL.gskip rfl rfl rfl rfl ?_
      refine RL.gskip rfl rfl rfl rfl ?_
      refine RL.gq rfl rfl (by first | exact Yld.pickT rfl rfl | exact Yld.pickF rfl rfl) rfl ?_
      exact RL.nil (N.meet (.cons rfl (.cons rfl (.cons rfl (.cons rfl (.cons rfl (.cons rfl (.cons rfl (.cons rfl (.cons rfl (.cons rfl (.cons rfl (.cons rfl (.cons rfl (.cons rfl .nil)))))))))))))) (.cons rfl (.cons rfl (.cons rfl (.cons rfl .nil)))))
    refine RL.q (by first | exact Yld.pickT rfl rfl | exact Yld.pickF rfl rfl) rfl ?_
    exact RL.nil (N.meet (.cons rfl (.cons rfl (.cons rfl (.cons rfl (.cons rfl (.cons rfl (.cons rfl (.cons rfl (.cons rfl .nil))))))))) (.cons rfl (.cons rfl (.cons rfl (.cons rfl .nil)))))
  ·
    intro hg9
    refine RL.gskip rfl rfl rfl rfl ?_
    refine RL.gskip rfl rfl rfl rfl ?_
    refine RL.gskip rfl rfl rfl rfl ?_
    refine RL.gskip rfl rfl rfl rfl ?_
    refine RL.gskip rfl rfl rfl rfl ?_
    refine RL.gskipU rfl rfl rfl ?_
    refine RL.gskipU rfl rfl rfl ?_
    refine RL.gskipU rfl rfl rfl ?_
    refine RL.gskipU rfl rfl rfl ?_
    refine RL.gskip rfl rfl rfl rfl ?_
    refine RL.q (by first | exact Yld.pickT rfl rfl | exact Yld.pickF rfl rfl) rfl ?_
    exact RL.nil (N.meet (.cons rfl (.cons rfl (.cons rfl (.cons rfl (.cons rfl (.cons rfl (.cons rfl (.cons rfl (.cons rfl .nil))))))))) (.cons rfl (.cons rfl (.cons rfl (.cons rfl .nil)))))
  refine RL.q (Yld.assign rfl) rfl ?_
  refine RL.nil ?_
  refine N.next ?_
  refine W.keep (.cons (k := 4) rfl .nil) (.cons (k := 0) rfl (.cons (k := 1) rfl (.cons (k := 2) rfl (.cons (k := 102) rfl .nil)))) ?_
  refine W.ret ?_
  exact N.retBy [1, 2] (.cons (.tmp rfl) .nil) rfl rfl rfl rfl ⟨by show Value.bool _ = _; unfold quor; congr 2; congr 1; rw [Bool.eq_iff_iff, decide_eq_true_eq, decide_eq_true_eq]; omega, rfl⟩

set_option maxRecDepth 100000 in
set_option maxHeartbeats 400000 in
theorem rvoters_ct (x : Cf) (H1 : PH) (hx : x.In H1) (hb : (x.o ++ x.n).length ≤ 1000000) : Ct Try.prog 36 [.agg [.slice x.po x.o.length x.co, .slice x.pn x.n.length x.cn, .slice x.pl x.l.length x.cl].toArray] [H1] (fun v Hs => ∃ H' p' c', v = .slice p' (setL (x.o ++ x.n)).length c' ∧ Own H' p' c' 3 1 (iz (setL (x.o ++ x.n))) ∧ Hs = [H1, H']) := by
  refine Ct.body Try.func36 rfl Try.ntmps36 rfl ?_
  intro E F
  obtain ⟨ho, hn, hl⟩ := hx
  have hmo := ho.len_le
  have hmn := hn.len_le
  have hml := hl.len_le
  simp only [iz_len, maxLen] at hmo hmn hml
  rw [List.length_append] at hb
  refine W.seq ?_
  refine W.region ?_
  refine RL.e (Eff.box 101 _ rfl rfl) rfl ?_
  rintro _ _ ⟨b1, rfl, rfl⟩
  refine RL.q (Yld.assign rfl) rfl ?_
  refine RL.nil ?_
  refine N.next ?_
  refine W.seq ?_
  refine W.draw (.q 1 (.q 2 (.q 4 (.q 5 (.one 0 (.one 3 (.one 6 (.one 7 (.q 8 .done))))))))) (.cons (k := 0) rfl (.cons (k := 1) rfl (.cons (k := 101) rfl .nil))) mix (by kernel_rfl) (by kernel_rfl) ?_
  refine DL.q rfl (Yld.fieldAddr fo24_0 rfl) rfl ?_
  refine DL.q rfl (Yld.load1 (c := 101) Try.underlying22 rfl rfl rfl (by first | exact single_self _ _ | exact pset_self _ _ _ | assumption) rfl) rfl ?_
  refine DL.q rfl (Yld.fieldAddr fo24_1 rfl) rfl ?_
  refine DL.q rfl (Yld.load1 (c := 101) Try.underlying22 rfl rfl rfl (by first | exact single_self _ _ | exact pset_self _ _ _ | assumption) rfl) rfl ?_
  refine DL.one rfl (Eff.buildSlice 103 Try.underlying22 sz3 zc3 rfl rfl .nil rfl) rfl (by rintro _ _ ⟨b3, rfl, rfl⟩; repeat (first | exact .nil | refine .cons rfl ?_)) ?_
  rintro _ _ ⟨b3, rfl, rfl⟩
  refine DL.one rfl (Eff.appendE (tc := 103) (sc := 1) (fun z : Int => [Value.int .i64 z]) Try.underlying22 el3 rfl rfl rfl rfl (iz_none rfl) rfl ho rfl (iz_one1 _) (by decide) (by first | (simp; done) | (simp; omega)) (by first | (simp [maxLen]; done) | (simp [maxLen]; omega))) rfl (by rintro _ _ ⟨Ha, pa, ca, rfl, hOa, rfl⟩; repeat (first | exact .nil | refine .cons rfl ?_)) ?_
  rintro _ _ ⟨Ha, pa, ca, rfl, hOa, rfl⟩
  refine DL.one rfl (Eff.appendE (tc := 103) (sc := 1) (fun z : Int => [Value.int .i64 z]) Try.underlying22 el3 rfl rfl rfl rfl hOa rfl hn rfl (iz_one1 _) (by decide) (by first | (simp; done) | (simp; omega)) (by first | (simp [maxLen]; done) | (simp [maxLen]; omega))) rfl (by rintro _ _ ⟨Hb, pb, cb, rfl, hOb, rfl⟩; repeat (first | exact .nil | refine .cons rfl ?_)) ?_
  rintro _ _ ⟨Hb, pb, cb, rfl, hOb, rfl⟩
  refine DL.one rfl (Eff.call ent34 [103] [103, 130] (.cons rfl .nil) (rset_ct (x.o ++ x.n) _ _ _ hOb.sl (by simp; omega)) rfl rfl rfl rfl (by rintro _ _ ⟨_, _, _, _, _, rfl⟩; rfl)) rfl (by rintro _ _ ⟨_, ⟨Hs1, ps, cs, rfl, hOs, rfl⟩, rfl⟩; repeat (first | exact .nil | refine .cons rfl ?_)) ?_
  rintro _ _ ⟨_, ⟨Hs1, ps, cs, rfl, hOs, rfl⟩, rfl⟩
  refine DL.q rfl (Yld.assign rfl) rfl ?_
  refine DL.done ?_
  refine N.next ?_
  refine W.keep (.cons (k := 2) rfl .nil) (.cons (k := 0) rfl (.cons (k := 1) rfl (.cons (k := 101) rfl (.cons (k := 103) rfl (.cons (k := 130) rfl .nil))))) ?_
  refine W.ret ?_
  exact N.retBy [1, 130] (.cons (.tmp rfl) .nil) rfl rfl rfl rfl ⟨_, _, _, rfl, hOs, rfl⟩

set_option maxRecDepth 100000 in
set_option maxHeartbeats 400000 in
theorem cfew_ct (x : Cf) (H1 : PH) (hx : x.In H1) (k : Int) : Ct Try.prog 10 [.agg [.slice x.po x.o.length x.co, .slice x.pn x.n.length x.cn, .slice x.pl x.l.length x.cl].toArray, .int .i64 k] [H1] (fun v Hs => v = .bool (decide ((x.o.length : Int) ≤ k ∧ (x.n.length : Int) ≤ k ∧ (x.l.length : Int) ≤ k)) ∧ Hs = [H1]) := by
  refine Ct.body Try.func10 rfl Try.ntmps10 rfl ?_
  intro E F
  refine W.seq ?_
  refine W.region ?_
  refine RL.e (Eff.box 102 _ rfl rfl) rfl ?_
  rintro _ _ ⟨b2, rfl, rfl⟩
  refine RL.q (Yld.assign rfl) rfl ?_
  refine RL.nil ?_
  refine N.next ?_
  refine W.seq ?_
  refine W.region ?_
  refine RL.q (Yld.fieldAddr fo24_0 rfl) rfl ?_
  refine RL.q (Yld.load1 (c := 102) Try.underlying22 rfl rfl rfl (by first | exact single_self _ _ | exact pset_self _ _ _ | assumption) rfl) rfl ?_
  refine RL.q (Yld.lenSl Try.underlying22 rfl) rfl ?_
  refine RL.q (Yld.move rfl) rfl ?_
  refine RL.q (Yld.bin rfl rfl BinV.leq) rfl ?_
  refine RL.q (Yld.move rfl) rfl ?_
  refine' RL.and (t := 10) (d := 16) 6 rfl (.cons (k := 0) rfl (.cons (k := 1) rfl (.cons (k := 2) rfl (.cons (k := 4) rfl (.cons (k := 5) rfl (.cons (k := 6) rfl (.cons (k := 7) rfl (.cons (k := 8) rfl (.cons (k := 9) rfl .nil))))))))) (.cons (k := 0) rfl (.cons (k := 1) rfl (.cons (k := 102) rfl .nil))) ?_ ?_ ?_
  rotate_left 1
  ·
    intro hg10
    refine RL.gq rfl rfl (Yld.fieldAddr fo24_1 rfl) rfl ?_
    refine RL.gq rfl rfl (Yld.load1 (c := 102) Try.underlying22 rfl rfl rfl (by first | exact single_self _ _ | exact pset_self _ _ _ | assumption) rfl) rfl ?_
    refine RL.gq rfl rfl (Yld.lenSl Try.underlying22 rfl) rfl ?_
    refine RL.gq rfl rfl (Yld.move rfl) rfl ?_
    refine RL.gq rfl rfl (Yld.bin rfl rfl BinV.leq) rfl ?_
    refine RL.q (by first | exact Yld.pickT rfl rfl | exact Yld.pickF rfl rfl) rfl ?_
    exact RL.nil (N.meet (.cons rfl (.cons rfl (.cons rfl (.cons rfl (.cons rfl (.cons rfl (.cons rfl (.cons rfl (.cons rfl (.cons rfl .nil)))))))))) (.cons rfl (.cons rfl (.cons rfl .nil))))
  ·
    intro hg10
    refine RL.gskip rfl rfl rfl rfl ?_
    refine RL.gskip rfl rfl rfl rfl ?_
    refine RL.gskip rfl rfl rfl rfl ?_
    refine RL.gskip rfl rfl rfl rfl ?_
    refine RL.gskip rfl rfl rfl rfl ?_
    refine RL.q (by first | exact Yld.pickT rfl rfl | exact Yld.pickF rfl rfl) rfl ?_
    exact RL.nil (N.meet (.cons rfl (.cons rfl (.cons rfl (.cons rfl (.cons rfl (.cons rfl (.cons rfl (.cons rfl (.cons rfl (.cons rfl .nil)))))))))) (.cons rfl (.cons rfl (.cons rfl .nil))))
  refine RL.q (Yld.move rfl) rfl ?_
  refine' RL.and (t := 17) (d := 23) 6 rfl (.cons (k := 0) rfl (.cons (k := 1) rfl (.cons (k := 2) rfl (.cons (k := 4) rfl (.cons (k := 5) rfl (.cons (k := 6) rfl (.cons (k := 7) rfl (.cons (k := 8) rfl (.cons (k := 9) rfl (.cons (k := 16) rfl .nil)))))))))) (.cons (k := 0) rfl (.cons (k := 1) rfl (.cons (k := 102) rfl .nil))) ?_ ?_ ?_
  rotate_left 1
  ·
    intro hg17
    refine RL.gq rfl rfl (Yld.fieldAddr fo24_2 rfl) rfl ?_
    refine RL.gq rfl rfl (Yld.load1 (c := 102) Try.underlying22 rfl rfl rfl (by first | exact single_self _ _ | exact pset_self _ _ _ | assumption) rfl) rfl ?_
    refine RL.gq rfl rfl (Yld.lenSl Try.underlying22 rfl) rfl ?_
    refine RL.gq rfl rfl (Yld.move rfl) rfl ?_
    refine RL.gq rfl rfl (Yld.bin rfl rfl BinV.leq) rfl ?_
    refine RL.q (by first | exact Yld.pickT rfl rfl | exact Yld.pickF rfl rfl) rfl ?_
    exact RL.nil (N.meet (.cons rfl (.cons rfl (.cons rfl (.cons rfl (.cons rfl (.cons rfl (.cons rfl (.cons rfl (.cons rfl (.cons rfl (.cons rfl .nil))))))))))) (.cons rfl (.cons rfl (.cons rfl .nil))))
  ·
    intro hg17
    refine RL.gskip rfl rfl rfl rfl ?_
    refine RL.gskip rfl rfl rfl rfl ?_
    refine RL.gskip rfl rfl rfl rfl ?_
    refine RL.gskip rfl rfl rfl rfl ?_
    refine RL.gskip rfl rfl rfl rfl ?_
    refine RL.q (by first | exact Yld.pickT rfl rfl | exact Yld.pickF rfl rfl) rfl ?_
    exact RL.nil (N.meet (.cons rfl (.cons rfl (.cons rfl (.cons rfl (.cons rfl (.cons rfl (.cons rfl (.cons rfl (.cons rfl (.cons rfl (.cons rfl .nil))))))))))) (.cons rfl (.cons rfl (.cons rfl .nil))))
  refine RL.q (Yld.assign rfl) rfl ?_
  refine RL.nil ?_
  refine N.next ?_
  refine W.keep (.cons (k := 4) rfl .nil) (.cons (k := 0) rfl (.cons (k := 1) rfl (.cons (k := 102) rfl .nil))) ?_
  refine W.ret ?_
  exact N.retBy [1] (.cons (.tmp rfl) .nil) rfl rfl rfl rfl ⟨by show Value.bool _ = _; rw [Value.bool.injEq, Bool.eq_iff_iff]; simp only [Bool.and_eq_true, decide_eq_true_eq, and_assoc], rfl⟩

set_option maxRecDepth 100000 in
set_option maxHeartbeats 400000 in
theorem plain_ct (x : Cf) (H1 : PH) (hx : x.In H1) (hbo : x.o.length ≤ 400000) (hbn : x.n.length ≤ 400000) (hbl : x.l.length ≤ 400000) : Ct Try.prog 11 [.agg [.slice x.po x.o.length x.co, .slice x.pn x.n.length x.cn, .slice x.pl x.l.length x.cl].toArray] [H1] (fun v Hs => v = .bool (decide (setL x.o = x.o ∧ setL x.n = x.n ∧ setL x.l = x.l)) ∧ Hs = [H1]) := by
  refine Ct.body Try.func11 rfl Try.ntmps11 rfl ?_
  intro E F
  obtain ⟨ho, hn, hl⟩ := hx
  have hmo := ho.len_le
  have hmn := hn.len_le
  have hml := hl.len_le
  simp only [iz_len, maxLen] at hmo hmn hml
  refine W.seq ?_
  refine W.region ?_
  refine RL.e (Eff.box 101 _ rfl rfl) rfl ?_
  rintro _ _ ⟨b1, rfl, rfl⟩
  refine RL.q (Yld.assign rfl) rfl ?_
  refine RL.nil ?_
  refine N.next ?_
  refine W.seq ?_
  refine W.draw (.q 0 (.q 1 (.q 3 (.q 4 (.one 2 (.one 5 (.q 6 (.q 7 (.q 8 (.q 10 (.q 11 (.one 9 (.one 12 (.q 13 (.q 14 (.q 15 (.q 16 (.q 18 (.q 19 (.one 17 (.one 20 (.q 21 (.q 22 .done))))))))))))))))))))))) (.cons (k := 0) rfl (.cons (k := 101) rfl .nil)) mix (by kernel_rfl) (by kernel_rfl) ?_
  refine DL.q rfl (Yld.fieldAddr fo24_0 rfl) rfl ?_
  refine DL.q rfl (Yld.load1 (c := 101) Try.underlying22 rfl rfl rfl (by first | exact single_self _ _ | exact pset_self _ _ _ | assumption) rfl) rfl ?_
  refine DL.q rfl (Yld.fieldAddr fo24_0 rfl) rfl ?_
  refine DL.q rfl (Yld.load1 (c := 101) Try.underlying22 rfl rfl rfl (by first | exact single_self _ _ | exact pset_self _ _ _ | assumption) rfl) rfl ?_
  refine DL.one rfl (Eff.call ent34 [1] [1, 130] (.cons rfl .nil) (rset_ct x.o _ _ _ ho (by omega)) rfl rfl rfl rfl (by rintro _ _ ⟨_, _, _, _, _, rfl⟩; rfl)) rfl (by rintro _ _ ⟨_, ⟨Ha, pa, ca, rfl, hOa, rfl⟩, rfl⟩; repeat (first | exact .nil | refine .cons rfl ?_)) ?_
  rintro _ _ ⟨_, ⟨Ha, pa, ca, rfl, hOa, rfl⟩, rfl⟩
  refine DL.one rfl (Eff.call ent33 [130, 1] [130, 1] (.cons rfl (.cons rfl .nil)) (ints_ct (setL x.o) _ _ _ hOa.sl x.o _ _ _ ho) rfl rfl rfl rfl (by rintro _ _ ⟨_, rfl⟩; rfl)) rfl (by rintro _ _ ⟨_, ⟨rfl, rfl⟩, rfl⟩; repeat (first | exact .nil | refine .cons rfl ?_)) ?_
  rintro _ _ ⟨_, ⟨rfl, rfl⟩, rfl⟩
  refine DL.q rfl (Yld.move rfl) rfl ?_
  refine' DL.and (t := 9) (d := 16) 7 rfl (.cons (k := 0) rfl (.cons (k := 1) rfl (.cons (k := 2) rfl (.cons (k := 3) rfl (.cons (k := 4) rfl (.cons (k := 5) rfl (.cons (k := 6) rfl (.cons (k := 7) rfl (.cons (k := 8) rfl .nil))))))))) (.cons (k := 0) rfl (.cons (k := 1) rfl (.cons (k := 101) rfl (.cons (k := 130) rfl .nil)))) ?_ ?_ ?_
  rotate_left 1
  ·
    intro hg9
    refine DL.gq rfl rfl rfl (Yld.fieldAddr fo24_1 rfl) rfl ?_
    refine DL.gq rfl rfl rfl (Yld.load1 (c := 101) Try.underlying22 rfl rfl rfl (by first | exact single_self _ _ | exact pset_self _ _ _ | assumption) rfl) rfl ?_
    refine DL.gq rfl rfl rfl (Yld.fieldAddr fo24_1 rfl) rfl ?_
    refine DL.gq rfl rfl rfl (Yld.load1 (c := 101) Try.underlying22 rfl rfl rfl (by first | exact single_self _ _ | exact pset_self _ _ _ | assumption) rfl) rfl ?_
    refine DL.gone rfl rfl rfl (Eff.call ent34 [1] [1, 141] (.cons rfl .nil) (rset_ct x.n _ _ _ hn (by omega)) rfl rfl rfl rfl (by rintro _ _ ⟨_, _, _, _, _, rfl⟩; rfl)) rfl (by rintro _ _ ⟨_, ⟨Ha, pa, ca, rfl, hOa, rfl⟩, rfl⟩; repeat (first | exact .nil | refine .cons rfl ?_)) ?_
    rintro _ _ ⟨_, ⟨Ha, pa, ca, rfl, hOa, rfl⟩, rfl⟩
    refine DL.gone rfl rfl rfl (Eff.call ent33 [141, 1] [141, 1] (.cons rfl (.cons rfl .nil)) (ints_ct (setL x.n) _ _ _ hOa.sl x.n _ _ _ hn) rfl rfl rfl rfl (by rintro _ _ ⟨_, rfl⟩; rfl)) rfl (by rintro _ _ ⟨_, ⟨rfl, rfl⟩, rfl⟩; repeat (first | exact .nil | refine .cons rfl ?_)) ?_
    rintro _ _ ⟨_, ⟨rfl, rfl⟩, rfl⟩
    refine DL.q rfl (by first | exact Yld.pickT rfl rfl | exact Yld.pickF rfl rfl) rfl ?_
    exact DL.meet (.cons rfl (.cons rfl (.cons rfl (.cons rfl (.cons rfl (.cons rfl (.cons rfl (.cons rfl (.cons rfl (.cons rfl .nil)))))))))) (.cons rfl (.cons rfl (.cons rfl (.cons rfl .nil))))
  ·
    intro hg9
    refine DL.gskip rfl rfl rfl rfl rfl ?_
    refine DL.gskip rfl rfl rfl rfl rfl ?_
    refine DL.gskip rfl rfl rfl rfl rfl ?_
    refine DL.gskip rfl rfl rfl rfl rfl ?_
    refine DL.gskip1 rfl rfl rfl rfl rfl ?_
    refine DL.gskip1 rfl rfl rfl rfl rfl ?_
    refine DL.q rfl (by first | exact Yld.pickT rfl rfl | exact Yld.pickF rfl rfl) rfl ?_
    exact DL.meet (.cons rfl (.cons rfl (.cons rfl (.cons rfl (.cons rfl (.cons rfl (.cons rfl (.cons rfl (.cons rfl (.cons rfl .nil)))))))))) (.cons rfl (.cons rfl (.cons rfl (.cons rfl .nil))))
  refine DL.q rfl (Yld.move rfl) rfl ?_
  refine' DL.and (t := 17) (d := 24) 7 rfl (.cons (k := 0) rfl (.cons (k := 1) rfl (.cons (k := 2) rfl (.cons (k := 3) rfl (.cons (k := 4) rfl (.cons (k := 5) rfl (.cons (k := 6) rfl (.cons (k := 7) rfl (.cons (k := 8) rfl (.cons (k := 16) rfl .nil)))))))))) (.cons (k := 0) rfl (.cons (k := 1) rfl (.cons (k := 101) rfl (.cons (k := 130) rfl .nil)))) ?_ ?_ ?_
  rotate_left 1
  ·
    intro hg17
    refine DL.gq rfl rfl rfl (Yld.fieldAddr fo24_2 rfl) rfl ?_
    refine DL.gq rfl rfl rfl (Yld.load1 (c := 101) Try.underlying22 rfl rfl rfl (by first | exact single_self _ _ | exact pset_self _ _ _ | assumption) rfl) rfl ?_
    refine DL.gq rfl rfl rfl (Yld.fieldAddr fo24_2 rfl) rfl ?_
    refine DL.gq rfl rfl rfl (Yld.load1 (c := 101) Try.underlying22 rfl rfl rfl (by first | exact single_self _ _ | exact pset_self _ _ _ | assumption) rfl) rfl ?_
    refine DL.gone rfl rfl rfl (Eff.call ent34 [1] [1, 142] (.cons rfl .nil) (rset_ct x.l _ _ _ hl (by omega)) rfl rfl rfl rfl (by rintro _ _ ⟨_, _, _, _, _, rfl⟩; rfl)) rfl (by rintro _ _ ⟨_, ⟨Ha, pa, ca, rfl, hOa, rfl⟩, rfl⟩; repeat (first | exact .nil | refine .cons rfl ?_)) ?_
    rintro _ _ ⟨_, ⟨Ha, pa, ca, rfl, hOa, rfl⟩, rfl⟩
    refine DL.gone rfl rfl rfl (Eff.call ent33 [142, 1] [142, 1] (.cons rfl (.cons rfl .nil)) (ints_ct (setL x.l) _ _ _ hOa.sl x.l _ _ _ hl) rfl rfl rfl rfl (by rintro _ _ ⟨_, rfl⟩; rfl)) rfl (by rintro _ _ ⟨_, ⟨rfl, rfl⟩, rfl⟩; repeat (first | exact .nil | refine .cons rfl ?_)) ?_
    rintro _ _ ⟨_, ⟨rfl, rfl⟩, rfl⟩
    refine DL.q rfl (by first | exact Yld.pickT rfl rfl | exact Yld.pickF rfl rfl) rfl ?_
    exact DL.meet (.cons rfl (.cons rfl (.cons rfl (.cons rfl (.cons rfl (.cons rfl (.cons rfl (.cons rfl (.cons rfl (.cons rfl (.cons rfl .nil))))))))))) (.cons rfl (.cons rfl (.cons rfl (.cons rfl .nil))))
  ·
    intro hg17
    refine DL.gskip rfl rfl rfl rfl rfl ?_
    refine DL.gskip rfl rfl rfl rfl rfl ?_
    refine DL.gskip rfl rfl rfl rfl rfl ?_
    refine DL.gskip rfl rfl rfl rfl rfl ?_
    refine DL.gskip1 rfl rfl rfl rfl rfl ?_
    refine DL.gskip1 rfl rfl rfl rfl rfl ?_
    refine DL.q rfl (by first | exact Yld.pickT rfl rfl | exact Yld.pickF rfl rfl) rfl ?_
    exact DL.meet (.cons rfl (.cons rfl (.cons rfl (.cons rfl (.cons rfl (.cons rfl (.cons rfl (.cons rfl (.cons rfl (.cons rfl (.cons rfl .nil))))))))))) (.cons rfl (.cons rfl (.cons rfl (.cons rfl .nil))))
  refine DL.q rfl (Yld.assign rfl) rfl ?_
  refine DL.done ?_
  refine N.next ?_
  refine W.keep (.cons (k := 2) rfl .nil) (.cons (k := 0) rfl (.cons (k := 1) rfl (.cons (k := 101) rfl (.cons (k := 130) rfl .nil)))) ?_
  refine W.ret ?_
  exact N.retBy [1] (.cons (.tmp rfl) .nil) rfl rfl rfl rfl ⟨by show Value.bool _ = _; rw [Value.bool.injEq, Bool.eq_iff_iff]; simp only [Bool.and_eq_true, decide_eq_true_eq, and_assoc], rfl⟩

set_option maxRecDepth 100000 in
set_option maxHeartbeats 400000 in
theorem setC_ct (G : PH) (z : Int) : Ct Try.prog 53 [.int .i64 z] [G] (fun v Hs => v = .bool (decide (z < 1)) ∧ Hs = [G]) := by
  refine Ct.body Try.func53 rfl Try.ntmps53 rfl ?_
  intro E F
  refine W.seq ?_
  refine W.region ?_
  refine RL.q (Yld.assign rfl) rfl ?_
  refine RL.nil ?_
  refine N.next ?_
  refine W.seq ?_
  refine W.region ?_
  refine RL.q (Yld.move rfl) rfl ?_
  refine RL.q (Yld.bin rfl rfl BinV.lss) rfl ?_
  refine RL.q (Yld.assign rfl) rfl ?_
  refine RL.nil ?_
  refine N.next ?_
  refine W.ret ?_
  exact N.retBy [1] (.cons (.tmp rfl) .nil) rfl rfl rfl rfl ⟨rfl, rfl⟩

set_option maxRecDepth 100000 in
set_option maxHeartbeats 400000 in
theorem cset_ct (ss : List (Option Addr × Nat × List Int)) (G H : PH) (q : Option Addr) (d : Nat) (hG : Sl G q d 1 (ss.map SV)) (hH : ∀ s ∈ ss, Sl H s.1 s.2.1 1 (iz s.2.2)) (hT : (catL ss).length ≤ 1000000) : Ct Try.prog 38 [.slice q ss.length d] [G, H] (fun v Hs => ∃ H' p' c', v = .slice p' (setL (catL ss)).length c' ∧ Own H' p' c' 3 1 (iz (setL (catL ss))) ∧ Hs = [G, H, H']) := by
  refine Ct.body Try.func38 rfl Try.ntmps38 rfl ?_
  intro E F
  refine W.seq ?_
  refine W.region ?_
  refine RL.q (Yld.assign rfl) rfl ?_
  refine RL.nil ?_
  refine N.next ?_
  refine W.seq ?_
  refine W.imp (Imp.empty _ 90) ?_
  refine W.region ?_
  refine RL.q (Yld.move rfl) rfl ?_
  refine RL.e (Eff.call ent52 [1, 2] [1, 2, 30] (.cons rfl .nil) (concat_ct ss G H q d hG hH hT) rfl rfl rfl rfl (by rintro _ _ ⟨_, _, _, _, _, rfl⟩; rfl)) rfl ?_
  rintro _ _ ⟨_, ⟨Ha, pa, ca, rfl, hOa, rfl⟩, rfl⟩
  refine RL.e (Eff.call ent51 [30, 90] [30, 90] (.cons rfl (.cons rfl .nil)) (deleteFunc1_ct (catL ss) _ _ _ hOa 53 [] emp (fun z => decide (z < 1)) ent53 (fun z => setC_ct emp z)) rfl rfl rfl rfl (by rintro _ _ ⟨_, _, _, rfl⟩; rfl)) rfl ?_
  rintro _ _ ⟨_, ⟨Hd, rfl, hOd, rfl⟩, rfl⟩
  have hfl : ((catL ss).filter fun z => !decide (z < 1)).length ≤ (catL ss).length := List.length_filter_le _ _
  refine RL.q (Yld.assign rfl) rfl ?_
  refine RL.nil ?_
  refine N.next ?_
  refine W.keep (.cons (k := 3) rfl .nil) (.cons (k := 0) rfl (.cons (k := 1) rfl (.cons (k := 2) rfl (.cons (k := 30) rfl (.cons (k := 90) rfl .nil))))) ?_
  refine W.seq ?_
  refine W.region ?_
  refine RL.q (Yld.move rfl) rfl ?_
  refine RL.e (Eff.call ent54 [30] [30] (.cons rfl .nil) (sort_ct _ _ _ _ hOd (by omega)) rfl rfl rfl rfl (by rintro _ _ ⟨_, _, _, rfl⟩; rfl)) rfl ?_
  rintro _ _ ⟨_, ⟨rfl, Hs1, hOs, rfl⟩, rfl⟩
  refine RL.nil ?_
  refine N.next ?_
  refine W.seq ?_
  refine W.region ?_
  refine RL.q (Yld.move rfl) rfl ?_
  refine RL.e (Eff.call ent55 [30] [30] (.cons rfl .nil) (compact_ct _ _ _ _ _ (srt_len _).symm hOs) rfl rfl rfl rfl (by rintro _ _ ⟨_, _, _, rfl⟩; rfl)) rfl ?_
  rintro _ _ ⟨_, ⟨Hc, rfl, hOc, rfl⟩, rfl⟩
  refine RL.q (Yld.assign rfl) rfl ?_
  refine RL.nil ?_
  refine N.next ?_
  refine W.keep (.cons (k := 2) rfl .nil) (.cons (k := 0) rfl (.cons (k := 1) rfl (.cons (k := 2) rfl (.cons (k := 30) rfl (.cons (k := 90) rfl .nil))))) ?_
  refine W.ret ?_
  exact N.retBy [1, 2, 30] (.cons (.tmp rfl) .nil) rfl rfl rfl rfl ⟨_, _, _, rfl, hOc, rfl⟩

set_option maxRecDepth 100000 in
set_option maxHeartbeats 400000 in
theorem cvoters_ct (x : Cf) (H1 : PH) (hx : x.In H1) (hb : (x.o ++ x.n).length ≤ 1000000) : Ct Try.prog 14 [.agg [.slice x.po x.o.length x.co, .slice x.pn x.n.length x.cn, .slice x.pl x.l.length x.cl].toArray] [H1] (fun v Hs => ∃ H' p' c', v = .slice p' (setL (x.o ++ x.n)).length c' ∧ Own H' p' c' 3 1 (iz (setL (x.o ++ x.n))) ∧ Hs = [H1, H']) := by
  refine Ct.body Try.func14 rfl Try.ntmps14 rfl ?_
  intro E F
  obtain ⟨ho, hn, hl⟩ := hx
  have hmo := ho.len_le
  have hmn := hn.len_le
  have hml := hl.len_le
  simp only [iz_len, maxLen] at hmo hmn hml
  refine W.seq ?_
  refine W.region ?_
  refine RL.e (Eff.box 101 _ rfl rfl) rfl ?_
  rintro _ _ ⟨b1, rfl, rfl⟩
  refine RL.q (Yld.assign rfl) rfl ?_
  refine RL.nil ?_
  refine N.next ?_
  refine W.seq ?_
  refine W.region ?_
  refine RL.q (Yld.fieldAddr fo24_0 rfl) rfl ?_
  refine RL.q (Yld.load1 (c := 101) Try.underlying22 rfl rfl rfl (by first | exact single_self _ _ | exact pset_self _ _ _ | assumption) rfl) rfl ?_
  refine RL.q (Yld.fieldAddr fo24_1 rfl) rfl ?_
  refine RL.q (Yld.load1 (c := 101) Try.underlying22 rfl rfl rfl (by first | exact single_self _ _ | exact pset_self _ _ _ | assumption) rfl) rfl ?_
  refine RL.e (Eff.buildSlice 107 Try.underlying74 sz22 zc22 rfl rfl (.cons rfl rfl (.cons rfl rfl .nil)) rfl) rfl ?_
  rintro _ _ ⟨b7, rfl, rfl⟩
  refine RL.e (Eff.call ent38 [107, 1] [107, 1, 130] (.cons rfl .nil) (cset_ct [(x.po, x.co, x.o), (x.pn, x.cn, x.n)] _ H1 _ _ (Own.mk (e := 22) (n := 1) (c := 2) [] (by intro l hl; simp only [List.map_cons, List.map_nil, List.mem_cons, List.not_mem_nil, or_false] at hl; rcases hl with rfl | rfl <;> exact ⟨rfl, by simp [SV, Value.oneCell']⟩) (by simp) (by simp [maxLen]) (by rfl) (by rfl)).sl (by intro s hs; simp only [List.mem_cons, List.not_mem_nil, or_false] at hs; rcases hs with rfl | rfl; exact ho; exact hn) (by rw [cat2]; exact hb)) rfl rfl rfl rfl (by rintro _ _ ⟨_, _, _, _, _, rfl⟩; rfl)) rfl ?_
  rintro _ _ ⟨_, ⟨Hs1, ps, cs, rfl, hOs, rfl⟩, rfl⟩
  refine RL.q (Yld.assign rfl) rfl ?_
  refine RL.nil ?_
  refine N.next ?_
  refine W.keep (.cons (k := 2) rfl .nil) (.cons (k := 0) rfl (.cons (k := 1) rfl (.cons (k := 101) rfl (.cons (k := 107) rfl (.cons (k := 130) rfl .nil))))) ?_
  refine W.ret ?_
  exact N.retBy [1, 130] (.cons (.tmp rfl) .nil) rfl rfl rfl rfl ⟨_, _, _, by rw [cat2]; rfl, by rw [cat2] at hOs; exact hOs, rfl⟩

set_option maxRecDepth 100000 in
set_option maxHeartbeats 400000 in
theorem majority_ct (l : List Int) (H1 : PH) (p : Option Addr) (c : Nat) (hl : Sl H1 p c 1 (iz l)) (f : Nat) (cap : List Value) (G1 G2 : PH) (q : Int → Bool) (hent : Ent Try.prog f) (hf : ∀ z : Int, Ct Try.prog f (.int .i64 z :: cap) [G1, G2] (fun v Hs => v = .bool (q z) ∧ Hs = [G1, G2])) (hb : l.length ≤ 1000000) : Ct Try.prog 61 [.slice p l.length c, .func (.func f) [].toArray cap.toArray] [H1, G1, G2] (fun v Hs => v = .bool (decide ((l.length : Int) < 2 * ((l.filter q).length : Nat))) ∧ Hs = [H1, G1, G2]) := by
  refine Ct.body Try.func61 rfl Try.ntmps61 rfl ?_
  intro E F
  have hmxl := hl.len_le
  simp only [iz_len, maxLen] at hmxl
  refine W.seq ?_
  refine W.region ?_
  refine RL.q (Yld.assign rfl) rfl ?_
  refine RL.nil ?_
  refine N.next ?_
  refine W.seq ?_
  refine W.region ?_
  refine RL.q (Yld.assign rfl) rfl ?_
  refine RL.nil ?_
  refine N.next ?_
  refine W.seq ?_
  refine W.seq ?_
  refine W.region ?_
  refine RL.q (Yld.move rfl) rfl ?_
  refine RL.q (Yld.lenSl Try.underlying22 rfl) rfl ?_
  refine RL.q (Yld.move rfl) rfl ?_
  refine RL.nil ?_
  refine N.next ?_
  refine W.block ?_
  refine W.loopK (ι := Nat) (fun j => (j ≤ l.length)) (fun j => [(5, .int .i64 (((l.take j).filter q).length : Nat)), (10, .int .i64 (j : Nat))]) (fun j => []) (fun j => l.length - j) (.cons (k := 0) rfl (.cons (k := 1) rfl (.cons (k := 8) rfl (.cons (k := 9) rfl .nil)))) (.cons (k := 0) rfl (.cons (k := 1) rfl (.cons (k := 2) rfl (.cons (k := 3) rfl .nil)))) 0 ?_ ?_ ?_ ?_
  · exact Nat.zero_le _
  · exact (.as rfl (by first | rfl | (simp; done) | (congr 1; simp; done) | (congr 1; omega)) (.as rfl (by first | rfl | (simp; done) | (congr 1; simp; done) | (congr 1; omega)) .nil))
  · exact .nil
  rintro j hj
  refine W.keep (.cons (k := 5) rfl (.cons (k := 10) rfl (.cons (k := 0) rfl (.cons (k := 1) rfl (.cons (k := 8) rfl (.cons (k := 9) rfl .nil)))))) (.cons (k := 0) rfl (.cons (k := 1) rfl (.cons (k := 2) rfl (.cons (k := 3) rfl .nil)))) ?_
  refine W.seq ?_
  refine W.region ?_
  refine RL.q (Yld.bin rfl rfl BinV.lss) rfl ?_
  refine RL.nil ?_
  refine N.next ?_
  refine W.seq ?_
  first | refine W.condD rfl (fun hc11 => ?_) (fun hc11 => ?_) | (refine W.cond rfl (fun hc11 => ?_) (fun hc11 => ?_) <;> try simp only [Bool.or_eq_true, Bool.and_eq_true, Bool.not_eq_true', Bool.not_eq_false', decide_eq_true_eq, Bool.or_eq_false_iff, Bool.and_eq_false_iff, decide_eq_false_iff_not, beq_iff_eq, beq_eq_false_iff_ne, ne_eq, Decidable.not_not] at hc11)
  ·
    obtain ⟨z, hz, hlz⟩ := iz_at (show j < l.length by omega)
    have hfl : ((l.take j).filter q).length ≤ j := Nat.le_trans (List.length_filter_le _ _) (by rw [List.length_take]; omega)
    refine W.skip ?_
    refine N.next ?_
    refine W.seq ?_
    refine W.block ?_
    refine W.seq ?_
    refine W.region ?_
    refine RL.q (Yld.indexRow Try.underlying22 sz3 rfl rfl (by first | assumption | exact Own.sl (by assumption)) (by first | rfl | omega | (simp; done) | (simp; omega)) (by omega) (by first | omega | (simp; done) | (simp; omega))) rfl ?_
    refine RL.q (by first | exact (by first | exact Yld.loadRow1 (cl := 1) Try.underlying3 rfl rfl rfl (by first | assumption | exact Own.sl (by assumption)) (by assumption) | exact Yld.loadRow1 (cl := 2) Try.underlying3 rfl rfl rfl (by first | assumption | exact Own.sl (by assumption)) (by assumption) | exact Yld.loadRow1 (cl := 3) Try.underlying3 rfl rfl rfl (by first | assumption | exact Own.sl (by assumption)) (by assumption)) | exact (by first | exact Yld.loadRowF (cl := 1) (j := 0) Try.underlying3 rfl rfl rfl (by first | assumption | exact Own.sl (by assumption)) (by assumption) rfl | exact Yld.loadRowF (cl := 2) (j := 0) Try.underlying3 rfl rfl rfl (by first | assumption | exact Own.sl (by assumption)) (by assumption) rfl | exact Yld.loadRowF (cl := 3) (j := 0) Try.underlying3 rfl rfl rfl (by first | assumption | exact Own.sl (by assumption)) (by assumption) rfl)) rfl ?_
    refine RL.q (Yld.assign rfl) rfl ?_
    refine RL.nil ?_
    refine N.next ?_
    refine W.seq ?_
    refine W.region ?_
    refine RL.q (Yld.move rfl) rfl ?_
    refine RL.q (Yld.move rfl) rfl ?_
    refine RL.e (Eff.callV hent [2, 3] [2, 3] rfl (.cons rfl .nil) (hf z) rfl rfl rfl rfl (by rintro _ _ ⟨_, rfl⟩; rfl)) rfl ?_
    rintro _ _ ⟨_, ⟨rfl, rfl⟩, rfl⟩
    refine RL.nil ?_
    refine N.next ?_
    refine W.keep (.cons (k := 0) rfl (.cons (k := 1) rfl (.cons (k := 5) rfl (.cons (k := 8) rfl (.cons (k := 9) rfl (.cons (k := 10) rfl (.cons (k := 16) rfl .nil))))))) (.cons (k := 0) rfl (.cons (k := 1) rfl (.cons (k := 2) rfl (.cons (k := 3) rfl .nil)))) ?_
    refine W.cond rfl (fun hc16 => ?_) (fun hc16 => ?_)
    ·
      refine W.region ?_
      refine RL.q (Yld.move rfl) rfl ?_
      refine RL.q (Yld.bin rfl rfl (by first | exact BinV.add (by omega) (by omega) | exact BinV.addW)) rfl ?_
      refine RL.q (Yld.assign rfl) rfl ?_
      refine RL.nil ?_
      refine N.block_normal ?_
      refine N.next ?_
      refine W.region ?_
      refine RL.q (Yld.bin rfl rfl (by first | exact BinV.add (by omega) (by omega) | exact BinV.addW)) rfl ?_
      refine RL.q (Yld.move rfl) rfl ?_
      refine RL.nil ?_
      exact N.famK (j + 1) ⟨by omega, by omega⟩ (.as rfl (by rw [filter_take hz, if_pos hc16]; simp) (.as rfl (by first | rfl | (simp; done) | (congr 1; simp; done) | (congr 1; omega)) .nil)) (.cons rfl (.cons rfl (.cons rfl (.cons rfl .nil)))) .nil (.cons rfl (.cons rfl (.cons rfl (.cons rfl .nil))))
    ·
      refine W.skip ?_
      refine N.block_normal ?_
      refine N.next ?_
      refine W.region ?_
      refine RL.q (Yld.bin rfl rfl (by first | exact BinV.add (by omega) (by omega) | exact BinV.addW)) rfl ?_
      refine RL.q (Yld.move rfl) rfl ?_
      refine RL.nil ?_
      exact N.famK (j + 1) ⟨by omega, by omega⟩ (.as rfl (by rw [filter_take hz, if_neg (by simp [hc16])]) (.as rfl (by first | rfl | (simp; done) | (congr 1; simp; done) | (congr 1; omega)) .nil)) (.cons rfl (.cons rfl (.cons rfl (.cons rfl .nil)))) .nil (.cons rfl (.cons rfl (.cons rfl (.cons rfl .nil))))
  ·
    have hend : j = l.length := by omega
    rw [hend, List.take_length]
    have hfl : (l.filter q).length ≤ l.length := List.length_filter_le _ _
    refine W.exit ?_
    refine N.then_exit ?_
    refine N.then_exit ?_
    refine N.block_eq ?_
    refine N.next ?_
    refine W.keep (.cons (k := 0) rfl (.cons (k := 5) rfl .nil)) (.cons (k := 0) rfl (.cons (k := 1) rfl (.cons (k := 2) rfl (.cons (k := 3) rfl .nil)))) ?_
    refine W.seq ?_
    refine W.region ?_
    refine RL.q (Yld.move rfl) rfl ?_
    refine RL.q (Yld.bin rfl rfl (by first | exact BinV.mul (by omega) (by omega) | exact BinV.mulW)) rfl ?_
    refine RL.q (Yld.move rfl) rfl ?_
    refine RL.q (Yld.lenSl Try.underlying22 rfl) rfl ?_
    refine RL.q (Yld.bin rfl rfl BinV.gtr) rfl ?_
    refine RL.q (Yld.assign rfl) rfl ?_
    refine RL.nil ?_
    refine N.next ?_
    refine W.keep (.cons (k := 4) rfl .nil) (.cons (k := 0) rfl (.cons (k := 1) rfl (.cons (k := 2) rfl (.cons (k := 3) rfl .nil)))) ?_
    refine W.ret ?_
    exact N.retBy [1, 2, 3] (.cons (.tmp rfl) .nil) rfl rfl rfl rfl ⟨rfl, rfl⟩

set_option maxRecDepth 100000 in
set_option maxHeartbeats 400000 in
theorem quorumC_ct (b m0 : Nat) (es : Array MapEntry) (ck : Nat) (m : List (Int × Value)) (r : List Int) (hM : MapP (fun a : Int => Value.int .i64 a) es ck m) (hr : ∀ z, (mget m z).getD (.bool false) = .bool (decide (z ∈ r))) (z : Int) : Ct Try.prog 60 [.int .i64 z, .pointer (some ⟨b, 0, none⟩)] [single b (.cells [.map (some m0)].toArray 30 (0, 0)), single m0 (.map es ck)] (fun v Hs => v = .bool (decide (z ∈ r)) ∧ Hs = [single b (.cells [.map (some m0)].toArray 30 (0, 0)), single m0 (.map es ck)]) := by
  refine Ct.body Try.func60 rfl Try.ntmps60 rfl ?_
  intro E F
  refine W.seq ?_
  refine W.region ?_
  refine RL.q (Yld.assign rfl) rfl ?_
  refine RL.nil ?_
  refine N.next ?_
  refine W.seq ?_
  refine W.region ?_
  refine RL.q (Yld.load1 (c := 1) Try.underlying30 rfl rfl rfl (by first | exact single_self _ _ | exact pset_self _ _ _ | assumption) rfl) rfl ?_
  refine RL.q (Yld.move rfl) rfl ?_
  refine RL.q (Yld.eq (v' := .bool (decide (z ∈ r))) (Yld.lookup (c := 2) Try.underlying30 (keyInt Try.underlying3) zv4 rfl rfl rfl (by assumption)) (hr z)) rfl ?_
  refine RL.q (Yld.assign rfl) rfl ?_
  refine RL.nil ?_
  refine N.next ?_
  refine W.keep (.cons (k := 3) rfl .nil) (.cons (k := 0) rfl (.cons (k := 1) rfl (.cons (k := 2) rfl .nil))) ?_
  refine W.ret ?_
  exact N.retBy [1, 2] (.cons (.tmp rfl) .nil) rfl rfl rfl rfl ⟨rfl, rfl⟩

set_option maxRecDepth 100000 in
set_option maxHeartbeats 400000 in
theorem cquorum_ct (x : Cf) (H1 : PH) (hx : x.In H1) (r : List Int) (H2 : PH) (q : Option Addr) (d : Nat) (hr : Sl H2 q d 1 (iz r)) (hbo : x.o.length ≤ 1000000) (hbn : x.n.length ≤ 1000000) : Ct Try.prog 48 [.agg [.slice x.po x.o.length x.co, .slice x.pn x.n.length x.cn, .slice x.pl x.l.length x.cl].toArray, .slice q r.length d] [H1, H2] (fun v Hs => v = .bool (quor x.o x.n r) ∧ Hs = [H1, H2]) := by
  refine Ct.body Try.func48 rfl Try.ntmps48 rfl ?_
  intro E F
  obtain ⟨ho, hn, hl⟩ := hx
  have hmo := ho.len_le
  have hmn := hn.len_le
  have hml := hl.len_le
  simp only [iz_len, maxLen] at hmo hmn hml
  have hmxr := hr.len_le
  simp only [iz_len, maxLen] at hmxr
  refine W.seq ?_
  refine W.region ?_
  refine RL.e (Eff.box 102 _ rfl rfl) rfl ?_
  rintro _ _ ⟨b2, rfl, rfl⟩
  refine RL.q (Yld.assign rfl) rfl ?_
  refine RL.nil ?_
  refine N.next ?_
  refine W.seq ?_
  refine W.region ?_
  refine RL.e (Eff.makeMap 109) rfl ?_
  rintro _ _ ⟨b9, rfl, rfl⟩
  refine RL.e (Eff.alloc 105 zc30) rfl ?_
  rintro _ _ ⟨b5, rfl, rfl⟩
  refine RL.e0 (Eff.storeS (c := 105) _ sz30 rfl rfl rfl rfl rfl rfl rfl (by (try simp only [putAt, List.take, List.drop, List.nil_append, List.cons_append, List.append_nil, List.length_cons, List.length_nil, Nat.add_zero, Nat.zero_add, Nat.reduceAdd]); rfl)) ?_
  rintro _ _ rfl
  refine RL.nil ?_
  refine N.next ?_
  refine W.seq ?_
  refine W.seq ?_
  refine W.region ?_
  refine RL.q (Yld.move rfl) rfl ?_
  refine RL.q (Yld.lenSl Try.underlying22 rfl) rfl ?_
  refine RL.q (Yld.move rfl) rfl ?_
  refine RL.nil ?_
  refine N.next ?_
  refine W.keep (.cons (k := 2) rfl (.cons (k := 5) rfl (.cons (k := 10) rfl (.cons (k := 11) rfl (.cons (k := 12) rfl .nil))))) (.cons (k := 0) rfl (.cons (k := 1) rfl (.cons (k := 2) rfl (.cons (k := 102) rfl (.cons (k := 105) rfl (.cons (k := 109) rfl .nil)))))) ?_
  refine W.block ?_
  refine W.loopK (ι := QI) (fun y => (y.j ≤ r.length ∧ MapP (fun a : Int => Value.int .i64 a) y.es y.ck y.m ∧ ∀ z, (mget y.m z).getD (.bool false) = .bool (decide (z ∈ r.take y.j)))) (fun y => [(12, .int .i64 (y.j : Nat))]) (fun y => [(109, single b9 (.map y.es y.ck))]) (fun y => r.length - y.j) (.cons (k := 2) rfl (.cons (k := 5) rfl (.cons (k := 10) rfl (.cons (k := 11) rfl .nil)))) (.cons (k := 0) rfl (.cons (k := 1) rfl (.cons (k := 2) rfl (.cons (k := 102) rfl (.cons (k := 105) rfl .nil))))) ⟨0, #[], 0, []⟩ ?_ ?_ ?_ ?_
  · exact ⟨Nat.zero_le _, MapP.empty _, fun z => by simp [mget]⟩
  · exact (.as rfl (by first | rfl | (simp; done) | (congr 1; simp; done) | (congr 1; omega)) .nil)
  · exact (.cons rfl .nil)
  rintro y ⟨hj, hM, hr⟩
  refine W.keep (.cons (k := 12) rfl (.cons (k := 2) rfl (.cons (k := 5) rfl (.cons (k := 10) rfl (.cons (k := 11) rfl .nil))))) (.cons (k := 109) rfl (.cons (k := 0) rfl (.cons (k := 1) rfl (.cons (k := 2) rfl (.cons (k := 102) rfl (.cons (k := 105) rfl .nil)))))) ?_
  refine W.seq ?_
  refine W.region ?_
  refine RL.q (Yld.bin rfl rfl BinV.lss) rfl ?_
  refine RL.nil ?_
  refine N.next ?_
  refine W.seq ?_
  first | refine W.condD rfl (fun hc13 => ?_) (fun hc13 => ?_) | (refine W.cond rfl (fun hc13 => ?_) (fun hc13 => ?_) <;> try simp only [Bool.or_eq_true, Bool.and_eq_true, Bool.not_eq_true', Bool.not_eq_false', decide_eq_true_eq, Bool.or_eq_false_iff, Bool.and_eq_false_iff, decide_eq_false_iff_not, beq_iff_eq, beq_eq_false_iff_ne, ne_eq, Decidable.not_not] at hc13)
  ·
    obtain ⟨z, hz, hlz⟩ := iz_at (show y.j < r.length by omega)
    refine W.skip ?_
    refine N.next ?_
    refine W.seq ?_
    refine W.block ?_
    refine W.seq ?_
    refine W.region ?_
    refine RL.q (Yld.indexRow Try.underlying22 sz3 rfl rfl (by first | assumption | exact Own.sl (by assumption)) (by first | rfl | omega | (simp; done) | (simp; omega)) (by omega) (by first | omega | (simp; done) | (simp; omega))) rfl ?_
    refine RL.q (by first | exact (by first | exact Yld.loadRow1 (cl := 1) Try.underlying3 rfl rfl rfl (by first | assumption | exact Own.sl (by assumption)) (by assumption) | exact Yld.loadRow1 (cl := 2) Try.underlying3 rfl rfl rfl (by first | assumption | exact Own.sl (by assumption)) (by assumption) | exact Yld.loadRow1 (cl := 102) Try.underlying3 rfl rfl rfl (by first | assumption | exact Own.sl (by assumption)) (by assumption) | exact Yld.loadRow1 (cl := 105) Try.underlying3 rfl rfl rfl (by first | assumption | exact Own.sl (by assumption)) (by assumption) | exact Yld.loadRow1 (cl := 109) Try.underlying3 rfl rfl rfl (by first | assumption | exact Own.sl (by assumption)) (by assumption)) | exact (by first | exact Yld.loadRowF (cl := 1) (j := 0) Try.underlying3 rfl rfl rfl (by first | assumption | exact Own.sl (by assumption)) (by assumption) rfl | exact Yld.loadRowF (cl := 2) (j := 0) Try.underlying3 rfl rfl rfl (by first | assumption | exact Own.sl (by assumption)) (by assumption) rfl | exact Yld.loadRowF (cl := 102) (j := 0) Try.underlying3 rfl rfl rfl (by first | assumption | exact Own.sl (by assumption)) (by assumption) rfl | exact Yld.loadRowF (cl := 105) (j := 0) Try.underlying3 rfl rfl rfl (by first | assumption | exact Own.sl (by assumption)) (by assumption) rfl | exact Yld.loadRowF (cl := 109) (j := 0) Try.underlying3 rfl rfl rfl (by first | assumption | exact Own.sl (by assumption)) (by assumption) rfl)) rfl ?_
    refine RL.q (Yld.assign rfl) rfl ?_
    refine RL.nil ?_
    refine N.next ?_
    refine W.region ?_
    refine RL.q (Yld.load1 (c := 105) Try.underlying30 rfl rfl rfl (by first | exact single_self _ _ | exact pset_self _ _ _ | assumption) rfl) rfl ?_
    refine RL.q (Yld.move rfl) rfl ?_
    refine RL.e0 (Eff.mapUpdate (c := 109) Try.underlying30 (keyInt Try.underlying3) rfl rfl rfl rfl (by assumption)) ?_
    rintro _ _ ⟨es1, ck1, hM1, rfl⟩
    refine RL.nil ?_
    refine N.block_normal ?_
    refine N.next ?_
    refine W.keep (.cons (k := 2) rfl (.cons (k := 5) rfl (.cons (k := 10) rfl (.cons (k := 11) rfl (.cons (k := 12) rfl .nil))))) (.cons (k := 0) rfl (.cons (k := 1) rfl (.cons (k := 2) rfl (.cons (k := 102) rfl (.cons (k := 105) rfl (.cons (k := 109) rfl .nil)))))) ?_
    refine W.region ?_
    refine RL.q (Yld.bin rfl rfl (by first | exact BinV.add (by omega) (by omega) | exact BinV.addW)) rfl ?_
    refine RL.q (Yld.move rfl) rfl ?_
    refine RL.nil ?_
    exact N.famK ⟨y.j + 1, es1, ck1, mset y.m z (.bool true)⟩ ⟨⟨by dsimp only; omega, hM1, fun w => by dsimp only; rw [mget_mset]; exact (Decidable.em (z = w)).elim (fun e => by subst e; simp [mem_take hz]) (fun e => by rw [if_neg e, hr]; simp [mem_take hz, e])⟩, by dsimp only; omega⟩ (.as rfl (by first | rfl | (simp; done) | (congr 1; simp; done) | (congr 1; omega)) .nil) (.cons rfl (.cons rfl (.cons rfl (.cons rfl .nil)))) (.cons rfl .nil) (.cons rfl (.cons rfl (.cons rfl (.cons rfl (.cons rfl .nil)))))
  ·
    have hend : y.j = r.length := by omega
    rw [hend, List.take_length] at hr
    refine W.exit ?_
    refine N.then_exit ?_
    refine N.then_exit ?_
    refine N.block_eq ?_
    refine N.next ?_
    refine W.keep (.cons (k := 2) rfl (.cons (k := 5) rfl .nil)) (.cons (k := 0) rfl (.cons (k := 1) rfl (.cons (k := 2) rfl (.cons (k := 102) rfl (.cons (k := 105) rfl (.cons (k := 109) rfl .nil)))))) ?_
    refine W.seq ?_
    refine W.region ?_
    refine RL.q (Yld.makeFunc eval0 (eval1 rfl)) rfl ?_
    refine RL.q (Yld.assign rfl) rfl ?_
    refine RL.nil ?_
    refine N.next ?_
    refine W.seq ?_
    refine W.region ?_
    refine RL.q (Yld.fieldAddr fo24_0 rfl) rfl ?_
    refine RL.q (Yld.load1 (c := 102) Try.underlying22 rfl rfl rfl (by first | exact single_self _ _ | exact pset_self _ _ _ | assumption) rfl) rfl ?_
    refine RL.q (Yld.move rfl) rfl ?_
    refine RL.e (Eff.call ent61 [1, 105, 109] [1, 105, 109] (.cons rfl (.cons rfl .nil)) (majority_ct x.o _ _ _ ho 60 [.pointer (some ⟨b5, 0, none⟩)] _ _ (fun z => decide (z ∈ r)) ent60 (fun z => quorumC_ct b5 b9 y.es y.ck y.m r hM hr z) hbo) rfl rfl rfl rfl (by rintro _ _ ⟨_, rfl⟩; rfl)) rfl ?_
    rintro _ _ ⟨_, ⟨rfl, rfl⟩, rfl⟩
    refine RL.q (Yld.move rfl) rfl ?_
    refine' RL.and (t := 24) (d := 35) 11 rfl (.cons (k := 2) rfl (.cons (k := 5) rfl (.cons (k := 8) rfl (.cons (k := 19) rfl (.cons (k := 20) rfl (.cons (k := 21) rfl (.cons (k := 22) rfl (.cons (k := 23) rfl .nil)))))))) (.cons (k := 0) rfl (.cons (k := 1) rfl (.cons (k := 2) rfl (.cons (k := 102) rfl (.cons (k := 105) rfl (.cons (k := 109) rfl .nil)))))) ?_ ?_ ?_
    rotate_left 1
    ·
      intro hg24
      refine RL.gq rfl rfl (Yld.fieldAddr fo24_1 rfl) rfl ?_
      refine RL.gq rfl rfl (Yld.load1 (c := 102) Try.underlying22 rfl rfl rfl (by first | exact single_self _ _ | exact pset_self _ _ _ | assumption) rfl) rfl ?_
      refine RL.gq rfl rfl (Yld.lenSl Try.underlying22 rfl) rfl ?_
      refine RL.gq rfl rfl (Yld.bin rfl rfl BinV.eql) rfl ?_
      refine RL.gq rfl rfl (Yld.move rfl) rfl ?_
      refine' RL.or (t := 29) (d := 34) 5 rfl (.cons (k := 2) rfl (.cons (k := 5) rfl (.cons (k := 8) rfl (.cons (k := 19) rfl (.cons (k := 20) rfl (.cons (k := 21) rfl (.cons (k := 22) rfl (.cons (k := 23) rfl (.cons (k := 24) rfl (.cons (k := 25) rfl (.cons (k := 26) rfl (.cons (k := 27) rfl (.cons (k := 28) rfl .nil))))))))))))) (.cons (k := 0) rfl (.cons (k := 1) rfl (.cons (k := 2) rfl (.cons (k := 102) rfl (.cons (k := 105) rfl (.cons (k := 109) rfl .nil)))))) ?_ ?_ ?_
      rotate_left 1
      ·
        intro hg29
        refine RL.gq rfl rfl (Yld.fieldAddr fo24_1 rfl) rfl ?_
        refine RL.gq rfl rfl (Yld.load1 (c := 102) Try.underlying22 rfl rfl rfl (by first | exact single_self _ _ | exact pset_self _ _ _ | assumption) rfl) rfl ?_
        refine RL.gq rfl rfl (Yld.move rfl) rfl ?_
        refine RL.ge rfl rfl (Eff.call ent61 [1, 105, 109] [1, 105, 109] (.cons rfl (.cons rfl .nil)) (majority_ct x.n _ _ _ hn 60 [.pointer (some ⟨b5, 0, none⟩)] _ _ (fun z => decide (z ∈ r)) ent60 (fun z => quorumC_ct b5 b9 y.es y.ck y.m r hM hr z) hbn) rfl rfl rfl rfl (by rintro _ _ ⟨_, rfl⟩; rfl)) rfl ?_
        rintro _ _ ⟨_, ⟨rfl, rfl⟩, rfl⟩
        refine RL.gq rfl rfl (by first | exact Yld.pickT rfl rfl | exact Yld.pickF rfl rfl) rfl ?_
        exact RL.nil (N.meet (.cons rfl (.cons rfl (.cons rfl (.cons rfl (.cons rfl (.cons rfl (.cons rfl (.cons rfl (.cons rfl (.cons rfl (.cons rfl (.cons rfl (.cons rfl (.cons rfl .nil)))))))))))))) (.cons rfl (.cons rfl (.cons rfl (.cons rfl (.cons rfl (.cons rfl .nil)))))))
      ·
        intro hg29
        refine RL.gskip rfl rfl rfl rfl ?_
        refine RL.gskip rfl rfl rfl rfl ?_
        refine RL.gskip rfl rfl rfl rfl ?_
        refine RL.gskip rfl rfl rfl rfl ?_
        refine RL.gq rfl rfl (by first | exact Yld.pickT rfl rfl | exact Yld.pickF rfl rfl) rfl ?_
        exact RL.nil (N.meet (.cons rfl (.cons rfl (.cons rfl (.cons rfl (.cons rfl (.cons rfl (.cons rfl (.cons rfl (.cons rfl (.cons rfl (.cons rfl (.cons rfl (.cons rfl (.cons rfl .nil)))))))))))))) (.cons rfl (.cons rfl (.cons rfl (.cons rfl (.cons rfl (.cons rfl .nil)))))))
      refine RL.q (by first | exact Yld.pickT rfl rfl | exact Yld.pickF rfl rfl) rfl ?_
      exact RL.nil (N.meet (.cons rfl (.cons rfl (.cons rfl (.cons rfl (.cons rfl (.cons rfl (.cons rfl (.cons rfl (.cons rfl .nil))))))))) (.cons rfl (.cons rfl (.cons rfl (.cons rfl (.cons rfl (.cons rfl .nil)))))))
    ·
      intro hg24
      refine RL.gskip rfl rfl rfl rfl ?_
      refine RL.gskip rfl rfl rfl rfl ?_
      refine RL.gskip rfl rfl rfl rfl ?_
      refine RL.gskip rfl rfl rfl rfl ?_
      refine RL.gskip rfl rfl rfl rfl ?_
      refine RL.gskipU rfl rfl rfl ?_
      refine RL.gskipU rfl rfl rfl ?_
      refine RL.gskipU rfl rfl rfl ?_
      refine RL.gskipU rfl rfl rfl ?_
      refine RL.gskip rfl rfl rfl rfl ?_
      refine RL.q (by first | exact Yld.pickT rfl rfl | exact Yld.pickF rfl rfl) rfl ?_
      exact RL.nil (N.meet (.cons rfl (.cons rfl (.cons rfl (.cons rfl (.cons rfl (.cons rfl (.cons rfl (.cons rfl (.cons rfl .nil))))))))) (.cons rfl (.cons rfl (.cons rfl (.cons rfl (.cons rfl (.cons rfl .nil)))))))
    refine RL.q (Yld.assign rfl) rfl ?_
    refine RL.nil ?_
    refine N.next ?_
    refine W.keep (.cons (k := 4) rfl .nil) (.cons (k := 0) rfl (.cons (k := 1) rfl (.cons (k := 2) rfl (.cons (k := 102) rfl (.cons (k := 105) rfl (.cons (k := 109) rfl .nil)))))) ?_
    refine W.ret ?_
    exact N.retBy [1, 2] (.cons (.tmp rfl) .nil) rfl rfl rfl rfl ⟨by show Value.bool _ = _; unfold quor maj; congr 2; congr 1; rw [Bool.eq_iff_iff, decide_eq_true_eq, decide_eq_true_eq]; omega, rfl⟩

end Go.Proofs.Ytldnbbnaighakaa
