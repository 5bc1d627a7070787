/- The sameness of messages. Written by program (walk2.py). -/
import Derived.Test.YtdblglgnhjankaaDoorA18
namespace Go.Proofs.YtdblglgnhjankaaDoor
open SL Cfg
set_option linter.unusedVariables false
set_option linter.unusedSimpArgs false
theorem ent59 : Ent Tryd.prog 59 := ⟨_, _, Tryd.func59, by kernel_rfl, rfl⟩
theorem fo61_1 : fieldOff Tryd.prog 61 1 = some 1 := by kernel_rfl
theorem fo61_3 : fieldOff Tryd.prog 61 3 = some 3 := by kernel_rfl
theorem fo61_4 : fieldOff Tryd.prog 61 4 = some 4 := by kernel_rfl
theorem fo61_5 : fieldOff Tryd.prog 61 5 = some 5 := by kernel_rfl
theorem fo61_6 : fieldOff Tryd.prog 61 6 = some 6 := by kernel_rfl
theorem fo61_7 : fieldOff Tryd.prog 61 7 = some 7 := by kernel_rfl
theorem fo61_8 : fieldOff Tryd.prog 61 8 = some 8 := by kernel_rfl
theorem ent73 : Ent Tryd.prog 73 := ⟨_, _, Tryd.func73, by kernel_rfl, rfl⟩
theorem fo69_9 : fieldOff Tryd.prog 69 9 = some 9 := by kernel_rfl
theorem fo69_0 : fieldOff Tryd.prog 69 0 = some 0 := by kernel_rfl
theorem fo69_1 : fieldOff Tryd.prog 69 1 = some 1 := by kernel_rfl
theorem fo69_2 : fieldOff Tryd.prog 69 2 = some 2 := by kernel_rfl
theorem fo69_3 : fieldOff Tryd.prog 69 3 = some 3 := by kernel_rfl
theorem fo69_4 : fieldOff Tryd.prog 69 4 = some 4 := by kernel_rfl
theorem fo69_5 : fieldOff Tryd.prog 69 5 = some 5 := by kernel_rfl
theorem fo69_6 : fieldOff Tryd.prog 69 6 = some 6 := by kernel_rfl
theorem fo69_7 : fieldOff Tryd.prog 69 7 = some 7 := by kernel_rfl
theorem fo69_8 : fieldOff Tryd.prog 69 8 = some 8 := by kernel_rfl
theorem fo69_10 : fieldOff Tryd.prog 69 10 = some 10 := by kernel_rfl
theorem fo69_11 : fieldOff Tryd.prog 69 11 = some 11 := by kernel_rfl
theorem fo69_12 : fieldOff Tryd.prog 69 12 = some 12 := by kernel_rfl
theorem fo66_0 : fieldOff Tryd.prog 66 0 = some 0 := by kernel_rfl
theorem fo71_1 : fieldOff Tryd.prog 71 1 = some 1 := by kernel_rfl
theorem fo71_2 : fieldOff Tryd.prog 71 2 = some 2 := by kernel_rfl
theorem fo71_3 : fieldOff Tryd.prog 71 3 = some 3 := by kernel_rfl
theorem fo71_5 : fieldOff Tryd.prog 71 5 = some 5 := by kernel_rfl
theorem fo71_6 : fieldOff Tryd.prog 71 6 = some 6 := by kernel_rfl
theorem ent57 : Ent Tryd.prog 57 := ⟨_, _, Tryd.func57, by kernel_rfl, rfl⟩
theorem fo71_10 : fieldOff Tryd.prog 71 10 = some 13 := by kernel_rfl
theorem eqg42 : Program.eqGuardType Tryd.prog (Program.depth Tryd.prog) 42 = false := by kernel_rfl
theorem sih42 : Program.stoodInHeld Tryd.prog 42 = false := by kernel_rfl
theorem fo71_12 : fieldOff Tryd.prog 71 12 = some 18 := by kernel_rfl
theorem ent58 : Ent Tryd.prog 58 := ⟨_, _, Tryd.func58, by kernel_rfl, rfl⟩
theorem fo71_13 : fieldOff Tryd.prog 71 13 = some 33 := by kernel_rfl
theorem fo71_14 : fieldOff Tryd.prog 71 14 = some 34 := by kernel_rfl
theorem sz69 : sz Tryd.prog 69 13 := (by kernel_rfl : (Tryd.prog.info? 69).map (·.size) = some 13)
theorem ent60 : Ent Tryd.prog 60 := ⟨_, _, Tryd.func60, by kernel_rfl, rfl⟩
set_option maxRecDepth 100000 in
set_option maxHeartbeats 400000 in
theorem sameInts_ct (l : List Int) (H1 : PH) (p : Option Addr) (c : Nat) (hl : Sl H1 p c 1 (iz l)) (m : List Int) (H2 : PH) (q : Option Addr) (d : Nat) (hm : Sl H2 q d 1 (iz m)) : Ct Tryd.prog 59 [.slice p l.length c, .slice q m.length d] [H1, H2] (fun v Hs => v = .bool (decide (l = m)) ∧ Hs = [H1, H2]) := by
  refine Ct.body Tryd.func59 rfl Tryd.ntmps59 rfl ?_
  intro E F
  have hmxl := hl.len_le
  simp only [iz_len, maxLen] at hmxl
  have hmxm := hm.len_le
  simp only [iz_len, maxLen] at hmxm
  refine W.seq ?_
  refine W.region ?_
  refine RL.q (Yld.assign rfl) rfl ?_
  refine RL.nil ?_
  refine N.next ?_
  refine W.seq ?_
  refine W.seq ?_
  refine W.region ?_
  refine RL.q (Yld.move rfl) rfl ?_
  refine RL.q (Yld.lenSl Tryd.underlying54 rfl) rfl ?_
  refine RL.q (Yld.move rfl) rfl ?_
  refine RL.q (Yld.lenSl Tryd.underlying54 rfl) rfl ?_
  refine RL.q (Yld.bin rfl rfl BinV.neq) rfl ?_
  refine RL.nil ?_
  refine N.next ?_
  refine W.keep (.cons (k := 0) rfl (.cons (k := 1) rfl (.cons (k := 10) rfl .nil))) (.cons (k := 0) rfl (.cons (k := 1) rfl (.cons (k := 2) rfl .nil))) ?_
  first | refine W.condD rfl (fun hc10 => ?_) (fun hc10 => ?_) | (refine W.cond rfl (fun hc10 => ?_) (fun hc10 => ?_) <;> try simp only [Bool.or_eq_true, Bool.and_eq_true, Bool.not_eq_true', Bool.not_eq_false', decide_eq_true_eq, Bool.or_eq_false_iff, Bool.and_eq_false_iff, decide_eq_false_iff_not, beq_iff_eq, beq_eq_false_iff_ne, ne_eq, Decidable.not_not] at hc10)
  ·
    refine W.seq ?_
    refine W.region ?_
    refine RL.q (Yld.assign rfl) rfl ?_
    refine RL.nil ?_
    refine N.next ?_
    refine W.ret ?_
    refine N.then_ret ?_
    exact N.retBy [1, 2] (.cons (.tmp rfl) .nil) rfl rfl rfl rfl ⟨by rw [decide_eq_false (by rintro rfl; exact hc10 rfl)]; rfl, rfl⟩
  ·
    refine W.skip ?_
    refine N.next ?_
    refine W.seq ?_
    refine W.seq ?_
    refine W.region ?_
    refine RL.q (Yld.assign rfl) rfl ?_
    refine RL.nil ?_
    refine N.next ?_
    refine W.block ?_
    refine W.loopK (ι := Nat) (fun j => (j ≤ l.length ∧ ∀ i : Nat, i < j → l[i]? = m[i]?)) (fun j => [(5, .int .i64 (j : Nat))]) (fun j => []) (fun j => l.length - j) (.cons (k := 0) rfl (.cons (k := 1) rfl .nil)) (.cons (k := 0) rfl (.cons (k := 1) rfl (.cons (k := 2) rfl .nil))) 0 ?_ ?_ ?_ ?_
    · exact ⟨Nat.zero_le _, fun _ h => absurd h (Nat.not_lt_zero _)⟩
    · exact (.as rfl (by first | rfl | (simp; done) | (congr 1; simp; done) | (congr 1; omega)) .nil)
    · exact .nil
    rintro j ⟨hj, hI⟩
    refine W.keep (.cons (k := 5) rfl (.cons (k := 0) rfl (.cons (k := 1) rfl .nil))) (.cons (k := 0) rfl (.cons (k := 1) rfl (.cons (k := 2) rfl .nil))) ?_
    refine W.seq ?_
    refine W.seq ?_
    refine W.region ?_
    refine RL.q (Yld.move rfl) rfl ?_
    refine RL.q (Yld.move rfl) rfl ?_
    refine RL.q (Yld.lenSl Tryd.underlying54 rfl) rfl ?_
    refine RL.q (Yld.bin rfl rfl BinV.lss) rfl ?_
    refine RL.nil ?_
    refine N.next ?_
    first | refine W.condD rfl (fun hc14 => ?_) (fun hc14 => ?_) | (refine W.cond rfl (fun hc14 => ?_) (fun hc14 => ?_) <;> try simp only [Bool.or_eq_true, Bool.and_eq_true, Bool.not_eq_true', Bool.not_eq_false', decide_eq_true_eq, Bool.or_eq_false_iff, Bool.and_eq_false_iff, decide_eq_false_iff_not, beq_iff_eq, beq_eq_false_iff_ne, ne_eq, Decidable.not_not] at hc14)
    ·
      obtain ⟨a, ha, hla⟩ := iz_at (show j < l.length by omega)
      obtain ⟨b, hb, hlb⟩ := iz_at (show j < m.length by omega)
      refine W.skip ?_
      refine N.next ?_
      refine W.keep (.cons (k := 0) rfl (.cons (k := 1) rfl (.cons (k := 5) rfl .nil))) (.cons (k := 0) rfl (.cons (k := 1) rfl (.cons (k := 2) rfl .nil))) ?_
      refine W.seq ?_
      refine W.block ?_
      refine W.seq ?_
      refine W.draw (.q 0 (.q 1 (.q 2 (.q 3 (.q 4 (.q 5 (.q 6 (.q 7 (.q 8 .done))))))))) (.cons (k := 0) rfl (.cons (k := 1) rfl (.cons (k := 2) rfl .nil))) mix (by kernel_rfl) (by kernel_rfl) ?_
      refine DL.q rfl (Yld.move rfl) rfl ?_
      refine DL.q rfl (Yld.move rfl) rfl ?_
      refine DL.q rfl (Yld.indexRow Tryd.underlying54 sz3 rfl rfl hl (by first | rfl | omega | (simp; done) | (simp; omega)) (by omega) (by first | omega | (simp; done) | (simp; omega))) rfl ?_
      refine DL.q rfl (Yld.loadRow1 (cl := 1) Tryd.underlying3 rfl rfl rfl hl hla) rfl ?_
      refine DL.q rfl (Yld.move rfl) rfl ?_
      refine DL.q rfl (Yld.move rfl) rfl ?_
      refine DL.q rfl (Yld.indexRow Tryd.underlying54 sz3 rfl rfl hm (by first | rfl | omega | (simp; done) | (simp; omega)) (by omega) (by first | omega | (simp; done) | (simp; omega))) rfl ?_
      refine DL.q rfl (Yld.loadRow1 (cl := 2) Tryd.underlying3 rfl rfl rfl hm hlb) rfl ?_
      refine DL.q rfl (Yld.bin rfl rfl BinV.neq) rfl ?_
      refine DL.done ?_
      refine N.next ?_
      refine W.keep (.cons (k := 0) rfl (.cons (k := 1) rfl (.cons (k := 5) rfl (.cons (k := 25) rfl .nil)))) (.cons (k := 0) rfl (.cons (k := 1) rfl (.cons (k := 2) rfl .nil))) ?_
      first | refine W.condD rfl (fun hc25 => ?_) (fun hc25 => ?_) | (refine W.cond rfl (fun hc25 => ?_) (fun hc25 => ?_) <;> try simp only [Bool.or_eq_true, Bool.and_eq_true, Bool.not_eq_true', Bool.not_eq_false', decide_eq_true_eq, Bool.or_eq_false_iff, Bool.and_eq_false_iff, decide_eq_false_iff_not, beq_iff_eq, beq_eq_false_iff_ne, ne_eq, Decidable.not_not] at hc25)
      ·
        refine W.seq ?_
        refine W.region ?_
        refine RL.q (Yld.assign rfl) rfl ?_
        refine RL.nil ?_
        refine N.next ?_
        refine W.keep (.cons (k := 4) rfl .nil) (.cons (k := 0) rfl (.cons (k := 1) rfl (.cons (k := 2) rfl .nil))) ?_
        refine W.ret ?_
        refine N.block_ret ?_
        refine N.then_ret ?_
        refine N.then_ret ?_
        refine N.block_ret ?_
        refine N.then_ret ?_
        exact N.retBy [1, 2] (.cons (.tmp rfl) .nil) rfl rfl rfl rfl ⟨by rw [decide_eq_false (by rintro rfl; rw [ha] at hb; cases hb; exact hc25 rfl)]; rfl, rfl⟩
      ·
        refine W.skip ?_
        refine N.block_normal ?_
        refine N.next ?_
        refine W.region ?_
        refine RL.q (Yld.move rfl) rfl ?_
        refine RL.q (Yld.bin rfl rfl (by first | exact BinV.add (by omega) (by omega) | exact BinV.addW)) rfl ?_
        refine RL.q (Yld.assign rfl) rfl ?_
        refine RL.nil ?_
        exact N.famK (j + 1) ⟨⟨by omega, fun i hi => (Nat.lt_succ_iff_lt_or_eq.1 hi).elim (hI i) (fun e => by subst e; rw [ha, hb]; congr 1; omega)⟩, by omega⟩ (.as rfl (by first | rfl | (simp; done) | (congr 1; simp; done) | (congr 1; omega)) .nil) (.cons rfl (.cons rfl .nil)) .nil (.cons rfl (.cons rfl (.cons rfl .nil)))
    ·
      refine W.exit ?_
      refine N.then_exit ?_
      refine N.then_exit ?_
      refine N.block_eq ?_
      refine N.next ?_
      refine W.keep .nil (.cons (k := 0) rfl (.cons (k := 1) rfl (.cons (k := 2) rfl .nil))) ?_
      refine W.seq ?_
      refine W.region ?_
      refine RL.q (Yld.assign rfl) rfl ?_
      refine RL.nil ?_
      refine N.next ?_
      refine W.ret ?_
      exact N.retBy [1, 2] (.cons (.tmp rfl) .nil) rfl rfl rfl rfl ⟨by rw [decide_eq_true (eq_of_get (by omega) fun i hi => hI i (by omega))]; rfl, rfl⟩

set_option maxRecDepth 100000 in
set_option maxHeartbeats 1600000 in
theorem sameCfgZ_ct  : Ct Tryd.prog 73 [.agg [.slice none 0 0, .slice none 0 0, .slice none 0 0].toArray, .agg [.slice none 0 0, .slice none 0 0, .slice none 0 0].toArray] [] (fun v Hs => v = .bool true ∧ Hs = []) := by
  refine Ct.body Tryd.func73 rfl Tryd.ntmps73 rfl ?_
  intro E F
  refine W.seq ?_
  refine W.imp (Imp.empty _ 90) ?_
  refine W.imp (Imp.empty _ 91) ?_
  refine W.region ?_
  refine RL.e (Eff.box 102 _ rfl rfl) rfl ?_
  rintro _ _ ⟨b2, rfl, rfl⟩
  refine RL.e (Eff.box 103 _ rfl rfl) rfl ?_
  rintro _ _ ⟨b3, rfl, rfl⟩
  refine RL.q (Yld.assign rfl) rfl ?_
  refine RL.nil ?_
  refine N.next ?_
  refine W.seq ?_
  refine W.region ?_
  refine RL.q (Yld.fieldAddr fo59_0 rfl) rfl ?_
  refine RL.q (Yld.load1 (c := 102) Tryd.underlying54 rfl rfl rfl (by first | exact single_self _ _ | exact pset_self _ _ _ | assumption) rfl) rfl ?_
  refine RL.q (Yld.fieldAddr fo59_0 rfl) rfl ?_
  refine RL.q (Yld.load1 (c := 103) Tryd.underlying54 rfl rfl rfl (by first | exact single_self _ _ | exact pset_self _ _ _ | assumption) rfl) rfl ?_
  refine RL.e (Eff.call ent59 [90, 91] [90, 91] (.cons rfl (.cons rfl .nil)) (sameInts_ct [] emp none 0 ⟨rfl, rfl⟩ [] emp none 0 ⟨rfl, rfl⟩) rfl rfl rfl rfl (by rintro _ _ ⟨_, rfl⟩; rfl)) rfl ?_
  rintro _ _ ⟨_, ⟨rfl, rfl⟩, rfl⟩
  refine RL.q (Yld.move rfl) rfl ?_
  refine' RL.and (t := 10) (d := 16) 6 rfl (.cons (k := 0) rfl (.cons (k := 1) rfl (.cons (k := 2) rfl (.cons (k := 3) rfl (.cons (k := 4) rfl (.cons (k := 5) rfl (.cons (k := 6) rfl (.cons (k := 7) rfl (.cons (k := 8) rfl (.cons (k := 9) rfl .nil)))))))))) (.cons (k := 0) rfl (.cons (k := 90) rfl (.cons (k := 91) rfl (.cons (k := 102) rfl (.cons (k := 103) rfl .nil))))) ?_ ?_ ?_
  rotate_left 1
  ·
    intro hg10
    refine RL.gq rfl rfl (Yld.fieldAddr fo59_1 rfl) rfl ?_
    refine RL.gq rfl rfl (Yld.load1 (c := 102) Tryd.underlying54 rfl rfl rfl (by first | exact single_self _ _ | exact pset_self _ _ _ | assumption) rfl) rfl ?_
    refine RL.gq rfl rfl (Yld.fieldAddr fo59_1 rfl) rfl ?_
    refine RL.gq rfl rfl (Yld.load1 (c := 103) Tryd.underlying54 rfl rfl rfl (by first | exact single_self _ _ | exact pset_self _ _ _ | assumption) rfl) rfl ?_
    refine RL.ge rfl rfl (Eff.call ent59 [90, 91] [90, 91] (.cons rfl (.cons rfl .nil)) (sameInts_ct [] emp none 0 ⟨rfl, rfl⟩ [] emp none 0 ⟨rfl, rfl⟩) rfl rfl rfl rfl (by rintro _ _ ⟨_, rfl⟩; rfl)) rfl ?_
    rintro _ _ ⟨_, ⟨rfl, rfl⟩, rfl⟩
    refine RL.q (by first | exact Yld.pickT rfl rfl | exact Yld.pickF rfl rfl) rfl ?_
    exact RL.nil (N.meet (.cons rfl (.cons rfl (.cons rfl (.cons rfl (.cons rfl (.cons rfl (.cons rfl (.cons rfl (.cons rfl (.cons rfl (.cons rfl .nil))))))))))) (.cons rfl (.cons rfl (.cons rfl (.cons rfl (.cons rfl .nil))))))
  ·
    intro hg10
    refine RL.gskip rfl rfl rfl rfl ?_
    refine RL.gskip rfl rfl rfl rfl ?_
    refine RL.gskip rfl rfl rfl rfl ?_
    refine RL.gskip rfl rfl rfl rfl ?_
    refine RL.gskip rfl rfl rfl rfl ?_
    refine RL.q (by first | exact Yld.pickT rfl rfl | exact Yld.pickF rfl rfl) rfl ?_
    exact RL.nil (N.meet (.cons rfl (.cons rfl (.cons rfl (.cons rfl (.cons rfl (.cons rfl (.cons rfl (.cons rfl (.cons rfl (.cons rfl (.cons rfl .nil))))))))))) (.cons rfl (.cons rfl (.cons rfl (.cons rfl (.cons rfl .nil))))))
  refine RL.q (Yld.move rfl) rfl ?_
  refine' RL.and (t := 17) (d := 23) 6 rfl (.cons (k := 0) rfl (.cons (k := 1) rfl (.cons (k := 2) rfl (.cons (k := 3) rfl (.cons (k := 4) rfl (.cons (k := 5) rfl (.cons (k := 6) rfl (.cons (k := 7) rfl (.cons (k := 8) rfl (.cons (k := 9) rfl (.cons (k := 16) rfl .nil))))))))))) (.cons (k := 0) rfl (.cons (k := 90) rfl (.cons (k := 91) rfl (.cons (k := 102) rfl (.cons (k := 103) rfl .nil))))) ?_ ?_ ?_
  rotate_left 1
  ·
    intro hg17
    refine RL.gq rfl rfl (Yld.fieldAddr fo59_2 rfl) rfl ?_
    refine RL.gq rfl rfl (Yld.load1 (c := 102) Tryd.underlying54 rfl rfl rfl (by first | exact single_self _ _ | exact pset_self _ _ _ | assumption) rfl) rfl ?_
    refine RL.gq rfl rfl (Yld.fieldAddr fo59_2 rfl) rfl ?_
    refine RL.gq rfl rfl (Yld.load1 (c := 103) Tryd.underlying54 rfl rfl rfl (by first | exact single_self _ _ | exact pset_self _ _ _ | assumption) rfl) rfl ?_
    refine RL.ge rfl rfl (Eff.call ent59 [90, 91] [90, 91] (.cons rfl (.cons rfl .nil)) (sameInts_ct [] emp none 0 ⟨rfl, rfl⟩ [] emp none 0 ⟨rfl, rfl⟩) rfl rfl rfl rfl (by rintro _ _ ⟨_, rfl⟩; rfl)) rfl ?_
    rintro _ _ ⟨_, ⟨rfl, rfl⟩, rfl⟩
    refine RL.q (by first | exact Yld.pickT rfl rfl | exact Yld.pickF rfl rfl) rfl ?_
    exact RL.nil (N.meet (.cons rfl (.cons rfl (.cons rfl (.cons rfl (.cons rfl (.cons rfl (.cons rfl (.cons rfl (.cons rfl (.cons rfl (.cons rfl (.cons rfl .nil)))))))))))) (.cons rfl (.cons rfl (.cons rfl (.cons rfl (.cons rfl .nil))))))
  ·
    intro hg17
    refine RL.gskip rfl rfl rfl rfl ?_
    refine RL.gskip rfl rfl rfl rfl ?_
    refine RL.gskip rfl rfl rfl rfl ?_
    refine RL.gskip rfl rfl rfl rfl ?_
    refine RL.gskip rfl rfl rfl rfl ?_
    refine RL.q (by first | exact Yld.pickT rfl rfl | exact Yld.pickF rfl rfl) rfl ?_
    exact RL.nil (N.meet (.cons rfl (.cons rfl (.cons rfl (.cons rfl (.cons rfl (.cons rfl (.cons rfl (.cons rfl (.cons rfl (.cons rfl (.cons rfl (.cons rfl .nil)))))))))))) (.cons rfl (.cons rfl (.cons rfl (.cons rfl (.cons rfl .nil))))))
  refine RL.q (Yld.assign rfl) rfl ?_
  refine RL.nil ?_
  refine N.next ?_
  refine W.keep (.cons (k := 4) rfl .nil) (.cons (k := 0) rfl (.cons (k := 90) rfl (.cons (k := 91) rfl (.cons (k := 102) rfl (.cons (k := 103) rfl .nil))))) ?_
  refine W.ret ?_
  exact N.retBy [] (.cons (.tmp rfl) .nil) rfl rfl rfl rfl ⟨rfl, rfl⟩

set_option maxRecDepth 100000 in
set_option maxHeartbeats 3200000 in
theorem sameStaZ_ct  : Ct Tryd.prog 58 [.agg [.int .i64 0, .int .i64 0, .int .i64 0, .int .i64 0, .int .i64 0, .int .i64 0, .int .i64 0, .int .i64 0, .slice none 0 0, .slice none 0 0, .slice none 0 0, .slice none 0 0, .slice none 0 0, .slice none 0 0, .slice none 0 0].toArray, .agg [.int .i64 0, .int .i64 0, .int .i64 0, .int .i64 0, .int .i64 0, .int .i64 0, .int .i64 0, .int .i64 0, .slice none 0 0, .slice none 0 0, .slice none 0 0, .slice none 0 0, .slice none 0 0, .slice none 0 0, .slice none 0 0].toArray] [] (fun v Hs => v = .bool true ∧ Hs = []) := by
  refine Ct.body Tryd.func58 rfl Tryd.ntmps58 rfl ?_
  intro E F
  refine W.seq ?_
  refine W.imp (Imp.empty _ 90) ?_
  refine W.imp (Imp.empty _ 91) ?_
  refine W.region ?_
  refine RL.e (Eff.box 102 _ rfl rfl) rfl ?_
  rintro _ _ ⟨b2, rfl, rfl⟩
  refine RL.e (Eff.box 103 _ rfl rfl) rfl ?_
  rintro _ _ ⟨b3, rfl, rfl⟩
  refine RL.q (Yld.assign rfl) rfl ?_
  refine RL.nil ?_
  refine N.next ?_
  refine W.seq ?_
  refine W.region ?_
  refine RL.q (Yld.fieldAddr fo61_0 rfl) rfl ?_
  refine RL.q (Yld.load1 (c := 102) Tryd.underlying3 rfl rfl rfl (by first | exact single_self _ _ | exact pset_self _ _ _ | assumption) rfl) rfl ?_
  refine RL.q (Yld.fieldAddr fo61_0 rfl) rfl ?_
  refine RL.q (Yld.load1 (c := 103) Tryd.underlying3 rfl rfl rfl (by first | exact single_self _ _ | exact pset_self _ _ _ | assumption) rfl) rfl ?_
  refine RL.q (Yld.bin rfl rfl BinV.eql) rfl ?_
  refine RL.q (Yld.move rfl) rfl ?_
  refine' RL.and (t := 10) (d := 16) 6 rfl (.cons (k := 0) rfl (.cons (k := 1) rfl (.cons (k := 2) rfl (.cons (k := 3) rfl (.cons (k := 4) rfl (.cons (k := 5) rfl (.cons (k := 6) rfl (.cons (k := 7) rfl (.cons (k := 8) rfl (.cons (k := 9) rfl .nil)))))))))) (.cons (k := 0) rfl (.cons (k := 90) rfl (.cons (k := 91) rfl (.cons (k := 102) rfl (.cons (k := 103) rfl .nil))))) ?_ ?_ ?_
  rotate_left 1
  ·
    intro hg10
    refine RL.gq rfl rfl (Yld.fieldAddr fo61_1 rfl) rfl ?_
    refine RL.gq rfl rfl (Yld.load1 (c := 102) Tryd.underlying3 rfl rfl rfl (by first | exact single_self _ _ | exact pset_self _ _ _ | assumption) rfl) rfl ?_
    refine RL.gq rfl rfl (Yld.fieldAddr fo61_1 rfl) rfl ?_
    refine RL.gq rfl rfl (Yld.load1 (c := 103) Tryd.underlying3 rfl rfl rfl (by first | exact single_self _ _ | exact pset_self _ _ _ | assumption) rfl) rfl ?_
    refine RL.gq rfl rfl (Yld.bin rfl rfl BinV.eql) rfl ?_
    refine RL.q (by first | exact Yld.pickT rfl rfl | exact Yld.pickF rfl rfl) rfl ?_
    exact RL.nil (N.meet (.cons rfl (.cons rfl (.cons rfl (.cons rfl (.cons rfl (.cons rfl (.cons rfl (.cons rfl (.cons rfl (.cons rfl (.cons rfl .nil))))))))))) (.cons rfl (.cons rfl (.cons rfl (.cons rfl (.cons rfl .nil))))))
  ·
    intro hg10
    refine RL.gskip rfl rfl rfl rfl ?_
    refine RL.gskip rfl rfl rfl rfl ?_
    refine RL.gskip rfl rfl rfl rfl ?_
    refine RL.gskip rfl rfl rfl rfl ?_
    refine RL.gskip rfl rfl rfl rfl ?_
    refine RL.q (by first | exact Yld.pickT rfl rfl | exact Yld.pickF rfl rfl) rfl ?_
    exact RL.nil (N.meet (.cons rfl (.cons rfl (.cons rfl (.cons rfl (.cons rfl (.cons rfl (.cons rfl (.cons rfl (.cons rfl (.cons rfl (.cons rfl .nil))))))))))) (.cons rfl (.cons rfl (.cons rfl (.cons rfl (.cons rfl .nil))))))
  refine RL.q (Yld.move rfl) rfl ?_
  refine' RL.and (t := 17) (d := 23) 6 rfl (.cons (k := 0) rfl (.cons (k := 1) rfl (.cons (k := 2) rfl (.cons (k := 3) rfl (.cons (k := 4) rfl (.cons (k := 5) rfl (.cons (k := 6) rfl (.cons (k := 7) rfl (.cons (k := 8) rfl (.cons (k := 9) rfl (.cons (k := 16) rfl .nil))))))))))) (.cons (k := 0) rfl (.cons (k := 90) rfl (.cons (k := 91) rfl (.cons (k := 102) rfl (.cons (k := 103) rfl .nil))))) ?_ ?_ ?_
  rotate_left 1
  ·
    intro hg17
    refine RL.gq rfl rfl (Yld.fieldAddr fo61_2 rfl) rfl ?_
    refine RL.gq rfl rfl (Yld.load1 (c := 102) Tryd.underlying3 rfl rfl rfl (by first | exact single_self _ _ | exact pset_self _ _ _ | assumption) rfl) rfl ?_
    refine RL.gq rfl rfl (Yld.fieldAddr fo61_2 rfl) rfl ?_
    refine RL.gq rfl rfl (Yld.load1 (c := 103) Tryd.underlying3 rfl rfl rfl (by first | exact single_self _ _ | exact pset_self _ _ _ | assumption) rfl) rfl ?_
    refine RL.gq rfl rfl (Yld.bin rfl rfl BinV.eql) rfl ?_
    refine RL.q (by first | exact Yld.pickT rfl rfl | exact Yld.pickF rfl rfl) rfl ?_
    exact RL.nil (N.meet (.cons rfl (.cons rfl (.cons rfl (.cons rfl (.cons rfl (.cons rfl (.cons rfl (.cons rfl (.cons rfl (.cons rfl (.cons rfl (.cons rfl .nil)))))))))))) (.cons rfl (.cons rfl (.cons rfl (.cons rfl (.cons rfl .nil))))))
  ·
    intro hg17
    refine RL.gskip rfl rfl rfl rfl ?_
    refine RL.gskip rfl rfl rfl rfl ?_
    refine RL.gskip rfl rfl rfl rfl ?_
    refine RL.gskip rfl rfl rfl rfl ?_
    refine RL.gskip rfl rfl rfl rfl ?_
    refine RL.q (by first | exact Yld.pickT rfl rfl | exact Yld.pickF rfl rfl) rfl ?_
    exact RL.nil (N.meet (.cons rfl (.cons rfl (.cons rfl (.cons rfl (.cons rfl (.cons rfl (.cons rfl (.cons rfl (.cons rfl (.cons rfl (.cons rfl (.cons rfl .nil)))))))))))) (.cons rfl (.cons rfl (.cons rfl (.cons rfl (.cons rfl .nil))))))
  refine RL.q (Yld.move rfl) rfl ?_
  refine' RL.and (t := 24) (d := 30) 6 rfl (.cons (k := 0) rfl (.cons (k := 1) rfl (.cons (k := 2) rfl (.cons (k := 3) rfl (.cons (k := 4) rfl (.cons (k := 5) rfl (.cons (k := 6) rfl (.cons (k := 7) rfl (.cons (k := 8) rfl (.cons (k := 9) rfl (.cons (k := 16) rfl (.cons (k := 23) rfl .nil)))))))))))) (.cons (k := 0) rfl (.cons (k := 90) rfl (.cons (k := 91) rfl (.cons (k := 102) rfl (.cons (k := 103) rfl .nil))))) ?_ ?_ ?_
  rotate_left 1
  ·
    intro hg24
    refine RL.gq rfl rfl (Yld.fieldAddr fo61_3 rfl) rfl ?_
    refine RL.gq rfl rfl (Yld.load1 (c := 102) Tryd.underlying3 rfl rfl rfl (by first | exact single_self _ _ | exact pset_self _ _ _ | assumption) rfl) rfl ?_
    refine RL.gq rfl rfl (Yld.fieldAddr fo61_3 rfl) rfl ?_
    refine RL.gq rfl rfl (Yld.load1 (c := 103) Tryd.underlying3 rfl rfl rfl (by first | exact single_self _ _ | exact pset_self _ _ _ | assumption) rfl) rfl ?_
    refine RL.gq rfl rfl (Yld.bin rfl rfl BinV.eql) rfl ?_
    refine RL.q (by first | exact Yld.pickT rfl rfl | exact Yld.pickF rfl rfl) rfl ?_
    exact RL.nil (N.meet (.cons rfl (.cons rfl (.cons rfl (.cons rfl (.cons rfl (.cons rfl (.cons rfl (.cons rfl (.cons rfl (.cons rfl (.cons rfl (.cons rfl (.cons rfl .nil))))))))))))) (.cons rfl (.cons rfl (.cons rfl (.cons rfl (.cons rfl .nil))))))
  ·
    intro hg24
    refine RL.gskip rfl rfl rfl rfl ?_
    refine RL.gskip rfl rfl rfl rfl ?_
    refine RL.gskip rfl rfl rfl rfl ?_
    refine RL.gskip rfl rfl rfl rfl ?_
    refine RL.gskip rfl rfl rfl rfl ?_
    refine RL.q (by first | exact Yld.pickT rfl rfl | exact Yld.pickF rfl rfl) rfl ?_
    exact RL.nil (N.meet (.cons rfl (.cons rfl (.cons rfl (.cons rfl (.cons rfl (.cons rfl (.cons rfl (.cons rfl (.cons rfl (.cons rfl (.cons rfl (.cons rfl (.cons rfl .nil))))))))))))) (.cons rfl (.cons rfl (.cons rfl (.cons rfl (.cons rfl .nil))))))
  refine RL.q (Yld.move rfl) rfl ?_
  refine' RL.and (t := 31) (d := 37) 6 rfl (.cons (k := 0) rfl (.cons (k := 1) rfl (.cons (k := 2) rfl (.cons (k := 3) rfl (.cons (k := 4) rfl (.cons (k := 5) rfl (.cons (k := 6) rfl (.cons (k := 7) rfl (.cons (k := 8) rfl (.cons (k := 9) rfl (.cons (k := 16) rfl (.cons (k := 23) rfl (.cons (k := 30) rfl .nil))))))))))))) (.cons (k := 0) rfl (.cons (k := 90) rfl (.cons (k := 91) rfl (.cons (k := 102) rfl (.cons (k := 103) rfl .nil))))) ?_ ?_ ?_
  rotate_left 1
  ·
    intro hg31
    refine RL.gq rfl rfl (Yld.fieldAddr fo61_4 rfl) rfl ?_
    refine RL.gq rfl rfl (Yld.load1 (c := 102) Tryd.underlying3 rfl rfl rfl (by first | exact single_self _ _ | exact pset_self _ _ _ | assumption) rfl) rfl ?_
    refine RL.gq rfl rfl (Yld.fieldAddr fo61_4 rfl) rfl ?_
    refine RL.gq rfl rfl (Yld.load1 (c := 103) Tryd.underlying3 rfl rfl rfl (by first | exact single_self _ _ | exact pset_self _ _ _ | assumption) rfl) rfl ?_
    refine RL.gq rfl rfl (Yld.bin rfl rfl BinV.eql) rfl ?_
    refine RL.q (by first | exact Yld.pickT rfl rfl | exact Yld.pickF rfl rfl) rfl ?_
    exact RL.nil (N.meet (.cons rfl (.cons rfl (.cons rfl (.cons rfl (.cons rfl (.cons rfl (.cons rfl (.cons rfl (.cons rfl (.cons rfl (.cons rfl (.cons rfl (.cons rfl (.cons rfl .nil)))))))))))))) (.cons rfl (.cons rfl (.cons rfl (.cons rfl (.cons rfl .nil))))))
  ·
    intro hg31
    refine RL.gskip rfl rfl rfl rfl ?_
    refine RL.gskip rfl rfl rfl rfl ?_
    refine RL.gskip rfl rfl rfl rfl ?_
    refine RL.gskip rfl rfl rfl rfl ?_
    refine RL.gskip rfl rfl rfl rfl ?_
    refine RL.q (by first | exact Yld.pickT rfl rfl | exact Yld.pickF rfl rfl) rfl ?_
    exact RL.nil (N.meet (.cons rfl (.cons rfl (.cons rfl (.cons rfl (.cons rfl (.cons rfl (.cons rfl (.cons rfl (.cons rfl (.cons rfl (.cons rfl (.cons rfl (.cons rfl (.cons rfl .nil)))))))))))))) (.cons rfl (.cons rfl (.cons rfl (.cons rfl (.cons rfl .nil))))))
  refine RL.q (Yld.move rfl) rfl ?_
  refine' RL.and (t := 38) (d := 44) 6 rfl (.cons (k := 0) rfl (.cons (k := 1) rfl (.cons (k := 2) rfl (.cons (k := 3) rfl (.cons (k := 4) rfl (.cons (k := 5) rfl (.cons (k := 6) rfl (.cons (k := 7) rfl (.cons (k := 8) rfl (.cons (k := 9) rfl (.cons (k := 16) rfl (.cons (k := 23) rfl (.cons (k := 30) rfl (.cons (k := 37) rfl .nil)))))))))))))) (.cons (k := 0) rfl (.cons (k := 90) rfl (.cons (k := 91) rfl (.cons (k := 102) rfl (.cons (k := 103) rfl .nil))))) ?_ ?_ ?_
  rotate_left 1
  ·
    intro hg38
    refine RL.gq rfl rfl (Yld.fieldAddr fo61_5 rfl) rfl ?_
    refine RL.gq rfl rfl (Yld.load1 (c := 102) Tryd.underlying3 rfl rfl rfl (by first | exact single_self _ _ | exact pset_self _ _ _ | assumption) rfl) rfl ?_
    refine RL.gq rfl rfl (Yld.fieldAddr fo61_5 rfl) rfl ?_
    refine RL.gq rfl rfl (Yld.load1 (c := 103) Tryd.underlying3 rfl rfl rfl (by first | exact single_self _ _ | exact pset_self _ _ _ | assumption) rfl) rfl ?_
    refine RL.gq rfl rfl (Yld.bin rfl rfl BinV.eql) rfl ?_
    refine RL.q (by first | exact Yld.pickT rfl rfl | exact Yld.pickF rfl rfl) rfl ?_
    exact RL.nil (N.meet (.cons rfl (.cons rfl (.cons rfl (.cons rfl (.cons rfl (.cons rfl (.cons rfl (.cons rfl (.cons rfl (.cons rfl (.cons rfl (.cons rfl (.cons rfl (.cons rfl (.cons rfl .nil))))))))))))))) (.cons rfl (.cons rfl (.cons rfl (.cons rfl (.cons rfl .nil))))))
  ·
    intro hg38
    refine RL.gskip rfl rfl rfl rfl ?_
    refine RL.gskip rfl rfl rfl rfl ?_
    refine RL.gskip rfl rfl rfl rfl ?_
    refine RL.gskip rfl rfl rfl rfl ?_
    refine RL.gskip rfl rfl rfl rfl ?_
    refine RL.q (by first | exact Yld.pickT rfl rfl | exact Yld.pickF rfl rfl) rfl ?_
    exact RL.nil (N.meet (.cons rfl (.cons rfl (.cons rfl (.cons rfl (.cons rfl (.cons rfl (.cons rfl (.cons rfl (.cons rfl (.cons rfl (.cons rfl (.cons rfl (.cons rfl (.cons rfl (.cons rfl .nil))))))))))))))) (.cons rfl (.cons rfl (.cons rfl (.cons rfl (.cons rfl .nil))))))
  refine RL.q (Yld.move rfl) rfl ?_
  refine' RL.and (t := 45) (d := 51) 6 rfl (.cons (k := 0) rfl (.cons (k := 1) rfl (.cons (k := 2) rfl (.cons (k := 3) rfl (.cons (k := 4) rfl (.cons (k := 5) rfl (.cons (k := 6) rfl (.cons (k := 7) rfl (.cons (k := 8) rfl (.cons (k := 9) rfl (.cons (k := 16) rfl (.cons (k := 23) rfl (.cons (k := 30) rfl (.cons (k := 37) rfl (.cons (k := 44) rfl .nil))))))))))))))) (.cons (k := 0) rfl (.cons (k := 90) rfl (.cons (k := 91) rfl (.cons (k := 102) rfl (.cons (k := 103) rfl .nil))))) ?_ ?_ ?_
  rotate_left 1
  ·
    intro hg45
    refine RL.gq rfl rfl (Yld.fieldAddr fo61_6 rfl) rfl ?_
    refine RL.gq rfl rfl (Yld.load1 (c := 102) Tryd.underlying3 rfl rfl rfl (by first | exact single_self _ _ | exact pset_self _ _ _ | assumption) rfl) rfl ?_
    refine RL.gq rfl rfl (Yld.fieldAddr fo61_6 rfl) rfl ?_
    refine RL.gq rfl rfl (Yld.load1 (c := 103) Tryd.underlying3 rfl rfl rfl (by first | exact single_self _ _ | exact pset_self _ _ _ | assumption) rfl) rfl ?_
    refine RL.gq rfl rfl (Yld.bin rfl rfl BinV.eql) rfl ?_
    refine RL.q (by first | exact Yld.pickT rfl rfl | exact Yld.pickF rfl rfl) rfl ?_
    exact RL.nil (N.meet (.cons rfl (.cons rfl (.cons rfl (.cons rfl (.cons rfl (.cons rfl (.cons rfl (.cons rfl (.cons rfl (.cons rfl (.cons rfl (.cons rfl (.cons rfl (.cons rfl (.cons rfl (.cons rfl .nil)))))))))))))))) (.cons rfl (.cons rfl (.cons rfl (.cons rfl (.cons rfl .nil))))))
  ·
    intro hg45
    refine RL.gskip rfl rfl rfl rfl ?_
    refine RL.gskip rfl rfl rfl rfl ?_
    refine RL.gskip rfl rfl rfl rfl ?_
    refine RL.gskip rfl rfl rfl rfl ?_
    refine RL.gskip rfl rfl rfl rfl ?_
    refine RL.q (by first | exact Yld.pickT rfl rfl | exact Yld.pickF rfl rfl) rfl ?_
    exact RL.nil (N.meet (.cons rfl (.cons rfl (.cons rfl (.cons rfl (.cons rfl (.cons rfl (.cons rfl (.cons rfl (.cons rfl (.cons rfl (.cons rfl (.cons rfl (.cons rfl (.cons rfl (.cons rfl (.cons rfl .nil)))))))))))))))) (.cons rfl (.cons rfl (.cons rfl (.cons rfl (.cons rfl .nil))))))
  refine RL.q (Yld.move rfl) rfl ?_
  refine' RL.and (t := 52) (d := 58) 6 rfl (.cons (k := 0) rfl (.cons (k := 1) rfl (.cons (k := 2) rfl (.cons (k := 3) rfl (.cons (k := 4) rfl (.cons (k := 5) rfl (.cons (k := 6) rfl (.cons (k := 7) rfl (.cons (k := 8) rfl (.cons (k := 9) rfl (.cons (k := 16) rfl (.cons (k := 23) rfl (.cons (k := 30) rfl (.cons (k := 37) rfl (.cons (k := 44) rfl (.cons (k := 51) rfl .nil)))))))))))))))) (.cons (k := 0) rfl (.cons (k := 90) rfl (.cons (k := 91) rfl (.cons (k := 102) rfl (.cons (k := 103) rfl .nil))))) ?_ ?_ ?_
  rotate_left 1
  ·
    intro hg52
    refine RL.gq rfl rfl (Yld.fieldAddr fo61_7 rfl) rfl ?_
    refine RL.gq rfl rfl (Yld.load1 (c := 102) Tryd.underlying3 rfl rfl rfl (by first | exact single_self _ _ | exact pset_self _ _ _ | assumption) rfl) rfl ?_
    refine RL.gq rfl rfl (Yld.fieldAddr fo61_7 rfl) rfl ?_
    refine RL.gq rfl rfl (Yld.load1 (c := 103) Tryd.underlying3 rfl rfl rfl (by first | exact single_self _ _ | exact pset_self _ _ _ | assumption) rfl) rfl ?_
    refine RL.gq rfl rfl (Yld.bin rfl rfl BinV.eql) rfl ?_
    refine RL.q (by first | exact Yld.pickT rfl rfl | exact Yld.pickF rfl rfl) rfl ?_
    exact RL.nil (N.meet (.cons rfl (.cons rfl (.cons rfl (.cons rfl (.cons rfl (.cons rfl (.cons rfl (.cons rfl (.cons rfl (.cons rfl (.cons rfl (.cons rfl (.cons rfl (.cons rfl (.cons rfl (.cons rfl (.cons rfl .nil))))))))))))))))) (.cons rfl (.cons rfl (.cons rfl (.cons rfl (.cons rfl .nil))))))
  ·
    intro hg52
    refine RL.gskip rfl rfl rfl rfl ?_
    refine RL.gskip rfl rfl rfl rfl ?_
    refine RL.gskip rfl rfl rfl rfl ?_
    refine RL.gskip rfl rfl rfl rfl ?_
    refine RL.gskip rfl rfl rfl rfl ?_
    refine RL.q (by first | exact Yld.pickT rfl rfl | exact Yld.pickF rfl rfl) rfl ?_
    exact RL.nil (N.meet (.cons rfl (.cons rfl (.cons rfl (.cons rfl (.cons rfl (.cons rfl (.cons rfl (.cons rfl (.cons rfl (.cons rfl (.cons rfl (.cons rfl (.cons rfl (.cons rfl (.cons rfl (.cons rfl (.cons rfl .nil))))))))))))))))) (.cons rfl (.cons rfl (.cons rfl (.cons rfl (.cons rfl .nil))))))
  refine RL.q (Yld.move rfl) rfl ?_
  refine' RL.and (t := 59) (d := 65) 6 rfl (.cons (k := 0) rfl (.cons (k := 1) rfl (.cons (k := 2) rfl (.cons (k := 3) rfl (.cons (k := 4) rfl (.cons (k := 5) rfl (.cons (k := 6) rfl (.cons (k := 7) rfl (.cons (k := 8) rfl (.cons (k := 9) rfl (.cons (k := 16) rfl (.cons (k := 23) rfl (.cons (k := 30) rfl (.cons (k := 37) rfl (.cons (k := 44) rfl (.cons (k := 51) rfl (.cons (k := 58) rfl .nil))))))))))))))))) (.cons (k := 0) rfl (.cons (k := 90) rfl (.cons (k := 91) rfl (.cons (k := 102) rfl (.cons (k := 103) rfl .nil))))) ?_ ?_ ?_
  rotate_left 1
  ·
    intro hg59
    refine RL.gq rfl rfl (Yld.fieldAddr fo61_8 rfl) rfl ?_
    refine RL.gq rfl rfl (Yld.loadA (c := 102) Tryd.underlying59 rfl sz59 rfl rfl (by first | exact single_self _ _ | exact pset_self _ _ _ | assumption) rfl rfl) rfl ?_
    refine RL.gq rfl rfl (Yld.fieldAddr fo61_8 rfl) rfl ?_
    refine RL.gq rfl rfl (Yld.loadA (c := 103) Tryd.underlying59 rfl sz59 rfl rfl (by first | exact single_self _ _ | exact pset_self _ _ _ | assumption) rfl rfl) rfl ?_
    refine RL.ge rfl rfl (Eff.call ent73 [] [] (.cons rfl (.cons rfl .nil)) sameCfgZ_ct rfl rfl rfl rfl (by rintro _ _ ⟨_, rfl⟩; rfl)) rfl ?_
    rintro _ _ ⟨_, ⟨rfl, rfl⟩, rfl⟩
    refine RL.q (by first | exact Yld.pickT rfl rfl | exact Yld.pickF rfl rfl) rfl ?_
    exact RL.nil (N.meet (.cons rfl (.cons rfl (.cons rfl (.cons rfl (.cons rfl (.cons rfl (.cons rfl (.cons rfl (.cons rfl (.cons rfl (.cons rfl (.cons rfl (.cons rfl (.cons rfl (.cons rfl (.cons rfl (.cons rfl (.cons rfl .nil)))))))))))))))))) (.cons rfl (.cons rfl (.cons rfl (.cons rfl (.cons rfl .nil))))))
  ·
    intro hg59
    refine RL.gskip rfl rfl rfl rfl ?_
    refine RL.gskip rfl rfl rfl rfl ?_
    refine RL.gskip rfl rfl rfl rfl ?_
    refine RL.gskip rfl rfl rfl rfl ?_
    refine RL.gskip rfl rfl rfl rfl ?_
    refine RL.q (by first | exact Yld.pickT rfl rfl | exact Yld.pickF rfl rfl) rfl ?_
    exact RL.nil (N.meet (.cons rfl (.cons rfl (.cons rfl (.cons rfl (.cons rfl (.cons rfl (.cons rfl (.cons rfl (.cons rfl (.cons rfl (.cons rfl (.cons rfl (.cons rfl (.cons rfl (.cons rfl (.cons rfl (.cons rfl (.cons rfl .nil)))))))))))))))))) (.cons rfl (.cons rfl (.cons rfl (.cons rfl (.cons rfl .nil))))))
  refine RL.q (Yld.move rfl) rfl ?_
  refine' RL.and (t := 66) (d := 72) 6 rfl (.cons (k := 0) rfl (.cons (k := 1) rfl (.cons (k := 2) rfl (.cons (k := 3) rfl (.cons (k := 4) rfl (.cons (k := 5) rfl (.cons (k := 6) rfl (.cons (k := 7) rfl (.cons (k := 8) rfl (.cons (k := 9) rfl (.cons (k := 16) rfl (.cons (k := 23) rfl (.cons (k := 30) rfl (.cons (k := 37) rfl (.cons (k := 44) rfl (.cons (k := 51) rfl (.cons (k := 58) rfl (.cons (k := 65) rfl .nil)))))))))))))))))) (.cons (k := 0) rfl (.cons (k := 90) rfl (.cons (k := 91) rfl (.cons (k := 102) rfl (.cons (k := 103) rfl .nil))))) ?_ ?_ ?_
  rotate_left 1
  ·
    intro hg66
    refine RL.gq rfl rfl (Yld.fieldAddr fo61_9 rfl) rfl ?_
    refine RL.gq rfl rfl (Yld.loadA (c := 102) Tryd.underlying59 rfl sz59 rfl rfl (by first | exact single_self _ _ | exact pset_self _ _ _ | assumption) rfl rfl) rfl ?_
    refine RL.gq rfl rfl (Yld.fieldAddr fo61_9 rfl) rfl ?_
    refine RL.gq rfl rfl (Yld.loadA (c := 103) Tryd.underlying59 rfl sz59 rfl rfl (by first | exact single_self _ _ | exact pset_self _ _ _ | assumption) rfl rfl) rfl ?_
    refine RL.ge rfl rfl (Eff.call ent73 [] [] (.cons rfl (.cons rfl .nil)) sameCfgZ_ct rfl rfl rfl rfl (by rintro _ _ ⟨_, rfl⟩; rfl)) rfl ?_
    rintro _ _ ⟨_, ⟨rfl, rfl⟩, rfl⟩
    refine RL.q (by first | exact Yld.pickT rfl rfl | exact Yld.pickF rfl rfl) rfl ?_
    exact RL.nil (N.meet (.cons rfl (.cons rfl (.cons rfl (.cons rfl (.cons rfl (.cons rfl (.cons rfl (.cons rfl (.cons rfl (.cons rfl (.cons rfl (.cons rfl (.cons rfl (.cons rfl (.cons rfl (.cons rfl (.cons rfl (.cons rfl (.cons rfl .nil))))))))))))))))))) (.cons rfl (.cons rfl (.cons rfl (.cons rfl (.cons rfl .nil))))))
  ·
    intro hg66
    refine RL.gskip rfl rfl rfl rfl ?_
    refine RL.gskip rfl rfl rfl rfl ?_
    refine RL.gskip rfl rfl rfl rfl ?_
    refine RL.gskip rfl rfl rfl rfl ?_
    refine RL.gskip rfl rfl rfl rfl ?_
    refine RL.q (by first | exact Yld.pickT rfl rfl | exact Yld.pickF rfl rfl) rfl ?_
    exact RL.nil (N.meet (.cons rfl (.cons rfl (.cons rfl (.cons rfl (.cons rfl (.cons rfl (.cons rfl (.cons rfl (.cons rfl (.cons rfl (.cons rfl (.cons rfl (.cons rfl (.cons rfl (.cons rfl (.cons rfl (.cons rfl (.cons rfl (.cons rfl .nil))))))))))))))))))) (.cons rfl (.cons rfl (.cons rfl (.cons rfl (.cons rfl .nil))))))
  refine RL.q (Yld.move rfl) rfl ?_
  refine' RL.and (t := 73) (d := 79) 6 rfl (.cons (k := 0) rfl (.cons (k := 1) rfl (.cons (k := 2) rfl (.cons (k := 3) rfl (.cons (k := 4) rfl (.cons (k := 5) rfl (.cons (k := 6) rfl (.cons (k := 7) rfl (.cons (k := 8) rfl (.cons (k := 9) rfl (.cons (k := 16) rfl (.cons (k := 23) rfl (.cons (k := 30) rfl (.cons (k := 37) rfl (.cons (k := 44) rfl (.cons (k := 51) rfl (.cons (k := 58) rfl (.cons (k := 65) rfl (.cons (k := 72) rfl .nil))))))))))))))))))) (.cons (k := 0) rfl (.cons (k := 90) rfl (.cons (k := 91) rfl (.cons (k := 102) rfl (.cons (k := 103) rfl .nil))))) ?_ ?_ ?_
  rotate_left 1
  ·
    intro hg73
    refine RL.gq rfl rfl (Yld.fieldAddr fo61_10 rfl) rfl ?_
    refine RL.gq rfl rfl (Yld.load1 (c := 102) Tryd.underlying54 rfl rfl rfl (by first | exact single_self _ _ | exact pset_self _ _ _ | assumption) rfl) rfl ?_
    refine RL.gq rfl rfl (Yld.fieldAddr fo61_10 rfl) rfl ?_
    refine RL.gq rfl rfl (Yld.load1 (c := 103) Tryd.underlying54 rfl rfl rfl (by first | exact single_self _ _ | exact pset_self _ _ _ | assumption) rfl) rfl ?_
    refine RL.ge rfl rfl (Eff.call ent59 [90, 91] [90, 91] (.cons rfl (.cons rfl .nil)) (sameInts_ct [] emp none 0 ⟨rfl, rfl⟩ [] emp none 0 ⟨rfl, rfl⟩) rfl rfl rfl rfl (by rintro _ _ ⟨_, rfl⟩; rfl)) rfl ?_
    rintro _ _ ⟨_, ⟨rfl, rfl⟩, rfl⟩
    refine RL.q (by first | exact Yld.pickT rfl rfl | exact Yld.pickF rfl rfl) rfl ?_
    exact RL.nil (N.meet (.cons rfl (.cons rfl (.cons rfl (.cons rfl (.cons rfl (.cons rfl (.cons rfl (.cons rfl (.cons rfl (.cons rfl (.cons rfl (.cons rfl (.cons rfl (.cons rfl (.cons rfl (.cons rfl (.cons rfl (.cons rfl (.cons rfl (.cons rfl .nil)))))))))))))))))))) (.cons rfl (.cons rfl (.cons rfl (.cons rfl (.cons rfl .nil))))))
  ·
    intro hg73
    refine RL.gskip rfl rfl rfl rfl ?_
    refine RL.gskip rfl rfl rfl rfl ?_
    refine RL.gskip rfl rfl rfl rfl ?_
    refine RL.gskip rfl rfl rfl rfl ?_
    refine RL.gskip rfl rfl rfl rfl ?_
    refine RL.q (by first | exact Yld.pickT rfl rfl | exact Yld.pickF rfl rfl) rfl ?_
    exact RL.nil (N.meet (.cons rfl (.cons rfl (.cons rfl (.cons rfl (.cons rfl (.cons rfl (.cons rfl (.cons rfl (.cons rfl (.cons rfl (.cons rfl (.cons rfl (.cons rfl (.cons rfl (.cons rfl (.cons rfl (.cons rfl (.cons rfl (.cons rfl (.cons rfl .nil)))))))))))))))))))) (.cons rfl (.cons rfl (.cons rfl (.cons rfl (.cons rfl .nil))))))
  refine RL.q (Yld.assign rfl) rfl ?_
  refine RL.nil ?_
  refine N.next ?_
  refine W.keep (.cons (k := 4) rfl .nil) (.cons (k := 0) rfl (.cons (k := 90) rfl (.cons (k := 91) rfl (.cons (k := 102) rfl (.cons (k := 103) rfl .nil))))) ?_
  refine W.ret ?_
  exact N.retBy [] (.cons (.tmp rfl) .nil) rfl rfl rfl rfl ⟨rfl, rfl⟩

set_option maxRecDepth 100000 in
set_option maxHeartbeats 3200000 in
theorem sameMsgZ_ct  : Ct Tryd.prog 60 [.agg [.int .i64 0, .int .i64 0, .int .i64 0, .int .i64 0, .int .i64 0, .int .i64 0, .int .i64 0, .int .i64 0, .bool false, .slice none 0 0, .int .i64 0, .string .empty, .bool false].toArray, .agg [.int .i64 0, .int .i64 0, .int .i64 0, .int .i64 0, .int .i64 0, .int .i64 0, .int .i64 0, .int .i64 0, .bool false, .slice none 0 0, .int .i64 0, .string .empty, .bool false].toArray] [] (fun v Hs => v = .bool true ∧ Hs = []) := by
  refine Ct.body Tryd.func60 rfl Tryd.ntmps60 rfl ?_
  intro E F
  refine W.seq ?_
  refine W.region ?_
  refine RL.e (Eff.box 102 _ rfl rfl) rfl ?_
  rintro _ _ ⟨b2, rfl, rfl⟩
  refine RL.e (Eff.box 103 _ rfl rfl) rfl ?_
  rintro _ _ ⟨b3, rfl, rfl⟩
  refine RL.q (Yld.assign rfl) rfl ?_
  refine RL.nil ?_
  refine N.next ?_
  refine W.seq ?_
  refine W.seq ?_
  refine W.region ?_
  refine RL.q (Yld.fieldAddr fo69_9 rfl) rfl ?_
  refine RL.q (Yld.load1 (c := 102) Tryd.underlying67 rfl rfl rfl (by first | exact single_self _ _ | exact pset_self _ _ _ | assumption) rfl) rfl ?_
  refine RL.q (Yld.lenSl Tryd.underlying67 rfl) rfl ?_
  refine RL.q (Yld.fieldAddr fo69_9 rfl) rfl ?_
  refine RL.q (Yld.load1 (c := 103) Tryd.underlying67 rfl rfl rfl (by first | exact single_self _ _ | exact pset_self _ _ _ | assumption) rfl) rfl ?_
  refine RL.q (Yld.lenSl Tryd.underlying67 rfl) rfl ?_
  refine RL.q (Yld.bin rfl rfl BinV.neq) rfl ?_
  refine RL.nil ?_
  refine N.next ?_
  refine W.keep (.cons (k := 2) rfl (.cons (k := 3) rfl (.cons (k := 12) rfl .nil))) (.cons (k := 0) rfl (.cons (k := 102) rfl (.cons (k := 103) rfl .nil))) ?_
  first | (refine W.as (t := 12) rfl (boolF (by first | assumption | omega | (simp; done))) ?_; refine W.condF rfl ?_) | refine W.condF rfl ?_
  refine W.skip ?_
  refine N.next ?_
  refine W.seq ?_
  refine W.seq ?_
  refine W.region ?_
  refine RL.q (Yld.assign rfl) rfl ?_
  refine RL.nil ?_
  refine N.next ?_
  refine W.block ?_
  refine W.loopK (ι := Unit) (fun u => True) (fun u => [(5, .int .i64 0)]) (fun u => []) (fun u => 0) (.cons (k := 2) rfl (.cons (k := 3) rfl .nil)) (.cons (k := 0) rfl (.cons (k := 102) rfl (.cons (k := 103) rfl .nil))) () ?_ ?_ ?_ ?_
  · trivial
  · exact (.as rfl (by first | rfl | (simp; done) | (congr 1; simp; done) | (congr 1; omega)) .nil)
  · exact .nil
  rintro u _
  refine W.keep (.cons (k := 5) rfl (.cons (k := 2) rfl (.cons (k := 3) rfl .nil))) (.cons (k := 0) rfl (.cons (k := 102) rfl (.cons (k := 103) rfl .nil))) ?_
  refine W.seq ?_
  refine W.seq ?_
  refine W.region ?_
  refine RL.q (Yld.move rfl) rfl ?_
  refine RL.q (Yld.fieldAddr fo69_9 rfl) rfl ?_
  refine RL.q (Yld.load1 (c := 102) Tryd.underlying67 rfl rfl rfl (by first | exact single_self _ _ | exact pset_self _ _ _ | assumption) rfl) rfl ?_
  refine RL.q (Yld.lenSl Tryd.underlying67 rfl) rfl ?_
  refine RL.q (Yld.bin rfl rfl BinV.lss) rfl ?_
  refine RL.nil ?_
  refine N.next ?_
  refine W.keep (.cons (k := 2) rfl (.cons (k := 3) rfl (.cons (k := 5) rfl (.cons (k := 17) rfl .nil)))) (.cons (k := 0) rfl (.cons (k := 102) rfl (.cons (k := 103) rfl .nil))) ?_
  first | (refine W.as (t := 17) rfl (boolF (by first | assumption | omega | (simp; done))) ?_; refine W.condF rfl ?_) | refine W.condF rfl ?_
  refine W.exit ?_
  refine N.then_exit ?_
  refine N.then_exit ?_
  refine N.block_eq ?_
  refine N.next ?_
  refine W.seq ?_
  refine W.region ?_
  refine RL.q (Yld.fieldAddr fo69_0 rfl) rfl ?_
  refine RL.q (Yld.load1 (c := 102) Tryd.underlying3 rfl rfl rfl (by first | exact single_self _ _ | exact pset_self _ _ _ | assumption) rfl) rfl ?_
  refine RL.q (Yld.fieldAddr fo69_0 rfl) rfl ?_
  refine RL.q (Yld.load1 (c := 103) Tryd.underlying3 rfl rfl rfl (by first | exact single_self _ _ | exact pset_self _ _ _ | assumption) rfl) rfl ?_
  refine RL.q (Yld.bin rfl rfl BinV.eql) rfl ?_
  refine RL.q (Yld.move rfl) rfl ?_
  refine' RL.and (t := 69) (d := 75) 6 rfl (.cons (k := 2) rfl (.cons (k := 3) rfl (.cons (k := 5) rfl (.cons (k := 17) rfl (.cons (k := 64) rfl (.cons (k := 65) rfl (.cons (k := 66) rfl (.cons (k := 67) rfl (.cons (k := 68) rfl .nil))))))))) (.cons (k := 0) rfl (.cons (k := 102) rfl (.cons (k := 103) rfl .nil))) ?_ ?_ ?_
  rotate_left 1
  ·
    intro hg69
    refine RL.gq rfl rfl (Yld.fieldAddr fo69_1 rfl) rfl ?_
    refine RL.gq rfl rfl (Yld.load1 (c := 102) Tryd.underlying3 rfl rfl rfl (by first | exact single_self _ _ | exact pset_self _ _ _ | assumption) rfl) rfl ?_
    refine RL.gq rfl rfl (Yld.fieldAddr fo69_1 rfl) rfl ?_
    refine RL.gq rfl rfl (Yld.load1 (c := 103) Tryd.underlying3 rfl rfl rfl (by first | exact single_self _ _ | exact pset_self _ _ _ | assumption) rfl) rfl ?_
    refine RL.gq rfl rfl (Yld.bin rfl rfl BinV.eql) rfl ?_
    refine RL.q (by first | exact Yld.pickT rfl rfl | exact Yld.pickF rfl rfl) rfl ?_
    exact RL.nil (N.meet (.cons rfl (.cons rfl (.cons rfl (.cons rfl (.cons rfl (.cons rfl (.cons rfl (.cons rfl (.cons rfl (.cons rfl .nil)))))))))) (.cons rfl (.cons rfl (.cons rfl .nil))))
  ·
    intro hg69
    refine RL.gskip rfl rfl rfl rfl ?_
    refine RL.gskip rfl rfl rfl rfl ?_
    refine RL.gskip rfl rfl rfl rfl ?_
    refine RL.gskip rfl rfl rfl rfl ?_
    refine RL.gskip rfl rfl rfl rfl ?_
    refine RL.q (by first | exact Yld.pickT rfl rfl | exact Yld.pickF rfl rfl) rfl ?_
    exact RL.nil (N.meet (.cons rfl (.cons rfl (.cons rfl (.cons rfl (.cons rfl (.cons rfl (.cons rfl (.cons rfl (.cons rfl (.cons rfl .nil)))))))))) (.cons rfl (.cons rfl (.cons rfl .nil))))
  refine RL.q (Yld.move rfl) rfl ?_
  refine' RL.and (t := 76) (d := 82) 6 rfl (.cons (k := 2) rfl (.cons (k := 3) rfl (.cons (k := 5) rfl (.cons (k := 17) rfl (.cons (k := 64) rfl (.cons (k := 65) rfl (.cons (k := 66) rfl (.cons (k := 67) rfl (.cons (k := 68) rfl (.cons (k := 75) rfl .nil)))))))))) (.cons (k := 0) rfl (.cons (k := 102) rfl (.cons (k := 103) rfl .nil))) ?_ ?_ ?_
  rotate_left 1
  ·
    intro hg76
    refine RL.gq rfl rfl (Yld.fieldAddr fo69_2 rfl) rfl ?_
    refine RL.gq rfl rfl (Yld.load1 (c := 102) Tryd.underlying3 rfl rfl rfl (by first | exact single_self _ _ | exact pset_self _ _ _ | assumption) rfl) rfl ?_
    refine RL.gq rfl rfl (Yld.fieldAddr fo69_2 rfl) rfl ?_
    refine RL.gq rfl rfl (Yld.load1 (c := 103) Tryd.underlying3 rfl rfl rfl (by first | exact single_self _ _ | exact pset_self _ _ _ | assumption) rfl) rfl ?_
    refine RL.gq rfl rfl (Yld.bin rfl rfl BinV.eql) rfl ?_
    refine RL.q (by first | exact Yld.pickT rfl rfl | exact Yld.pickF rfl rfl) rfl ?_
    exact RL.nil (N.meet (.cons rfl (.cons rfl (.cons rfl (.cons rfl (.cons rfl (.cons rfl (.cons rfl (.cons rfl (.cons rfl (.cons rfl (.cons rfl .nil))))))))))) (.cons rfl (.cons rfl (.cons rfl .nil))))
  ·
    intro hg76
    refine RL.gskip rfl rfl rfl rfl ?_
    refine RL.gskip rfl rfl rfl rfl ?_
    refine RL.gskip rfl rfl rfl rfl ?_
    refine RL.gskip rfl rfl rfl rfl ?_
    refine RL.gskip rfl rfl rfl rfl ?_
    refine RL.q (by first | exact Yld.pickT rfl rfl | exact Yld.pickF rfl rfl) rfl ?_
    exact RL.nil (N.meet (.cons rfl (.cons rfl (.cons rfl (.cons rfl (.cons rfl (.cons rfl (.cons rfl (.cons rfl (.cons rfl (.cons rfl (.cons rfl .nil))))))))))) (.cons rfl (.cons rfl (.cons rfl .nil))))
  refine RL.q (Yld.move rfl) rfl ?_
  refine' RL.and (t := 83) (d := 89) 6 rfl (.cons (k := 2) rfl (.cons (k := 3) rfl (.cons (k := 5) rfl (.cons (k := 17) rfl (.cons (k := 64) rfl (.cons (k := 65) rfl (.cons (k := 66) rfl (.cons (k := 67) rfl (.cons (k := 68) rfl (.cons (k := 75) rfl (.cons (k := 82) rfl .nil))))))))))) (.cons (k := 0) rfl (.cons (k := 102) rfl (.cons (k := 103) rfl .nil))) ?_ ?_ ?_
  rotate_left 1
  ·
    intro hg83
    refine RL.gq rfl rfl (Yld.fieldAddr fo69_3 rfl) rfl ?_
    refine RL.gq rfl rfl (Yld.load1 (c := 102) Tryd.underlying3 rfl rfl rfl (by first | exact single_self _ _ | exact pset_self _ _ _ | assumption) rfl) rfl ?_
    refine RL.gq rfl rfl (Yld.fieldAddr fo69_3 rfl) rfl ?_
    refine RL.gq rfl rfl (Yld.load1 (c := 103) Tryd.underlying3 rfl rfl rfl (by first | exact single_self _ _ | exact pset_self _ _ _ | assumption) rfl) rfl ?_
    refine RL.gq rfl rfl (Yld.bin rfl rfl BinV.eql) rfl ?_
    refine RL.q (by first | exact Yld.pickT rfl rfl | exact Yld.pickF rfl rfl) rfl ?_
    exact RL.nil (N.meet (.cons rfl (.cons rfl (.cons rfl (.cons rfl (.cons rfl (.cons rfl (.cons rfl (.cons rfl (.cons rfl (.cons rfl (.cons rfl (.cons rfl .nil)))))))))))) (.cons rfl (.cons rfl (.cons rfl .nil))))
  ·
    intro hg83
    refine RL.gskip rfl rfl rfl rfl ?_
    refine RL.gskip rfl rfl rfl rfl ?_
    refine RL.gskip rfl rfl rfl rfl ?_
    refine RL.gskip rfl rfl rfl rfl ?_
    refine RL.gskip rfl rfl rfl rfl ?_
    refine RL.q (by first | exact Yld.pickT rfl rfl | exact Yld.pickF rfl rfl) rfl ?_
    exact RL.nil (N.meet (.cons rfl (.cons rfl (.cons rfl (.cons rfl (.cons rfl (.cons rfl (.cons rfl (.cons rfl (.cons rfl (.cons rfl (.cons rfl (.cons rfl .nil)))))))))))) (.cons rfl (.cons rfl (.cons rfl .nil))))
  refine RL.q (Yld.move rfl) rfl ?_
  refine' RL.and (t := 90) (d := 96) 6 rfl (.cons (k := 2) rfl (.cons (k := 3) rfl (.cons (k := 5) rfl (.cons (k := 17) rfl (.cons (k := 64) rfl (.cons (k := 65) rfl (.cons (k := 66) rfl (.cons (k := 67) rfl (.cons (k := 68) rfl (.cons (k := 75) rfl (.cons (k := 82) rfl (.cons (k := 89) rfl .nil)))))))))))) (.cons (k := 0) rfl (.cons (k := 102) rfl (.cons (k := 103) rfl .nil))) ?_ ?_ ?_
  rotate_left 1
  ·
    intro hg90
    refine RL.gq rfl rfl (Yld.fieldAddr fo69_4 rfl) rfl ?_
    refine RL.gq rfl rfl (Yld.load1 (c := 102) Tryd.underlying3 rfl rfl rfl (by first | exact single_self _ _ | exact pset_self _ _ _ | assumption) rfl) rfl ?_
    refine RL.gq rfl rfl (Yld.fieldAddr fo69_4 rfl) rfl ?_
    refine RL.gq rfl rfl (Yld.load1 (c := 103) Tryd.underlying3 rfl rfl rfl (by first | exact single_self _ _ | exact pset_self _ _ _ | assumption) rfl) rfl ?_
    refine RL.gq rfl rfl (Yld.bin rfl rfl BinV.eql) rfl ?_
    refine RL.q (by first | exact Yld.pickT rfl rfl | exact Yld.pickF rfl rfl) rfl ?_
    exact RL.nil (N.meet (.cons rfl (.cons rfl (.cons rfl (.cons rfl (.cons rfl (.cons rfl (.cons rfl (.cons rfl (.cons rfl (.cons rfl (.cons rfl (.cons rfl (.cons rfl .nil))))))))))))) (.cons rfl (.cons rfl (.cons rfl .nil))))
  ·
    intro hg90
    refine RL.gskip rfl rfl rfl rfl ?_
    refine RL.gskip rfl rfl rfl rfl ?_
    refine RL.gskip rfl rfl rfl rfl ?_
    refine RL.gskip rfl rfl rfl rfl ?_
    refine RL.gskip rfl rfl rfl rfl ?_
    refine RL.q (by first | exact Yld.pickT rfl rfl | exact Yld.pickF rfl rfl) rfl ?_
    exact RL.nil (N.meet (.cons rfl (.cons rfl (.cons rfl (.cons rfl (.cons rfl (.cons rfl (.cons rfl (.cons rfl (.cons rfl (.cons rfl (.cons rfl (.cons rfl (.cons rfl .nil))))))))))))) (.cons rfl (.cons rfl (.cons rfl .nil))))
  refine RL.q (Yld.move rfl) rfl ?_
  refine' RL.and (t := 97) (d := 103) 6 rfl (.cons (k := 2) rfl (.cons (k := 3) rfl (.cons (k := 5) rfl (.cons (k := 17) rfl (.cons (k := 64) rfl (.cons (k := 65) rfl (.cons (k := 66) rfl (.cons (k := 67) rfl (.cons (k := 68) rfl (.cons (k := 75) rfl (.cons (k := 82) rfl (.cons (k := 89) rfl (.cons (k := 96) rfl .nil))))))))))))) (.cons (k := 0) rfl (.cons (k := 102) rfl (.cons (k := 103) rfl .nil))) ?_ ?_ ?_
  rotate_left 1
  ·
    intro hg97
    refine RL.gq rfl rfl (Yld.fieldAddr fo69_5 rfl) rfl ?_
    refine RL.gq rfl rfl (Yld.load1 (c := 102) Tryd.underlying3 rfl rfl rfl (by first | exact single_self _ _ | exact pset_self _ _ _ | assumption) rfl) rfl ?_
    refine RL.gq rfl rfl (Yld.fieldAddr fo69_5 rfl) rfl ?_
    refine RL.gq rfl rfl (Yld.load1 (c := 103) Tryd.underlying3 rfl rfl rfl (by first | exact single_self _ _ | exact pset_self _ _ _ | assumption) rfl) rfl ?_
    refine RL.gq rfl rfl (Yld.bin rfl rfl BinV.eql) rfl ?_
    refine RL.q (by first | exact Yld.pickT rfl rfl | exact Yld.pickF rfl rfl) rfl ?_
    exact RL.nil (N.meet (.cons rfl (.cons rfl (.cons rfl (.cons rfl (.cons rfl (.cons rfl (.cons rfl (.cons rfl (.cons rfl (.cons rfl (.cons rfl (.cons rfl (.cons rfl (.cons rfl .nil)))))))))))))) (.cons rfl (.cons rfl (.cons rfl .nil))))
  ·
    intro hg97
    refine RL.gskip rfl rfl rfl rfl ?_
    refine RL.gskip rfl rfl rfl rfl ?_
    refine RL.gskip rfl rfl rfl rfl ?_
    refine RL.gskip rfl rfl rfl rfl ?_
    refine RL.gskip rfl rfl rfl rfl ?_
    refine RL.q (by first | exact Yld.pickT rfl rfl | exact Yld.pickF rfl rfl) rfl ?_
    exact RL.nil (N.meet (.cons rfl (.cons rfl (.cons rfl (.cons rfl (.cons rfl (.cons rfl (.cons rfl (.cons rfl (.cons rfl (.cons rfl (.cons rfl (.cons rfl (.cons rfl (.cons rfl .nil)))))))))))))) (.cons rfl (.cons rfl (.cons rfl .nil))))
  refine RL.q (Yld.move rfl) rfl ?_
  refine' RL.and (t := 104) (d := 110) 6 rfl (.cons (k := 2) rfl (.cons (k := 3) rfl (.cons (k := 5) rfl (.cons (k := 17) rfl (.cons (k := 64) rfl (.cons (k := 65) rfl (.cons (k := 66) rfl (.cons (k := 67) rfl (.cons (k := 68) rfl (.cons (k := 75) rfl (.cons (k := 82) rfl (.cons (k := 89) rfl (.cons (k := 96) rfl (.cons (k := 103) rfl .nil)))))))))))))) (.cons (k := 0) rfl (.cons (k := 102) rfl (.cons (k := 103) rfl .nil))) ?_ ?_ ?_
  rotate_left 1
  ·
    intro hg104
    refine RL.gq rfl rfl (Yld.fieldAddr fo69_6 rfl) rfl ?_
    refine RL.gq rfl rfl (Yld.load1 (c := 102) Tryd.underlying3 rfl rfl rfl (by first | exact single_self _ _ | exact pset_self _ _ _ | assumption) rfl) rfl ?_
    refine RL.gq rfl rfl (Yld.fieldAddr fo69_6 rfl) rfl ?_
    refine RL.gq rfl rfl (Yld.load1 (c := 103) Tryd.underlying3 rfl rfl rfl (by first | exact single_self _ _ | exact pset_self _ _ _ | assumption) rfl) rfl ?_
    refine RL.gq rfl rfl (Yld.bin rfl rfl BinV.eql) rfl ?_
    refine RL.q (by first | exact Yld.pickT rfl rfl | exact Yld.pickF rfl rfl) rfl ?_
    exact RL.nil (N.meet (.cons rfl (.cons rfl (.cons rfl (.cons rfl (.cons rfl (.cons rfl (.cons rfl (.cons rfl (.cons rfl (.cons rfl (.cons rfl (.cons rfl (.cons rfl (.cons rfl (.cons rfl .nil))))))))))))))) (.cons rfl (.cons rfl (.cons rfl .nil))))
  ·
    intro hg104
    refine RL.gskip rfl rfl rfl rfl ?_
    refine RL.gskip rfl rfl rfl rfl ?_
    refine RL.gskip rfl rfl rfl rfl ?_
    refine RL.gskip rfl rfl rfl rfl ?_
    refine RL.gskip rfl rfl rfl rfl ?_
    refine RL.q (by first | exact Yld.pickT rfl rfl | exact Yld.pickF rfl rfl) rfl ?_
    exact RL.nil (N.meet (.cons rfl (.cons rfl (.cons rfl (.cons rfl (.cons rfl (.cons rfl (.cons rfl (.cons rfl (.cons rfl (.cons rfl (.cons rfl (.cons rfl (.cons rfl (.cons rfl (.cons rfl .nil))))))))))))))) (.cons rfl (.cons rfl (.cons rfl .nil))))
  refine RL.q (Yld.move rfl) rfl ?_
  refine' RL.and (t := 111) (d := 117) 6 rfl (.cons (k := 2) rfl (.cons (k := 3) rfl (.cons (k := 5) rfl (.cons (k := 17) rfl (.cons (k := 64) rfl (.cons (k := 65) rfl (.cons (k := 66) rfl (.cons (k := 67) rfl (.cons (k := 68) rfl (.cons (k := 75) rfl (.cons (k := 82) rfl (.cons (k := 89) rfl (.cons (k := 96) rfl (.cons (k := 103) rfl (.cons (k := 110) rfl .nil))))))))))))))) (.cons (k := 0) rfl (.cons (k := 102) rfl (.cons (k := 103) rfl .nil))) ?_ ?_ ?_
  rotate_left 1
  ·
    intro hg111
    refine RL.gq rfl rfl (Yld.fieldAddr fo69_7 rfl) rfl ?_
    refine RL.gq rfl rfl (Yld.load1 (c := 102) Tryd.underlying3 rfl rfl rfl (by first | exact single_self _ _ | exact pset_self _ _ _ | assumption) rfl) rfl ?_
    refine RL.gq rfl rfl (Yld.fieldAddr fo69_7 rfl) rfl ?_
    refine RL.gq rfl rfl (Yld.load1 (c := 103) Tryd.underlying3 rfl rfl rfl (by first | exact single_self _ _ | exact pset_self _ _ _ | assumption) rfl) rfl ?_
    refine RL.gq rfl rfl (Yld.bin rfl rfl BinV.eql) rfl ?_
    refine RL.q (by first | exact Yld.pickT rfl rfl | exact Yld.pickF rfl rfl) rfl ?_
    exact RL.nil (N.meet (.cons rfl (.cons rfl (.cons rfl (.cons rfl (.cons rfl (.cons rfl (.cons rfl (.cons rfl (.cons rfl (.cons rfl (.cons rfl (.cons rfl (.cons rfl (.cons rfl (.cons rfl (.cons rfl .nil)))))))))))))))) (.cons rfl (.cons rfl (.cons rfl .nil))))
  ·
    intro hg111
    refine RL.gskip rfl rfl rfl rfl ?_
    refine RL.gskip rfl rfl rfl rfl ?_
    refine RL.gskip rfl rfl rfl rfl ?_
    refine RL.gskip rfl rfl rfl rfl ?_
    refine RL.gskip rfl rfl rfl rfl ?_
    refine RL.q (by first | exact Yld.pickT rfl rfl | exact Yld.pickF rfl rfl) rfl ?_
    exact RL.nil (N.meet (.cons rfl (.cons rfl (.cons rfl (.cons rfl (.cons rfl (.cons rfl (.cons rfl (.cons rfl (.cons rfl (.cons rfl (.cons rfl (.cons rfl (.cons rfl (.cons rfl (.cons rfl (.cons rfl .nil)))))))))))))))) (.cons rfl (.cons rfl (.cons rfl .nil))))
  refine RL.q (Yld.move rfl) rfl ?_
  refine' RL.and (t := 118) (d := 124) 6 rfl (.cons (k := 2) rfl (.cons (k := 3) rfl (.cons (k := 5) rfl (.cons (k := 17) rfl (.cons (k := 64) rfl (.cons (k := 65) rfl (.cons (k := 66) rfl (.cons (k := 67) rfl (.cons (k := 68) rfl (.cons (k := 75) rfl (.cons (k := 82) rfl (.cons (k := 89) rfl (.cons (k := 96) rfl (.cons (k := 103) rfl (.cons (k := 110) rfl (.cons (k := 117) rfl .nil)))))))))))))))) (.cons (k := 0) rfl (.cons (k := 102) rfl (.cons (k := 103) rfl .nil))) ?_ ?_ ?_
  rotate_left 1
  ·
    intro hg118
    refine RL.gq rfl rfl (Yld.fieldAddr fo69_8 rfl) rfl ?_
    refine RL.gq rfl rfl (Yld.load1 (c := 102) Tryd.underlying4 rfl rfl rfl (by first | exact single_self _ _ | exact pset_self _ _ _ | assumption) rfl) rfl ?_
    refine RL.gq rfl rfl (Yld.fieldAddr fo69_8 rfl) rfl ?_
    refine RL.gq rfl rfl (Yld.load1 (c := 103) Tryd.underlying4 rfl rfl rfl (by first | exact single_self _ _ | exact pset_self _ _ _ | assumption) rfl) rfl ?_
    refine RL.gq rfl rfl (Yld.bin rfl rfl (BinV.eqlB Tryd.underlying4)) rfl ?_
    refine RL.q (by first | exact Yld.pickT rfl rfl | exact Yld.pickF rfl rfl) rfl ?_
    exact RL.nil (N.meet (.cons rfl (.cons rfl (.cons rfl (.cons rfl (.cons rfl (.cons rfl (.cons rfl (.cons rfl (.cons rfl (.cons rfl (.cons rfl (.cons rfl (.cons rfl (.cons rfl (.cons rfl (.cons rfl (.cons rfl .nil))))))))))))))))) (.cons rfl (.cons rfl (.cons rfl .nil))))
  ·
    intro hg118
    refine RL.gskip rfl rfl rfl rfl ?_
    refine RL.gskip rfl rfl rfl rfl ?_
    refine RL.gskip rfl rfl rfl rfl ?_
    refine RL.gskip rfl rfl rfl rfl ?_
    refine RL.gskip rfl rfl rfl rfl ?_
    refine RL.q (by first | exact Yld.pickT rfl rfl | exact Yld.pickF rfl rfl) rfl ?_
    exact RL.nil (N.meet (.cons rfl (.cons rfl (.cons rfl (.cons rfl (.cons rfl (.cons rfl (.cons rfl (.cons rfl (.cons rfl (.cons rfl (.cons rfl (.cons rfl (.cons rfl (.cons rfl (.cons rfl (.cons rfl (.cons rfl .nil))))))))))))))))) (.cons rfl (.cons rfl (.cons rfl .nil))))
  refine RL.q (Yld.move rfl) rfl ?_
  refine' RL.and (t := 125) (d := 131) 6 rfl (.cons (k := 2) rfl (.cons (k := 3) rfl (.cons (k := 5) rfl (.cons (k := 17) rfl (.cons (k := 64) rfl (.cons (k := 65) rfl (.cons (k := 66) rfl (.cons (k := 67) rfl (.cons (k := 68) rfl (.cons (k := 75) rfl (.cons (k := 82) rfl (.cons (k := 89) rfl (.cons (k := 96) rfl (.cons (k := 103) rfl (.cons (k := 110) rfl (.cons (k := 117) rfl (.cons (k := 124) rfl .nil))))))))))))))))) (.cons (k := 0) rfl (.cons (k := 102) rfl (.cons (k := 103) rfl .nil))) ?_ ?_ ?_
  rotate_left 1
  ·
    intro hg125
    refine RL.gq rfl rfl (Yld.fieldAddr fo69_10 rfl) rfl ?_
    refine RL.gq rfl rfl (Yld.load1 (c := 102) Tryd.underlying3 rfl rfl rfl (by first | exact single_self _ _ | exact pset_self _ _ _ | assumption) rfl) rfl ?_
    refine RL.gq rfl rfl (Yld.fieldAddr fo69_10 rfl) rfl ?_
    refine RL.gq rfl rfl (Yld.load1 (c := 103) Tryd.underlying3 rfl rfl rfl (by first | exact single_self _ _ | exact pset_self _ _ _ | assumption) rfl) rfl ?_
    refine RL.gq rfl rfl (Yld.bin rfl rfl BinV.eql) rfl ?_
    refine RL.q (by first | exact Yld.pickT rfl rfl | exact Yld.pickF rfl rfl) rfl ?_
    exact RL.nil (N.meet (.cons rfl (.cons rfl (.cons rfl (.cons rfl (.cons rfl (.cons rfl (.cons rfl (.cons rfl (.cons rfl (.cons rfl (.cons rfl (.cons rfl (.cons rfl (.cons rfl (.cons rfl (.cons rfl (.cons rfl (.cons rfl .nil)))))))))))))))))) (.cons rfl (.cons rfl (.cons rfl .nil))))
  ·
    intro hg125
    refine RL.gskip rfl rfl rfl rfl ?_
    refine RL.gskip rfl rfl rfl rfl ?_
    refine RL.gskip rfl rfl rfl rfl ?_
    refine RL.gskip rfl rfl rfl rfl ?_
    refine RL.gskip rfl rfl rfl rfl ?_
    refine RL.q (by first | exact Yld.pickT rfl rfl | exact Yld.pickF rfl rfl) rfl ?_
    exact RL.nil (N.meet (.cons rfl (.cons rfl (.cons rfl (.cons rfl (.cons rfl (.cons rfl (.cons rfl (.cons rfl (.cons rfl (.cons rfl (.cons rfl (.cons rfl (.cons rfl (.cons rfl (.cons rfl (.cons rfl (.cons rfl (.cons rfl .nil)))))))))))))))))) (.cons rfl (.cons rfl (.cons rfl .nil))))
  refine RL.q (Yld.move rfl) rfl ?_
  refine' RL.and (t := 132) (d := 138) 6 rfl (.cons (k := 2) rfl (.cons (k := 3) rfl (.cons (k := 5) rfl (.cons (k := 17) rfl (.cons (k := 64) rfl (.cons (k := 65) rfl (.cons (k := 66) rfl (.cons (k := 67) rfl (.cons (k := 68) rfl (.cons (k := 75) rfl (.cons (k := 82) rfl (.cons (k := 89) rfl (.cons (k := 96) rfl (.cons (k := 103) rfl (.cons (k := 110) rfl (.cons (k := 117) rfl (.cons (k := 124) rfl (.cons (k := 131) rfl .nil)))))))))))))))))) (.cons (k := 0) rfl (.cons (k := 102) rfl (.cons (k := 103) rfl .nil))) ?_ ?_ ?_
  rotate_left 1
  ·
    intro hg132
    refine RL.gq rfl rfl (Yld.fieldAddr fo69_11 rfl) rfl ?_
    refine RL.gq rfl rfl (Yld.load1 (c := 102) Tryd.underlying9 rfl rfl rfl (by first | exact single_self _ _ | exact pset_self _ _ _ | assumption) rfl) rfl ?_
    refine RL.gq rfl rfl (Yld.fieldAddr fo69_11 rfl) rfl ?_
    refine RL.gq rfl rfl (Yld.load1 (c := 103) Tryd.underlying9 rfl rfl rfl (by first | exact single_self _ _ | exact pset_self _ _ _ | assumption) rfl) rfl ?_
    refine RL.gq rfl rfl (Yld.bin rfl rfl BinV.eqlS) rfl ?_
    refine RL.q (by first | exact Yld.pickT rfl rfl | exact Yld.pickF rfl rfl) rfl ?_
    exact RL.nil (N.meet (.cons rfl (.cons rfl (.cons rfl (.cons rfl (.cons rfl (.cons rfl (.cons rfl (.cons rfl (.cons rfl (.cons rfl (.cons rfl (.cons rfl (.cons rfl (.cons rfl (.cons rfl (.cons rfl (.cons rfl (.cons rfl (.cons rfl .nil))))))))))))))))))) (.cons rfl (.cons rfl (.cons rfl .nil))))
  ·
    intro hg132
    refine RL.gskip rfl rfl rfl rfl ?_
    refine RL.gskip rfl rfl rfl rfl ?_
    refine RL.gskip rfl rfl rfl rfl ?_
    refine RL.gskip rfl rfl rfl rfl ?_
    refine RL.gskip rfl rfl rfl rfl ?_
    refine RL.q (by first | exact Yld.pickT rfl rfl | exact Yld.pickF rfl rfl) rfl ?_
    exact RL.nil (N.meet (.cons rfl (.cons rfl (.cons rfl (.cons rfl (.cons rfl (.cons rfl (.cons rfl (.cons rfl (.cons rfl (.cons rfl (.cons rfl (.cons rfl (.cons rfl (.cons rfl (.cons rfl (.cons rfl (.cons rfl (.cons rfl (.cons rfl .nil))))))))))))))))))) (.cons rfl (.cons rfl (.cons rfl .nil))))
  refine RL.q (Yld.move rfl) rfl ?_
  refine' RL.and (t := 139) (d := 145) 6 rfl (.cons (k := 2) rfl (.cons (k := 3) rfl (.cons (k := 5) rfl (.cons (k := 17) rfl (.cons (k := 64) rfl (.cons (k := 65) rfl (.cons (k := 66) rfl (.cons (k := 67) rfl (.cons (k := 68) rfl (.cons (k := 75) rfl (.cons (k := 82) rfl (.cons (k := 89) rfl (.cons (k := 96) rfl (.cons (k := 103) rfl (.cons (k := 110) rfl (.cons (k := 117) rfl (.cons (k := 124) rfl (.cons (k := 131) rfl (.cons (k := 138) rfl .nil))))))))))))))))))) (.cons (k := 0) rfl (.cons (k := 102) rfl (.cons (k := 103) rfl .nil))) ?_ ?_ ?_
  rotate_left 1
  ·
    intro hg139
    refine RL.gq rfl rfl (Yld.fieldAddr fo69_12 rfl) rfl ?_
    refine RL.gq rfl rfl (Yld.load1 (c := 102) Tryd.underlying4 rfl rfl rfl (by first | exact single_self _ _ | exact pset_self _ _ _ | assumption) rfl) rfl ?_
    refine RL.gq rfl rfl (Yld.fieldAddr fo69_12 rfl) rfl ?_
    refine RL.gq rfl rfl (Yld.load1 (c := 103) Tryd.underlying4 rfl rfl rfl (by first | exact single_self _ _ | exact pset_self _ _ _ | assumption) rfl) rfl ?_
    refine RL.gq rfl rfl (Yld.bin rfl rfl (BinV.eqlB Tryd.underlying4)) rfl ?_
    refine RL.q (by first | exact Yld.pickT rfl rfl | exact Yld.pickF rfl rfl) rfl ?_
    exact RL.nil (N.meet (.cons rfl (.cons rfl (.cons rfl (.cons rfl (.cons rfl (.cons rfl (.cons rfl (.cons rfl (.cons rfl (.cons rfl (.cons rfl (.cons rfl (.cons rfl (.cons rfl (.cons rfl (.cons rfl (.cons rfl (.cons rfl (.cons rfl (.cons rfl .nil)))))))))))))))))))) (.cons rfl (.cons rfl (.cons rfl .nil))))
  ·
    intro hg139
    refine RL.gskip rfl rfl rfl rfl ?_
    refine RL.gskip rfl rfl rfl rfl ?_
    refine RL.gskip rfl rfl rfl rfl ?_
    refine RL.gskip rfl rfl rfl rfl ?_
    refine RL.gskip rfl rfl rfl rfl ?_
    refine RL.q (by first | exact Yld.pickT rfl rfl | exact Yld.pickF rfl rfl) rfl ?_
    exact RL.nil (N.meet (.cons rfl (.cons rfl (.cons rfl (.cons rfl (.cons rfl (.cons rfl (.cons rfl (.cons rfl (.cons rfl (.cons rfl (.cons rfl (.cons rfl (.cons rfl (.cons rfl (.cons rfl (.cons rfl (.cons rfl (.cons rfl (.cons rfl (.cons rfl .nil)))))))))))))))))))) (.cons rfl (.cons rfl (.cons rfl .nil))))
  refine RL.q (Yld.assign rfl) rfl ?_
  refine RL.nil ?_
  refine N.next ?_
  refine W.keep (.cons (k := 4) rfl .nil) (.cons (k := 0) rfl (.cons (k := 102) rfl (.cons (k := 103) rfl .nil))) ?_
  refine W.ret ?_
  exact N.retBy [] (.cons (.tmp rfl) .nil) rfl rfl rfl rfl ⟨rfl, rfl⟩

set_option maxRecDepth 100000 in
set_option maxHeartbeats 1600000 in
theorem sameChg_ct (k c : Int) (l t : List Int) (H1 G1 : PH) (p p2 q q2 : Option Addr) (e e2 d d2 : Nat) (hl : Sl H1 p e 1 (iz l)) (ht : Sl H1 p2 e2 1 (iz t)) (hm : Sl G1 q d 1 (iz l)) (hu : Sl G1 q2 d2 1 (iz t)) : Ct Tryd.prog 57 [.agg [.int .i64 k, .int .i64 c, .slice p l.length e, .slice p2 t.length e2].toArray, .agg [.int .i64 k, .int .i64 c, .slice q l.length d, .slice q2 t.length d2].toArray] [H1, G1] (fun v Hs => v = .bool true ∧ Hs = [H1, G1]) := by
  refine Ct.body Tryd.func57 rfl Tryd.ntmps57 rfl ?_
  intro E F
  refine W.seq ?_
  refine W.region ?_
  refine RL.e (Eff.box 102 _ rfl rfl) rfl ?_
  rintro _ _ ⟨b2, rfl, rfl⟩
  refine RL.e (Eff.box 103 _ rfl rfl) rfl ?_
  rintro _ _ ⟨b3, rfl, rfl⟩
  refine RL.q (Yld.assign rfl) rfl ?_
  refine RL.nil ?_
  refine N.next ?_
  refine W.seq ?_
  refine W.region ?_
  refine RL.q (Yld.fieldAddr fo66_0 rfl) rfl ?_
  refine RL.q (Yld.load1 (c := 102) Tryd.underlying3 rfl rfl rfl (by first | exact single_self _ _ | exact pset_self _ _ _ | assumption) rfl) rfl ?_
  refine RL.q (Yld.fieldAddr fo66_0 rfl) rfl ?_
  refine RL.q (Yld.load1 (c := 103) Tryd.underlying3 rfl rfl rfl (by first | exact single_self _ _ | exact pset_self _ _ _ | assumption) rfl) rfl ?_
  refine RL.q (Yld.bin rfl rfl BinV.eql) rfl ?_
  refine RL.q (Yld.move rfl) rfl ?_
  refine' RL.and (t := 10) (d := 16) 6 rfl (.cons (k := 0) rfl (.cons (k := 1) rfl (.cons (k := 2) rfl (.cons (k := 3) rfl (.cons (k := 4) rfl (.cons (k := 5) rfl (.cons (k := 6) rfl (.cons (k := 7) rfl (.cons (k := 8) rfl (.cons (k := 9) rfl .nil)))))))))) (.cons (k := 0) rfl (.cons (k := 1) rfl (.cons (k := 2) rfl (.cons (k := 102) rfl (.cons (k := 103) rfl .nil))))) ?_ ?_ ?_
  rotate_left 1
  ·
    intro hg10
    refine RL.gq rfl rfl (Yld.fieldAddr fo66_1 rfl) rfl ?_
    refine RL.gq rfl rfl (Yld.load1 (c := 102) Tryd.underlying3 rfl rfl rfl (by first | exact single_self _ _ | exact pset_self _ _ _ | assumption) rfl) rfl ?_
    refine RL.gq rfl rfl (Yld.fieldAddr fo66_1 rfl) rfl ?_
    refine RL.gq rfl rfl (Yld.load1 (c := 103) Tryd.underlying3 rfl rfl rfl (by first | exact single_self _ _ | exact pset_self _ _ _ | assumption) rfl) rfl ?_
    refine RL.gq rfl rfl (Yld.bin rfl rfl BinV.eql) rfl ?_
    refine RL.q (by first | exact Yld.pickT rfl rfl | exact Yld.pickF rfl rfl) rfl ?_
    exact RL.nil (N.meet (.cons rfl (.cons rfl (.cons rfl (.cons rfl (.cons rfl (.cons rfl (.cons rfl (.cons rfl (.cons rfl (.cons rfl (.cons rfl .nil))))))))))) (.cons rfl (.cons rfl (.cons rfl (.cons rfl (.cons rfl .nil))))))
  ·
    intro hg10
    refine RL.gskip rfl rfl rfl rfl ?_
    refine RL.gskip rfl rfl rfl rfl ?_
    refine RL.gskip rfl rfl rfl rfl ?_
    refine RL.gskip rfl rfl rfl rfl ?_
    refine RL.gskip rfl rfl rfl rfl ?_
    refine RL.q (by first | exact Yld.pickT rfl rfl | exact Yld.pickF rfl rfl) rfl ?_
    exact RL.nil (N.meet (.cons rfl (.cons rfl (.cons rfl (.cons rfl (.cons rfl (.cons rfl (.cons rfl (.cons rfl (.cons rfl (.cons rfl (.cons rfl .nil))))))))))) (.cons rfl (.cons rfl (.cons rfl (.cons rfl (.cons rfl .nil))))))
  refine RL.q (Yld.move rfl) rfl ?_
  refine' RL.and (t := 17) (d := 23) 6 rfl (.cons (k := 0) rfl (.cons (k := 1) rfl (.cons (k := 2) rfl (.cons (k := 3) rfl (.cons (k := 4) rfl (.cons (k := 5) rfl (.cons (k := 6) rfl (.cons (k := 7) rfl (.cons (k := 8) rfl (.cons (k := 9) rfl (.cons (k := 16) rfl .nil))))))))))) (.cons (k := 0) rfl (.cons (k := 1) rfl (.cons (k := 2) rfl (.cons (k := 102) rfl (.cons (k := 103) rfl .nil))))) ?_ ?_ ?_
  rotate_left 1
  ·
    intro hg17
    refine RL.gq rfl rfl (Yld.fieldAddr fo66_2 rfl) rfl ?_
    refine RL.gq rfl rfl (Yld.load1 (c := 102) Tryd.underlying54 rfl rfl rfl (by first | exact single_self _ _ | exact pset_self _ _ _ | assumption) rfl) rfl ?_
    refine RL.gq rfl rfl (Yld.fieldAddr fo66_2 rfl) rfl ?_
    refine RL.gq rfl rfl (Yld.load1 (c := 103) Tryd.underlying54 rfl rfl rfl (by first | exact single_self _ _ | exact pset_self _ _ _ | assumption) rfl) rfl ?_
    refine RL.ge rfl rfl (Eff.call ent59 [1, 2] [1, 2] (.cons rfl (.cons rfl .nil)) (sameInts_ct l _ _ _ hl l _ _ _ hm) rfl rfl rfl rfl (by rintro _ _ ⟨_, rfl⟩; rfl)) rfl ?_
    rintro _ _ ⟨_, ⟨rfl, rfl⟩, rfl⟩
    refine RL.q (by first | exact Yld.pickT rfl rfl | exact Yld.pickF rfl rfl) rfl ?_
    exact RL.nil (N.meet (.cons rfl (.cons rfl (.cons rfl (.cons rfl (.cons rfl (.cons rfl (.cons rfl (.cons rfl (.cons rfl (.cons rfl (.cons rfl (.cons rfl .nil)))))))))))) (.cons rfl (.cons rfl (.cons rfl (.cons rfl (.cons rfl .nil))))))
  ·
    intro hg17
    refine RL.gskip rfl rfl rfl rfl ?_
    refine RL.gskip rfl rfl rfl rfl ?_
    refine RL.gskip rfl rfl rfl rfl ?_
    refine RL.gskip rfl rfl rfl rfl ?_
    refine RL.gskip rfl rfl rfl rfl ?_
    refine RL.q (by first | exact Yld.pickT rfl rfl | exact Yld.pickF rfl rfl) rfl ?_
    exact RL.nil (N.meet (.cons rfl (.cons rfl (.cons rfl (.cons rfl (.cons rfl (.cons rfl (.cons rfl (.cons rfl (.cons rfl (.cons rfl (.cons rfl (.cons rfl .nil)))))))))))) (.cons rfl (.cons rfl (.cons rfl (.cons rfl (.cons rfl .nil))))))
  refine RL.q (Yld.move rfl) rfl ?_
  refine' RL.and (t := 24) (d := 30) 6 rfl (.cons (k := 0) rfl (.cons (k := 1) rfl (.cons (k := 2) rfl (.cons (k := 3) rfl (.cons (k := 4) rfl (.cons (k := 5) rfl (.cons (k := 6) rfl (.cons (k := 7) rfl (.cons (k := 8) rfl (.cons (k := 9) rfl (.cons (k := 16) rfl (.cons (k := 23) rfl .nil)))))))))))) (.cons (k := 0) rfl (.cons (k := 1) rfl (.cons (k := 2) rfl (.cons (k := 102) rfl (.cons (k := 103) rfl .nil))))) ?_ ?_ ?_
  rotate_left 1
  ·
    intro hg24
    refine RL.gq rfl rfl (Yld.fieldAddr fo66_3 rfl) rfl ?_
    refine RL.gq rfl rfl (Yld.load1 (c := 102) Tryd.underlying54 rfl rfl rfl (by first | exact single_self _ _ | exact pset_self _ _ _ | assumption) rfl) rfl ?_
    refine RL.gq rfl rfl (Yld.fieldAddr fo66_3 rfl) rfl ?_
    refine RL.gq rfl rfl (Yld.load1 (c := 103) Tryd.underlying54 rfl rfl rfl (by first | exact single_self _ _ | exact pset_self _ _ _ | assumption) rfl) rfl ?_
    refine RL.ge rfl rfl (Eff.call ent59 [1, 2] [1, 2] (.cons rfl (.cons rfl .nil)) (sameInts_ct t _ _ _ ht t _ _ _ hu) rfl rfl rfl rfl (by rintro _ _ ⟨_, rfl⟩; rfl)) rfl ?_
    rintro _ _ ⟨_, ⟨rfl, rfl⟩, rfl⟩
    refine RL.q (by first | exact Yld.pickT rfl rfl | exact Yld.pickF rfl rfl) rfl ?_
    exact RL.nil (N.meet (.cons rfl (.cons rfl (.cons rfl (.cons rfl (.cons rfl (.cons rfl (.cons rfl (.cons rfl (.cons rfl (.cons rfl (.cons rfl (.cons rfl (.cons rfl .nil))))))))))))) (.cons rfl (.cons rfl (.cons rfl (.cons rfl (.cons rfl .nil))))))
  ·
    intro hg24
    refine RL.gskip rfl rfl rfl rfl ?_
    refine RL.gskip rfl rfl rfl rfl ?_
    refine RL.gskip rfl rfl rfl rfl ?_
    refine RL.gskip rfl rfl rfl rfl ?_
    refine RL.gskip rfl rfl rfl rfl ?_
    refine RL.q (by first | exact Yld.pickT rfl rfl | exact Yld.pickF rfl rfl) rfl ?_
    exact RL.nil (N.meet (.cons rfl (.cons rfl (.cons rfl (.cons rfl (.cons rfl (.cons rfl (.cons rfl (.cons rfl (.cons rfl (.cons rfl (.cons rfl (.cons rfl (.cons rfl .nil))))))))))))) (.cons rfl (.cons rfl (.cons rfl (.cons rfl (.cons rfl .nil))))))
  refine RL.q (Yld.assign rfl) rfl ?_
  refine RL.nil ?_
  refine N.next ?_
  refine W.keep (.cons (k := 4) rfl .nil) (.cons (k := 0) rfl (.cons (k := 1) rfl (.cons (k := 2) rfl (.cons (k := 102) rfl (.cons (k := 103) rfl .nil))))) ?_
  refine W.ret ?_
  exact N.retBy [1, 2] (.cons (.tmp rfl) .nil) rfl rfl rfl rfl ⟨by show Value.bool _ = _; rw [Value.bool.injEq]; simp, rfl⟩

set_option maxRecDepth 100000 in
set_option maxHeartbeats 6400000 in
theorem same47_ct (x y : Msg) (H1 G1 : PH) (hx : x.In H1) (hy : y.In G1) (hxy : x.toMsgD = y.toMsgD) : Ct Tryd.prog 27 [.agg [.int .i64 x.kd, .int .i64 x.g, .int .i64 0, .int .i64 0, .int .i64 0, .string .empty, .int .i64 0, .int .i64 x.gn, .int .i64 x.st, .int .i64 x.ck, .int .i64 x.cm, .slice x.pf x.f.length x.cf, .slice x.pt x.t.length x.ct, .int .i64 x.uk, .int .i64 x.ui, .int .i64 x.ur, .int .i64 x.uv, .int .i64 0, .int .i64 0, .int .i64 0, .int .i64 0, .int .i64 0, .int .i64 0, .int .i64 0, .int .i64 0, .int .i64 0, .slice none 0 0, .slice none 0 0, .slice none 0 0, .slice none 0 0, .slice none 0 0, .slice none 0 0, .slice none 0 0, .slice none 0 0, .int .i64 0, .int .i64 0, .int .i64 0, .int .i64 0, .int .i64 0, .int .i64 0, .int .i64 0, .int .i64 0, .bool false, .slice none 0 0, .int .i64 0, .string .empty, .bool false].toArray, .agg [.int .i64 y.kd, .int .i64 y.g, .int .i64 0, .int .i64 0, .int .i64 0, .string .empty, .int .i64 0, .int .i64 y.gn, .int .i64 y.st, .int .i64 y.ck, .int .i64 y.cm, .slice y.pf y.f.length y.cf, .slice y.pt y.t.length y.ct, .int .i64 y.uk, .int .i64 y.ui, .int .i64 y.ur, .int .i64 y.uv, .int .i64 0, .int .i64 0, .int .i64 0, .int .i64 0, .int .i64 0, .int .i64 0, .int .i64 0, .int .i64 0, .int .i64 0, .slice none 0 0, .slice none 0 0, .slice none 0 0, .slice none 0 0, .slice none 0 0, .slice none 0 0, .slice none 0 0, .slice none 0 0, .int .i64 0, .int .i64 0, .int .i64 0, .int .i64 0, .int .i64 0, .int .i64 0, .int .i64 0, .int .i64 0, .bool false, .slice none 0 0, .int .i64 0, .string .empty, .bool false].toArray] [H1, G1] (fun v Hs => v = .bool true ∧ Hs = [H1, G1]) := by
  obtain ⟨xd, xp, xc, xq, xe⟩ := x
  obtain ⟨yd, yp, yc, yq, ye⟩ := y
  obtain rfl : xd = yd := hxy
  obtain ⟨hxf, hxt⟩ := hx
  obtain ⟨hyf, hyt⟩ := hy
  refine Ct.body Tryd.func27 rfl Tryd.ntmps27 rfl ?_
  intro E F
  refine W.seq ?_
  refine W.imp (Imp.empty _ 90) ?_
  refine W.imp (Imp.empty _ 91) ?_
  refine W.region ?_
  refine RL.e (Eff.box 102 _ rfl rfl) rfl ?_
  rintro _ _ ⟨b2, rfl, rfl⟩
  refine RL.e (Eff.box 103 _ rfl rfl) rfl ?_
  rintro _ _ ⟨b3, rfl, rfl⟩
  refine RL.q (Yld.assign rfl) rfl ?_
  refine RL.nil ?_
  refine N.next ?_
  refine W.seq ?_
  refine W.region ?_
  refine RL.q (Yld.fieldAddr fo71_0 rfl) rfl ?_
  refine RL.q (Yld.load1 (c := 102) Tryd.underlying3 rfl rfl rfl (by first | exact single_self _ _ | exact pset_self _ _ _ | assumption) rfl) rfl ?_
  refine RL.q (Yld.fieldAddr fo71_0 rfl) rfl ?_
  refine RL.q (Yld.load1 (c := 103) Tryd.underlying3 rfl rfl rfl (by first | exact single_self _ _ | exact pset_self _ _ _ | assumption) rfl) rfl ?_
  refine RL.q (Yld.bin rfl rfl BinV.eql) rfl ?_
  refine RL.q (Yld.move rfl) rfl ?_
  refine' RL.and (t := 10) (d := 16) 6 rfl (.cons (k := 0) rfl (.cons (k := 1) rfl (.cons (k := 2) rfl (.cons (k := 3) rfl (.cons (k := 4) rfl (.cons (k := 5) rfl (.cons (k := 6) rfl (.cons (k := 7) rfl (.cons (k := 8) rfl (.cons (k := 9) rfl .nil)))))))))) (.cons (k := 0) rfl (.cons (k := 1) rfl (.cons (k := 2) rfl (.cons (k := 90) rfl (.cons (k := 91) rfl (.cons (k := 102) rfl (.cons (k := 103) rfl .nil))))))) ?_ ?_ ?_
  rotate_left 1
  ·
    intro hg10
    refine RL.gq rfl rfl (Yld.fieldAddr fo71_1 rfl) rfl ?_
    refine RL.gq rfl rfl (Yld.load1 (c := 102) Tryd.underlying3 rfl rfl rfl (by first | exact single_self _ _ | exact pset_self _ _ _ | assumption) rfl) rfl ?_
    refine RL.gq rfl rfl (Yld.fieldAddr fo71_1 rfl) rfl ?_
    refine RL.gq rfl rfl (Yld.load1 (c := 103) Tryd.underlying3 rfl rfl rfl (by first | exact single_self _ _ | exact pset_self _ _ _ | assumption) rfl) rfl ?_
    refine RL.gq rfl rfl (Yld.bin rfl rfl BinV.eql) rfl ?_
    refine RL.q (by first | exact Yld.pickT rfl rfl | exact Yld.pickF rfl rfl) rfl ?_
    exact RL.nil (N.meet (.cons rfl (.cons rfl (.cons rfl (.cons rfl (.cons rfl (.cons rfl (.cons rfl (.cons rfl (.cons rfl (.cons rfl (.cons rfl .nil))))))))))) (.cons rfl (.cons rfl (.cons rfl (.cons rfl (.cons rfl (.cons rfl (.cons rfl .nil))))))))
  ·
    intro hg10
    refine RL.gskip rfl rfl rfl rfl ?_
    refine RL.gskip rfl rfl rfl rfl ?_
    refine RL.gskip rfl rfl rfl rfl ?_
    refine RL.gskip rfl rfl rfl rfl ?_
    refine RL.gskip rfl rfl rfl rfl ?_
    refine RL.q (by first | exact Yld.pickT rfl rfl | exact Yld.pickF rfl rfl) rfl ?_
    exact RL.nil (N.meet (.cons rfl (.cons rfl (.cons rfl (.cons rfl (.cons rfl (.cons rfl (.cons rfl (.cons rfl (.cons rfl (.cons rfl (.cons rfl .nil))))))))))) (.cons rfl (.cons rfl (.cons rfl (.cons rfl (.cons rfl (.cons rfl (.cons rfl .nil))))))))
  refine RL.q (Yld.move rfl) rfl ?_
  refine' RL.and (t := 17) (d := 23) 6 rfl (.cons (k := 0) rfl (.cons (k := 1) rfl (.cons (k := 2) rfl (.cons (k := 3) rfl (.cons (k := 4) rfl (.cons (k := 5) rfl (.cons (k := 6) rfl (.cons (k := 7) rfl (.cons (k := 8) rfl (.cons (k := 9) rfl (.cons (k := 16) rfl .nil))))))))))) (.cons (k := 0) rfl (.cons (k := 1) rfl (.cons (k := 2) rfl (.cons (k := 90) rfl (.cons (k := 91) rfl (.cons (k := 102) rfl (.cons (k := 103) rfl .nil))))))) ?_ ?_ ?_
  rotate_left 1
  ·
    intro hg17
    refine RL.gq rfl rfl (Yld.fieldAddr fo71_2 rfl) rfl ?_
    refine RL.gq rfl rfl (Yld.load1 (c := 102) Tryd.underlying3 rfl rfl rfl (by first | exact single_self _ _ | exact pset_self _ _ _ | assumption) rfl) rfl ?_
    refine RL.gq rfl rfl (Yld.fieldAddr fo71_2 rfl) rfl ?_
    refine RL.gq rfl rfl (Yld.load1 (c := 103) Tryd.underlying3 rfl rfl rfl (by first | exact single_self _ _ | exact pset_self _ _ _ | assumption) rfl) rfl ?_
    refine RL.gq rfl rfl (Yld.bin rfl rfl BinV.eql) rfl ?_
    refine RL.q (by first | exact Yld.pickT rfl rfl | exact Yld.pickF rfl rfl) rfl ?_
    exact RL.nil (N.meet (.cons rfl (.cons rfl (.cons rfl (.cons rfl (.cons rfl (.cons rfl (.cons rfl (.cons rfl (.cons rfl (.cons rfl (.cons rfl (.cons rfl .nil)))))))))))) (.cons rfl (.cons rfl (.cons rfl (.cons rfl (.cons rfl (.cons rfl (.cons rfl .nil))))))))
  ·
    intro hg17
    refine RL.gskip rfl rfl rfl rfl ?_
    refine RL.gskip rfl rfl rfl rfl ?_
    refine RL.gskip rfl rfl rfl rfl ?_
    refine RL.gskip rfl rfl rfl rfl ?_
    refine RL.gskip rfl rfl rfl rfl ?_
    refine RL.q (by first | exact Yld.pickT rfl rfl | exact Yld.pickF rfl rfl) rfl ?_
    exact RL.nil (N.meet (.cons rfl (.cons rfl (.cons rfl (.cons rfl (.cons rfl (.cons rfl (.cons rfl (.cons rfl (.cons rfl (.cons rfl (.cons rfl (.cons rfl .nil)))))))))))) (.cons rfl (.cons rfl (.cons rfl (.cons rfl (.cons rfl (.cons rfl (.cons rfl .nil))))))))
  refine RL.q (Yld.move rfl) rfl ?_
  refine' RL.and (t := 24) (d := 30) 6 rfl (.cons (k := 0) rfl (.cons (k := 1) rfl (.cons (k := 2) rfl (.cons (k := 3) rfl (.cons (k := 4) rfl (.cons (k := 5) rfl (.cons (k := 6) rfl (.cons (k := 7) rfl (.cons (k := 8) rfl (.cons (k := 9) rfl (.cons (k := 16) rfl (.cons (k := 23) rfl .nil)))))))))))) (.cons (k := 0) rfl (.cons (k := 1) rfl (.cons (k := 2) rfl (.cons (k := 90) rfl (.cons (k := 91) rfl (.cons (k := 102) rfl (.cons (k := 103) rfl .nil))))))) ?_ ?_ ?_
  rotate_left 1
  ·
    intro hg24
    refine RL.gq rfl rfl (Yld.fieldAddr fo71_3 rfl) rfl ?_
    refine RL.gq rfl rfl (Yld.load1 (c := 102) Tryd.underlying3 rfl rfl rfl (by first | exact single_self _ _ | exact pset_self _ _ _ | assumption) rfl) rfl ?_
    refine RL.gq rfl rfl (Yld.fieldAddr fo71_3 rfl) rfl ?_
    refine RL.gq rfl rfl (Yld.load1 (c := 103) Tryd.underlying3 rfl rfl rfl (by first | exact single_self _ _ | exact pset_self _ _ _ | assumption) rfl) rfl ?_
    refine RL.gq rfl rfl (Yld.bin rfl rfl BinV.eql) rfl ?_
    refine RL.q (by first | exact Yld.pickT rfl rfl | exact Yld.pickF rfl rfl) rfl ?_
    exact RL.nil (N.meet (.cons rfl (.cons rfl (.cons rfl (.cons rfl (.cons rfl (.cons rfl (.cons rfl (.cons rfl (.cons rfl (.cons rfl (.cons rfl (.cons rfl (.cons rfl .nil))))))))))))) (.cons rfl (.cons rfl (.cons rfl (.cons rfl (.cons rfl (.cons rfl (.cons rfl .nil))))))))
  ·
    intro hg24
    refine RL.gskip rfl rfl rfl rfl ?_
    refine RL.gskip rfl rfl rfl rfl ?_
    refine RL.gskip rfl rfl rfl rfl ?_
    refine RL.gskip rfl rfl rfl rfl ?_
    refine RL.gskip rfl rfl rfl rfl ?_
    refine RL.q (by first | exact Yld.pickT rfl rfl | exact Yld.pickF rfl rfl) rfl ?_
    exact RL.nil (N.meet (.cons rfl (.cons rfl (.cons rfl (.cons rfl (.cons rfl (.cons rfl (.cons rfl (.cons rfl (.cons rfl (.cons rfl (.cons rfl (.cons rfl (.cons rfl .nil))))))))))))) (.cons rfl (.cons rfl (.cons rfl (.cons rfl (.cons rfl (.cons rfl (.cons rfl .nil))))))))
  refine RL.q (Yld.move rfl) rfl ?_
  refine' RL.and (t := 31) (d := 37) 6 rfl (.cons (k := 0) rfl (.cons (k := 1) rfl (.cons (k := 2) rfl (.cons (k := 3) rfl (.cons (k := 4) rfl (.cons (k := 5) rfl (.cons (k := 6) rfl (.cons (k := 7) rfl (.cons (k := 8) rfl (.cons (k := 9) rfl (.cons (k := 16) rfl (.cons (k := 23) rfl (.cons (k := 30) rfl .nil))))))))))))) (.cons (k := 0) rfl (.cons (k := 1) rfl (.cons (k := 2) rfl (.cons (k := 90) rfl (.cons (k := 91) rfl (.cons (k := 102) rfl (.cons (k := 103) rfl .nil))))))) ?_ ?_ ?_
  rotate_left 1
  ·
    intro hg31
    refine RL.gq rfl rfl (Yld.fieldAddr fo71_4 rfl) rfl ?_
    refine RL.gq rfl rfl (Yld.load1 (c := 102) Tryd.underlying64 rfl rfl rfl (by first | exact single_self _ _ | exact pset_self _ _ _ | assumption) rfl) rfl ?_
    refine RL.gq rfl rfl (Yld.fieldAddr fo71_4 rfl) rfl ?_
    refine RL.gq rfl rfl (Yld.load1 (c := 103) Tryd.underlying64 rfl rfl rfl (by first | exact single_self _ _ | exact pset_self _ _ _ | assumption) rfl) rfl ?_
    refine RL.gq rfl rfl (Yld.bin rfl rfl BinV.eql) rfl ?_
    refine RL.q (by first | exact Yld.pickT rfl rfl | exact Yld.pickF rfl rfl) rfl ?_
    exact RL.nil (N.meet (.cons rfl (.cons rfl (.cons rfl (.cons rfl (.cons rfl (.cons rfl (.cons rfl (.cons rfl (.cons rfl (.cons rfl (.cons rfl (.cons rfl (.cons rfl (.cons rfl .nil)))))))))))))) (.cons rfl (.cons rfl (.cons rfl (.cons rfl (.cons rfl (.cons rfl (.cons rfl .nil))))))))
  ·
    intro hg31
    refine RL.gskip rfl rfl rfl rfl ?_
    refine RL.gskip rfl rfl rfl rfl ?_
    refine RL.gskip rfl rfl rfl rfl ?_
    refine RL.gskip rfl rfl rfl rfl ?_
    refine RL.gskip rfl rfl rfl rfl ?_
    refine RL.q (by first | exact Yld.pickT rfl rfl | exact Yld.pickF rfl rfl) rfl ?_
    exact RL.nil (N.meet (.cons rfl (.cons rfl (.cons rfl (.cons rfl (.cons rfl (.cons rfl (.cons rfl (.cons rfl (.cons rfl (.cons rfl (.cons rfl (.cons rfl (.cons rfl (.cons rfl .nil)))))))))))))) (.cons rfl (.cons rfl (.cons rfl (.cons rfl (.cons rfl (.cons rfl (.cons rfl .nil))))))))
  refine RL.q (Yld.move rfl) rfl ?_
  refine' RL.and (t := 38) (d := 44) 6 rfl (.cons (k := 0) rfl (.cons (k := 1) rfl (.cons (k := 2) rfl (.cons (k := 3) rfl (.cons (k := 4) rfl (.cons (k := 5) rfl (.cons (k := 6) rfl (.cons (k := 7) rfl (.cons (k := 8) rfl (.cons (k := 9) rfl (.cons (k := 16) rfl (.cons (k := 23) rfl (.cons (k := 30) rfl (.cons (k := 37) rfl .nil)))))))))))))) (.cons (k := 0) rfl (.cons (k := 1) rfl (.cons (k := 2) rfl (.cons (k := 90) rfl (.cons (k := 91) rfl (.cons (k := 102) rfl (.cons (k := 103) rfl .nil))))))) ?_ ?_ ?_
  rotate_left 1
  ·
    intro hg38
    refine RL.gq rfl rfl (Yld.fieldAddr fo71_5 rfl) rfl ?_
    refine RL.gq rfl rfl (Yld.load1 (c := 102) Tryd.underlying9 rfl rfl rfl (by first | exact single_self _ _ | exact pset_self _ _ _ | assumption) rfl) rfl ?_
    refine RL.gq rfl rfl (Yld.fieldAddr fo71_5 rfl) rfl ?_
    refine RL.gq rfl rfl (Yld.load1 (c := 103) Tryd.underlying9 rfl rfl rfl (by first | exact single_self _ _ | exact pset_self _ _ _ | assumption) rfl) rfl ?_
    refine RL.gq rfl rfl (Yld.bin rfl rfl BinV.eqlS) rfl ?_
    refine RL.q (by first | exact Yld.pickT rfl rfl | exact Yld.pickF rfl rfl) rfl ?_
    exact RL.nil (N.meet (.cons rfl (.cons rfl (.cons rfl (.cons rfl (.cons rfl (.cons rfl (.cons rfl (.cons rfl (.cons rfl (.cons rfl (.cons rfl (.cons rfl (.cons rfl (.cons rfl (.cons rfl .nil))))))))))))))) (.cons rfl (.cons rfl (.cons rfl (.cons rfl (.cons rfl (.cons rfl (.cons rfl .nil))))))))
  ·
    intro hg38
    refine RL.gskip rfl rfl rfl rfl ?_
    refine RL.gskip rfl rfl rfl rfl ?_
    refine RL.gskip rfl rfl rfl rfl ?_
    refine RL.gskip rfl rfl rfl rfl ?_
    refine RL.gskip rfl rfl rfl rfl ?_
    refine RL.q (by first | exact Yld.pickT rfl rfl | exact Yld.pickF rfl rfl) rfl ?_
    exact RL.nil (N.meet (.cons rfl (.cons rfl (.cons rfl (.cons rfl (.cons rfl (.cons rfl (.cons rfl (.cons rfl (.cons rfl (.cons rfl (.cons rfl (.cons rfl (.cons rfl (.cons rfl (.cons rfl .nil))))))))))))))) (.cons rfl (.cons rfl (.cons rfl (.cons rfl (.cons rfl (.cons rfl (.cons rfl .nil))))))))
  refine RL.q (Yld.move rfl) rfl ?_
  refine' RL.and (t := 45) (d := 51) 6 rfl (.cons (k := 0) rfl (.cons (k := 1) rfl (.cons (k := 2) rfl (.cons (k := 3) rfl (.cons (k := 4) rfl (.cons (k := 5) rfl (.cons (k := 6) rfl (.cons (k := 7) rfl (.cons (k := 8) rfl (.cons (k := 9) rfl (.cons (k := 16) rfl (.cons (k := 23) rfl (.cons (k := 30) rfl (.cons (k := 37) rfl (.cons (k := 44) rfl .nil))))))))))))))) (.cons (k := 0) rfl (.cons (k := 1) rfl (.cons (k := 2) rfl (.cons (k := 90) rfl (.cons (k := 91) rfl (.cons (k := 102) rfl (.cons (k := 103) rfl .nil))))))) ?_ ?_ ?_
  rotate_left 1
  ·
    intro hg45
    refine RL.gq rfl rfl (Yld.fieldAddr fo71_6 rfl) rfl ?_
    refine RL.gq rfl rfl (Yld.load1 (c := 102) Tryd.underlying3 rfl rfl rfl (by first | exact single_self _ _ | exact pset_self _ _ _ | assumption) rfl) rfl ?_
    refine RL.gq rfl rfl (Yld.fieldAddr fo71_6 rfl) rfl ?_
    refine RL.gq rfl rfl (Yld.load1 (c := 103) Tryd.underlying3 rfl rfl rfl (by first | exact single_self _ _ | exact pset_self _ _ _ | assumption) rfl) rfl ?_
    refine RL.gq rfl rfl (Yld.bin rfl rfl BinV.eql) rfl ?_
    refine RL.q (by first | exact Yld.pickT rfl rfl | exact Yld.pickF rfl rfl) rfl ?_
    exact RL.nil (N.meet (.cons rfl (.cons rfl (.cons rfl (.cons rfl (.cons rfl (.cons rfl (.cons rfl (.cons rfl (.cons rfl (.cons rfl (.cons rfl (.cons rfl (.cons rfl (.cons rfl (.cons rfl (.cons rfl .nil)))))))))))))))) (.cons rfl (.cons rfl (.cons rfl (.cons rfl (.cons rfl (.cons rfl (.cons rfl .nil))))))))
  ·
    intro hg45
    refine RL.gskip rfl rfl rfl rfl ?_
    refine RL.gskip rfl rfl rfl rfl ?_
    refine RL.gskip rfl rfl rfl rfl ?_
    refine RL.gskip rfl rfl rfl rfl ?_
    refine RL.gskip rfl rfl rfl rfl ?_
    refine RL.q (by first | exact Yld.pickT rfl rfl | exact Yld.pickF rfl rfl) rfl ?_
    exact RL.nil (N.meet (.cons rfl (.cons rfl (.cons rfl (.cons rfl (.cons rfl (.cons rfl (.cons rfl (.cons rfl (.cons rfl (.cons rfl (.cons rfl (.cons rfl (.cons rfl (.cons rfl (.cons rfl (.cons rfl .nil)))))))))))))))) (.cons rfl (.cons rfl (.cons rfl (.cons rfl (.cons rfl (.cons rfl (.cons rfl .nil))))))))
  refine RL.q (Yld.move rfl) rfl ?_
  refine' RL.and (t := 52) (d := 58) 6 rfl (.cons (k := 0) rfl (.cons (k := 1) rfl (.cons (k := 2) rfl (.cons (k := 3) rfl (.cons (k := 4) rfl (.cons (k := 5) rfl (.cons (k := 6) rfl (.cons (k := 7) rfl (.cons (k := 8) rfl (.cons (k := 9) rfl (.cons (k := 16) rfl (.cons (k := 23) rfl (.cons (k := 30) rfl (.cons (k := 37) rfl (.cons (k := 44) rfl (.cons (k := 51) rfl .nil)))))))))))))))) (.cons (k := 0) rfl (.cons (k := 1) rfl (.cons (k := 2) rfl (.cons (k := 90) rfl (.cons (k := 91) rfl (.cons (k := 102) rfl (.cons (k := 103) rfl .nil))))))) ?_ ?_ ?_
  rotate_left 1
  ·
    intro hg52
    refine RL.gq rfl rfl (Yld.fieldAddr fo71_7 rfl) rfl ?_
    refine RL.gq rfl rfl (Yld.load1 (c := 102) Tryd.underlying3 rfl rfl rfl (by first | exact single_self _ _ | exact pset_self _ _ _ | assumption) rfl) rfl ?_
    refine RL.gq rfl rfl (Yld.fieldAddr fo71_7 rfl) rfl ?_
    refine RL.gq rfl rfl (Yld.load1 (c := 103) Tryd.underlying3 rfl rfl rfl (by first | exact single_self _ _ | exact pset_self _ _ _ | assumption) rfl) rfl ?_
    refine RL.gq rfl rfl (Yld.bin rfl rfl BinV.eql) rfl ?_
    refine RL.q (by first | exact Yld.pickT rfl rfl | exact Yld.pickF rfl rfl) rfl ?_
    exact RL.nil (N.meet (.cons rfl (.cons rfl (.cons rfl (.cons rfl (.cons rfl (.cons rfl (.cons rfl (.cons rfl (.cons rfl (.cons rfl (.cons rfl (.cons rfl (.cons rfl (.cons rfl (.cons rfl (.cons rfl (.cons rfl .nil))))))))))))))))) (.cons rfl (.cons rfl (.cons rfl (.cons rfl (.cons rfl (.cons rfl (.cons rfl .nil))))))))
  ·
    intro hg52
    refine RL.gskip rfl rfl rfl rfl ?_
    refine RL.gskip rfl rfl rfl rfl ?_
    refine RL.gskip rfl rfl rfl rfl ?_
    refine RL.gskip rfl rfl rfl rfl ?_
    refine RL.gskip rfl rfl rfl rfl ?_
    refine RL.q (by first | exact Yld.pickT rfl rfl | exact Yld.pickF rfl rfl) rfl ?_
    exact RL.nil (N.meet (.cons rfl (.cons rfl (.cons rfl (.cons rfl (.cons rfl (.cons rfl (.cons rfl (.cons rfl (.cons rfl (.cons rfl (.cons rfl (.cons rfl (.cons rfl (.cons rfl (.cons rfl (.cons rfl (.cons rfl .nil))))))))))))))))) (.cons rfl (.cons rfl (.cons rfl (.cons rfl (.cons rfl (.cons rfl (.cons rfl .nil))))))))
  refine RL.q (Yld.move rfl) rfl ?_
  refine' RL.and (t := 59) (d := 65) 6 rfl (.cons (k := 0) rfl (.cons (k := 1) rfl (.cons (k := 2) rfl (.cons (k := 3) rfl (.cons (k := 4) rfl (.cons (k := 5) rfl (.cons (k := 6) rfl (.cons (k := 7) rfl (.cons (k := 8) rfl (.cons (k := 9) rfl (.cons (k := 16) rfl (.cons (k := 23) rfl (.cons (k := 30) rfl (.cons (k := 37) rfl (.cons (k := 44) rfl (.cons (k := 51) rfl (.cons (k := 58) rfl .nil))))))))))))))))) (.cons (k := 0) rfl (.cons (k := 1) rfl (.cons (k := 2) rfl (.cons (k := 90) rfl (.cons (k := 91) rfl (.cons (k := 102) rfl (.cons (k := 103) rfl .nil))))))) ?_ ?_ ?_
  rotate_left 1
  ·
    intro hg59
    refine RL.gq rfl rfl (Yld.fieldAddr fo71_8 rfl) rfl ?_
    refine RL.gq rfl rfl (Yld.load1 (c := 102) Tryd.underlying3 rfl rfl rfl (by first | exact single_self _ _ | exact pset_self _ _ _ | assumption) rfl) rfl ?_
    refine RL.gq rfl rfl (Yld.fieldAddr fo71_8 rfl) rfl ?_
    refine RL.gq rfl rfl (Yld.load1 (c := 103) Tryd.underlying3 rfl rfl rfl (by first | exact single_self _ _ | exact pset_self _ _ _ | assumption) rfl) rfl ?_
    refine RL.gq rfl rfl (Yld.bin rfl rfl BinV.eql) rfl ?_
    refine RL.q (by first | exact Yld.pickT rfl rfl | exact Yld.pickF rfl rfl) rfl ?_
    exact RL.nil (N.meet (.cons rfl (.cons rfl (.cons rfl (.cons rfl (.cons rfl (.cons rfl (.cons rfl (.cons rfl (.cons rfl (.cons rfl (.cons rfl (.cons rfl (.cons rfl (.cons rfl (.cons rfl (.cons rfl (.cons rfl (.cons rfl .nil)))))))))))))))))) (.cons rfl (.cons rfl (.cons rfl (.cons rfl (.cons rfl (.cons rfl (.cons rfl .nil))))))))
  ·
    intro hg59
    refine RL.gskip rfl rfl rfl rfl ?_
    refine RL.gskip rfl rfl rfl rfl ?_
    refine RL.gskip rfl rfl rfl rfl ?_
    refine RL.gskip rfl rfl rfl rfl ?_
    refine RL.gskip rfl rfl rfl rfl ?_
    refine RL.q (by first | exact Yld.pickT rfl rfl | exact Yld.pickF rfl rfl) rfl ?_
    exact RL.nil (N.meet (.cons rfl (.cons rfl (.cons rfl (.cons rfl (.cons rfl (.cons rfl (.cons rfl (.cons rfl (.cons rfl (.cons rfl (.cons rfl (.cons rfl (.cons rfl (.cons rfl (.cons rfl (.cons rfl (.cons rfl (.cons rfl .nil)))))))))))))))))) (.cons rfl (.cons rfl (.cons rfl (.cons rfl (.cons rfl (.cons rfl (.cons rfl .nil))))))))
  refine RL.q (Yld.move rfl) rfl ?_
  refine' RL.and (t := 66) (d := 72) 6 rfl (.cons (k := 0) rfl (.cons (k := 1) rfl (.cons (k := 2) rfl (.cons (k := 3) rfl (.cons (k := 4) rfl (.cons (k := 5) rfl (.cons (k := 6) rfl (.cons (k := 7) rfl (.cons (k := 8) rfl (.cons (k := 9) rfl (.cons (k := 16) rfl (.cons (k := 23) rfl (.cons (k := 30) rfl (.cons (k := 37) rfl (.cons (k := 44) rfl (.cons (k := 51) rfl (.cons (k := 58) rfl (.cons (k := 65) rfl .nil)))))))))))))))))) (.cons (k := 0) rfl (.cons (k := 1) rfl (.cons (k := 2) rfl (.cons (k := 90) rfl (.cons (k := 91) rfl (.cons (k := 102) rfl (.cons (k := 103) rfl .nil))))))) ?_ ?_ ?_
  rotate_left 1
  ·
    intro hg66
    refine RL.gq rfl rfl (Yld.fieldAddr fo71_9 rfl) rfl ?_
    refine RL.gq rfl rfl (Yld.loadA (c := 102) Tryd.underlying66 rfl sz66 rfl rfl (by first | exact single_self _ _ | exact pset_self _ _ _ | assumption) rfl rfl) rfl ?_
    refine RL.gq rfl rfl (Yld.fieldAddr fo71_9 rfl) rfl ?_
    refine RL.gq rfl rfl (Yld.loadA (c := 103) Tryd.underlying66 rfl sz66 rfl rfl (by first | exact single_self _ _ | exact pset_self _ _ _ | assumption) rfl rfl) rfl ?_
    refine RL.ge rfl rfl (Eff.call ent57 [1, 2] [1, 2] (.cons rfl (.cons rfl .nil)) (sameChg_ct xd.ck xd.cm xd.f xd.t H1 G1 _ _ _ _ _ _ _ _ hxf hxt hyf hyt) rfl rfl rfl rfl (by rintro _ _ ⟨_, rfl⟩; rfl)) rfl ?_
    rintro _ _ ⟨_, ⟨rfl, rfl⟩, rfl⟩
    refine RL.q (by first | exact Yld.pickT rfl rfl | exact Yld.pickF rfl rfl) rfl ?_
    exact RL.nil (N.meet (.cons rfl (.cons rfl (.cons rfl (.cons rfl (.cons rfl (.cons rfl (.cons rfl (.cons rfl (.cons rfl (.cons rfl (.cons rfl (.cons rfl (.cons rfl (.cons rfl (.cons rfl (.cons rfl (.cons rfl (.cons rfl (.cons rfl .nil))))))))))))))))))) (.cons rfl (.cons rfl (.cons rfl (.cons rfl (.cons rfl (.cons rfl (.cons rfl .nil))))))))
  ·
    intro hg66
    refine RL.gskip rfl rfl rfl rfl ?_
    refine RL.gskip rfl rfl rfl rfl ?_
    refine RL.gskip rfl rfl rfl rfl ?_
    refine RL.gskip rfl rfl rfl rfl ?_
    refine RL.gskip rfl rfl rfl rfl ?_
    refine RL.q (by first | exact Yld.pickT rfl rfl | exact Yld.pickF rfl rfl) rfl ?_
    exact RL.nil (N.meet (.cons rfl (.cons rfl (.cons rfl (.cons rfl (.cons rfl (.cons rfl (.cons rfl (.cons rfl (.cons rfl (.cons rfl (.cons rfl (.cons rfl (.cons rfl (.cons rfl (.cons rfl (.cons rfl (.cons rfl (.cons rfl (.cons rfl .nil))))))))))))))))))) (.cons rfl (.cons rfl (.cons rfl (.cons rfl (.cons rfl (.cons rfl (.cons rfl .nil))))))))
  refine RL.q (Yld.move rfl) rfl ?_
  refine' RL.and (t := 73) (d := 79) 6 rfl (.cons (k := 0) rfl (.cons (k := 1) rfl (.cons (k := 2) rfl (.cons (k := 3) rfl (.cons (k := 4) rfl (.cons (k := 5) rfl (.cons (k := 6) rfl (.cons (k := 7) rfl (.cons (k := 8) rfl (.cons (k := 9) rfl (.cons (k := 16) rfl (.cons (k := 23) rfl (.cons (k := 30) rfl (.cons (k := 37) rfl (.cons (k := 44) rfl (.cons (k := 51) rfl (.cons (k := 58) rfl (.cons (k := 65) rfl (.cons (k := 72) rfl .nil))))))))))))))))))) (.cons (k := 0) rfl (.cons (k := 1) rfl (.cons (k := 2) rfl (.cons (k := 90) rfl (.cons (k := 91) rfl (.cons (k := 102) rfl (.cons (k := 103) rfl .nil))))))) ?_ ?_ ?_
  rotate_left 1
  ·
    intro hg73
    refine RL.gq rfl rfl (Yld.fieldAddr fo71_10 rfl) rfl ?_
    refine RL.gq rfl rfl (Yld.loadA (c := 102) Tryd.underlying42 rfl sz42 rfl rfl (by first | exact single_self _ _ | exact pset_self _ _ _ | assumption) rfl rfl) rfl ?_
    refine RL.gq rfl rfl (Yld.fieldAddr fo71_10 rfl) rfl ?_
    refine RL.gq rfl rfl (Yld.loadA (c := 103) Tryd.underlying42 rfl sz42 rfl rfl (by first | exact single_self _ _ | exact pset_self _ _ _ | assumption) rfl rfl) rfl ?_
    refine RL.gq rfl rfl (Yld.bin rfl rfl (BinV.eqlT eqg42 (EqV.struct Tryd.underlying42 sih42 (EqF.cons rfl (PartV.one Tryd.underlying3 rfl rfl) (PartV.one Tryd.underlying3 rfl rfl) (EqV.int Tryd.underlying3) (EqF.cons rfl (PartV.one Tryd.underlying3 rfl rfl) (PartV.one Tryd.underlying3 rfl rfl) (EqV.int Tryd.underlying3) (EqF.cons rfl (PartV.one Tryd.underlying3 rfl rfl) (PartV.one Tryd.underlying3 rfl rfl) (EqV.int Tryd.underlying3) (EqF.cons rfl (PartV.one Tryd.underlying2 rfl rfl) (PartV.one Tryd.underlying2 rfl rfl) (EqV.int Tryd.underlying2) EqF.nil))))))) rfl ?_
    refine RL.q (by first | exact Yld.pickT rfl rfl | exact Yld.pickF rfl rfl) rfl ?_
    exact RL.nil (N.meet (.cons rfl (.cons rfl (.cons rfl (.cons rfl (.cons rfl (.cons rfl (.cons rfl (.cons rfl (.cons rfl (.cons rfl (.cons rfl (.cons rfl (.cons rfl (.cons rfl (.cons rfl (.cons rfl (.cons rfl (.cons rfl (.cons rfl (.cons rfl .nil)))))))))))))))))))) (.cons rfl (.cons rfl (.cons rfl (.cons rfl (.cons rfl (.cons rfl (.cons rfl .nil))))))))
  ·
    intro hg73
    refine RL.gskip rfl rfl rfl rfl ?_
    refine RL.gskip rfl rfl rfl rfl ?_
    refine RL.gskip rfl rfl rfl rfl ?_
    refine RL.gskip rfl rfl rfl rfl ?_
    refine RL.gskip rfl rfl rfl rfl ?_
    refine RL.q (by first | exact Yld.pickT rfl rfl | exact Yld.pickF rfl rfl) rfl ?_
    exact RL.nil (N.meet (.cons rfl (.cons rfl (.cons rfl (.cons rfl (.cons rfl (.cons rfl (.cons rfl (.cons rfl (.cons rfl (.cons rfl (.cons rfl (.cons rfl (.cons rfl (.cons rfl (.cons rfl (.cons rfl (.cons rfl (.cons rfl (.cons rfl (.cons rfl .nil)))))))))))))))))))) (.cons rfl (.cons rfl (.cons rfl (.cons rfl (.cons rfl (.cons rfl (.cons rfl .nil))))))))
  refine RL.q (Yld.move rfl) rfl ?_
  refine' RL.and (t := 80) (d := 86) 6 rfl (.cons (k := 0) rfl (.cons (k := 1) rfl (.cons (k := 2) rfl (.cons (k := 3) rfl (.cons (k := 4) rfl (.cons (k := 5) rfl (.cons (k := 6) rfl (.cons (k := 7) rfl (.cons (k := 8) rfl (.cons (k := 9) rfl (.cons (k := 16) rfl (.cons (k := 23) rfl (.cons (k := 30) rfl (.cons (k := 37) rfl (.cons (k := 44) rfl (.cons (k := 51) rfl (.cons (k := 58) rfl (.cons (k := 65) rfl (.cons (k := 72) rfl (.cons (k := 79) rfl .nil)))))))))))))))))))) (.cons (k := 0) rfl (.cons (k := 1) rfl (.cons (k := 2) rfl (.cons (k := 90) rfl (.cons (k := 91) rfl (.cons (k := 102) rfl (.cons (k := 103) rfl .nil))))))) ?_ ?_ ?_
  rotate_left 1
  ·
    intro hg80
    refine RL.gq rfl rfl (Yld.fieldAddr fo71_11 rfl) rfl ?_
    refine RL.gq rfl rfl (Yld.load1 (c := 102) Tryd.underlying2 rfl rfl rfl (by first | exact single_self _ _ | exact pset_self _ _ _ | assumption) rfl) rfl ?_
    refine RL.gq rfl rfl (Yld.fieldAddr fo71_11 rfl) rfl ?_
    refine RL.gq rfl rfl (Yld.load1 (c := 103) Tryd.underlying2 rfl rfl rfl (by first | exact single_self _ _ | exact pset_self _ _ _ | assumption) rfl) rfl ?_
    refine RL.gq rfl rfl (Yld.bin rfl rfl BinV.eql) rfl ?_
    refine RL.q (by first | exact Yld.pickT rfl rfl | exact Yld.pickF rfl rfl) rfl ?_
    exact RL.nil (N.meet (.cons rfl (.cons rfl (.cons rfl (.cons rfl (.cons rfl (.cons rfl (.cons rfl (.cons rfl (.cons rfl (.cons rfl (.cons rfl (.cons rfl (.cons rfl (.cons rfl (.cons rfl (.cons rfl (.cons rfl (.cons rfl (.cons rfl (.cons rfl (.cons rfl .nil))))))))))))))))))))) (.cons rfl (.cons rfl (.cons rfl (.cons rfl (.cons rfl (.cons rfl (.cons rfl .nil))))))))
  ·
    intro hg80
    refine RL.gskip rfl rfl rfl rfl ?_
    refine RL.gskip rfl rfl rfl rfl ?_
    refine RL.gskip rfl rfl rfl rfl ?_
    refine RL.gskip rfl rfl rfl rfl ?_
    refine RL.gskip rfl rfl rfl rfl ?_
    refine RL.q (by first | exact Yld.pickT rfl rfl | exact Yld.pickF rfl rfl) rfl ?_
    exact RL.nil (N.meet (.cons rfl (.cons rfl (.cons rfl (.cons rfl (.cons rfl (.cons rfl (.cons rfl (.cons rfl (.cons rfl (.cons rfl (.cons rfl (.cons rfl (.cons rfl (.cons rfl (.cons rfl (.cons rfl (.cons rfl (.cons rfl (.cons rfl (.cons rfl (.cons rfl .nil))))))))))))))))))))) (.cons rfl (.cons rfl (.cons rfl (.cons rfl (.cons rfl (.cons rfl (.cons rfl .nil))))))))
  refine RL.q (Yld.move rfl) rfl ?_
  refine' RL.and (t := 87) (d := 93) 6 rfl (.cons (k := 0) rfl (.cons (k := 1) rfl (.cons (k := 2) rfl (.cons (k := 3) rfl (.cons (k := 4) rfl (.cons (k := 5) rfl (.cons (k := 6) rfl (.cons (k := 7) rfl (.cons (k := 8) rfl (.cons (k := 9) rfl (.cons (k := 16) rfl (.cons (k := 23) rfl (.cons (k := 30) rfl (.cons (k := 37) rfl (.cons (k := 44) rfl (.cons (k := 51) rfl (.cons (k := 58) rfl (.cons (k := 65) rfl (.cons (k := 72) rfl (.cons (k := 79) rfl (.cons (k := 86) rfl .nil))))))))))))))))))))) (.cons (k := 0) rfl (.cons (k := 1) rfl (.cons (k := 2) rfl (.cons (k := 90) rfl (.cons (k := 91) rfl (.cons (k := 102) rfl (.cons (k := 103) rfl .nil))))))) ?_ ?_ ?_
  rotate_left 1
  ·
    intro hg87
    refine RL.gq rfl rfl (Yld.fieldAddr fo71_12 rfl) rfl ?_
    refine RL.gq rfl rfl (Yld.loadA (c := 102) Tryd.underlying61 rfl sz61 rfl rfl (by first | exact single_self _ _ | exact pset_self _ _ _ | assumption) rfl rfl) rfl ?_
    refine RL.gq rfl rfl (Yld.fieldAddr fo71_12 rfl) rfl ?_
    refine RL.gq rfl rfl (Yld.loadA (c := 103) Tryd.underlying61 rfl sz61 rfl rfl (by first | exact single_self _ _ | exact pset_self _ _ _ | assumption) rfl rfl) rfl ?_
    refine RL.ge rfl rfl (Eff.call ent58 [] [] (.cons rfl (.cons rfl .nil)) sameStaZ_ct rfl rfl rfl rfl (by rintro _ _ ⟨_, rfl⟩; rfl)) rfl ?_
    rintro _ _ ⟨_, ⟨rfl, rfl⟩, rfl⟩
    refine RL.q (by first | exact Yld.pickT rfl rfl | exact Yld.pickF rfl rfl) rfl ?_
    exact RL.nil (N.meet (.cons rfl (.cons rfl (.cons rfl (.cons rfl (.cons rfl (.cons rfl (.cons rfl (.cons rfl (.cons rfl (.cons rfl (.cons rfl (.cons rfl (.cons rfl (.cons rfl (.cons rfl (.cons rfl (.cons rfl (.cons rfl (.cons rfl (.cons rfl (.cons rfl (.cons rfl .nil)))))))))))))))))))))) (.cons rfl (.cons rfl (.cons rfl (.cons rfl (.cons rfl (.cons rfl (.cons rfl .nil))))))))
  ·
    intro hg87
    refine RL.gskip rfl rfl rfl rfl ?_
    refine RL.gskip rfl rfl rfl rfl ?_
    refine RL.gskip rfl rfl rfl rfl ?_
    refine RL.gskip rfl rfl rfl rfl ?_
    refine RL.gskip rfl rfl rfl rfl ?_
    refine RL.q (by first | exact Yld.pickT rfl rfl | exact Yld.pickF rfl rfl) rfl ?_
    exact RL.nil (N.meet (.cons rfl (.cons rfl (.cons rfl (.cons rfl (.cons rfl (.cons rfl (.cons rfl (.cons rfl (.cons rfl (.cons rfl (.cons rfl (.cons rfl (.cons rfl (.cons rfl (.cons rfl (.cons rfl (.cons rfl (.cons rfl (.cons rfl (.cons rfl (.cons rfl (.cons rfl .nil)))))))))))))))))))))) (.cons rfl (.cons rfl (.cons rfl (.cons rfl (.cons rfl (.cons rfl (.cons rfl .nil))))))))
  refine RL.q (Yld.move rfl) rfl ?_
  refine' RL.and (t := 94) (d := 100) 6 rfl (.cons (k := 0) rfl (.cons (k := 1) rfl (.cons (k := 2) rfl (.cons (k := 3) rfl (.cons (k := 4) rfl (.cons (k := 5) rfl (.cons (k := 6) rfl (.cons (k := 7) rfl (.cons (k := 8) rfl (.cons (k := 9) rfl (.cons (k := 16) rfl (.cons (k := 23) rfl (.cons (k := 30) rfl (.cons (k := 37) rfl (.cons (k := 44) rfl (.cons (k := 51) rfl (.cons (k := 58) rfl (.cons (k := 65) rfl (.cons (k := 72) rfl (.cons (k := 79) rfl (.cons (k := 86) rfl (.cons (k := 93) rfl .nil)))))))))))))))))))))) (.cons (k := 0) rfl (.cons (k := 1) rfl (.cons (k := 2) rfl (.cons (k := 90) rfl (.cons (k := 91) rfl (.cons (k := 102) rfl (.cons (k := 103) rfl .nil))))))) ?_ ?_ ?_
  rotate_left 1
  ·
    intro hg94
    refine RL.gq rfl rfl (Yld.fieldAddr fo71_13 rfl) rfl ?_
    refine RL.gq rfl rfl (Yld.load1 (c := 102) Tryd.underlying54 rfl rfl rfl (by first | exact single_self _ _ | exact pset_self _ _ _ | assumption) rfl) rfl ?_
    refine RL.gq rfl rfl (Yld.fieldAddr fo71_13 rfl) rfl ?_
    refine RL.gq rfl rfl (Yld.load1 (c := 103) Tryd.underlying54 rfl rfl rfl (by first | exact single_self _ _ | exact pset_self _ _ _ | assumption) rfl) rfl ?_
    refine RL.ge rfl rfl (Eff.call ent59 [90, 91] [90, 91] (.cons rfl (.cons rfl .nil)) (sameInts_ct [] emp none 0 ⟨rfl, rfl⟩ [] emp none 0 ⟨rfl, rfl⟩) rfl rfl rfl rfl (by rintro _ _ ⟨_, rfl⟩; rfl)) rfl ?_
    rintro _ _ ⟨_, ⟨rfl, rfl⟩, rfl⟩
    refine RL.q (by first | exact Yld.pickT rfl rfl | exact Yld.pickF rfl rfl) rfl ?_
    exact RL.nil (N.meet (.cons rfl (.cons rfl (.cons rfl (.cons rfl (.cons rfl (.cons rfl (.cons rfl (.cons rfl (.cons rfl (.cons rfl (.cons rfl (.cons rfl (.cons rfl (.cons rfl (.cons rfl (.cons rfl (.cons rfl (.cons rfl (.cons rfl (.cons rfl (.cons rfl (.cons rfl (.cons rfl .nil))))))))))))))))))))))) (.cons rfl (.cons rfl (.cons rfl (.cons rfl (.cons rfl (.cons rfl (.cons rfl .nil))))))))
  ·
    intro hg94
    refine RL.gskip rfl rfl rfl rfl ?_
    refine RL.gskip rfl rfl rfl rfl ?_
    refine RL.gskip rfl rfl rfl rfl ?_
    refine RL.gskip rfl rfl rfl rfl ?_
    refine RL.gskip rfl rfl rfl rfl ?_
    refine RL.q (by first | exact Yld.pickT rfl rfl | exact Yld.pickF rfl rfl) rfl ?_
    exact RL.nil (N.meet (.cons rfl (.cons rfl (.cons rfl (.cons rfl (.cons rfl (.cons rfl (.cons rfl (.cons rfl (.cons rfl (.cons rfl (.cons rfl (.cons rfl (.cons rfl (.cons rfl (.cons rfl (.cons rfl (.cons rfl (.cons rfl (.cons rfl (.cons rfl (.cons rfl (.cons rfl (.cons rfl .nil))))))))))))))))))))))) (.cons rfl (.cons rfl (.cons rfl (.cons rfl (.cons rfl (.cons rfl (.cons rfl .nil))))))))
  refine RL.q (Yld.move rfl) rfl ?_
  refine' RL.and (t := 101) (d := 107) 6 rfl (.cons (k := 0) rfl (.cons (k := 1) rfl (.cons (k := 2) rfl (.cons (k := 3) rfl (.cons (k := 4) rfl (.cons (k := 5) rfl (.cons (k := 6) rfl (.cons (k := 7) rfl (.cons (k := 8) rfl (.cons (k := 9) rfl (.cons (k := 16) rfl (.cons (k := 23) rfl (.cons (k := 30) rfl (.cons (k := 37) rfl (.cons (k := 44) rfl (.cons (k := 51) rfl (.cons (k := 58) rfl (.cons (k := 65) rfl (.cons (k := 72) rfl (.cons (k := 79) rfl (.cons (k := 86) rfl (.cons (k := 93) rfl (.cons (k := 100) rfl .nil))))))))))))))))))))))) (.cons (k := 0) rfl (.cons (k := 1) rfl (.cons (k := 2) rfl (.cons (k := 90) rfl (.cons (k := 91) rfl (.cons (k := 102) rfl (.cons (k := 103) rfl .nil))))))) ?_ ?_ ?_
  rotate_left 1
  ·
    intro hg101
    refine RL.gq rfl rfl (Yld.fieldAddr fo71_14 rfl) rfl ?_
    refine RL.gq rfl rfl (Yld.loadA (c := 102) Tryd.underlying69 rfl sz69 rfl rfl (by first | exact single_self _ _ | exact pset_self _ _ _ | assumption) rfl rfl) rfl ?_
    refine RL.gq rfl rfl (Yld.fieldAddr fo71_14 rfl) rfl ?_
    refine RL.gq rfl rfl (Yld.loadA (c := 103) Tryd.underlying69 rfl sz69 rfl rfl (by first | exact single_self _ _ | exact pset_self _ _ _ | assumption) rfl rfl) rfl ?_
    refine RL.ge rfl rfl (Eff.call ent60 [] [] (.cons rfl (.cons rfl .nil)) sameMsgZ_ct rfl rfl rfl rfl (by rintro _ _ ⟨_, rfl⟩; rfl)) rfl ?_
    rintro _ _ ⟨_, ⟨rfl, rfl⟩, rfl⟩
    refine RL.q (by first | exact Yld.pickT rfl rfl | exact Yld.pickF rfl rfl) rfl ?_
    exact RL.nil (N.meet (.cons rfl (.cons rfl (.cons rfl (.cons rfl (.cons rfl (.cons rfl (.cons rfl (.cons rfl (.cons rfl (.cons rfl (.cons rfl (.cons rfl (.cons rfl (.cons rfl (.cons rfl (.cons rfl (.cons rfl (.cons rfl (.cons rfl (.cons rfl (.cons rfl (.cons rfl (.cons rfl (.cons rfl .nil)))))))))))))))))))))))) (.cons rfl (.cons rfl (.cons rfl (.cons rfl (.cons rfl (.cons rfl (.cons rfl .nil))))))))
  ·
    intro hg101
    refine RL.gskip rfl rfl rfl rfl ?_
    refine RL.gskip rfl rfl rfl rfl ?_
    refine RL.gskip rfl rfl rfl rfl ?_
    refine RL.gskip rfl rfl rfl rfl ?_
    refine RL.gskip rfl rfl rfl rfl ?_
    refine RL.q (by first | exact Yld.pickT rfl rfl | exact Yld.pickF rfl rfl) rfl ?_
    exact RL.nil (N.meet (.cons rfl (.cons rfl (.cons rfl (.cons rfl (.cons rfl (.cons rfl (.cons rfl (.cons rfl (.cons rfl (.cons rfl (.cons rfl (.cons rfl (.cons rfl (.cons rfl (.cons rfl (.cons rfl (.cons rfl (.cons rfl (.cons rfl (.cons rfl (.cons rfl (.cons rfl (.cons rfl (.cons rfl .nil)))))))))))))))))))))))) (.cons rfl (.cons rfl (.cons rfl (.cons rfl (.cons rfl (.cons rfl (.cons rfl .nil))))))))
  refine RL.q (Yld.assign rfl) rfl ?_
  refine RL.nil ?_
  refine N.next ?_
  refine W.keep (.cons (k := 4) rfl .nil) (.cons (k := 0) rfl (.cons (k := 1) rfl (.cons (k := 2) rfl (.cons (k := 90) rfl (.cons (k := 91) rfl (.cons (k := 102) rfl (.cons (k := 103) rfl .nil))))))) ?_
  refine W.ret ?_
  exact N.retBy [1, 2] (.cons (.tmp rfl) .nil) rfl rfl rfl rfl ⟨by show Value.bool _ = _; rw [Value.bool.injEq]; simp, rfl⟩

end Go.Proofs.YtdblglgnhjankaaDoor
