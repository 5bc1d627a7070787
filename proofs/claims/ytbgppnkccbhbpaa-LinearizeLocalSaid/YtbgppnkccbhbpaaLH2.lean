/- Valid, of the program and of the reference. Written by program (walk.py). -/
import Derived.Test.YtbgppnkccbhbpaaLH1
namespace Go.Proofs.Ytbgppnkccbhbpaa
open SL HistLaw
set_option linter.unusedVariables false
set_option linter.unusedSimpArgs false
theorem zc42 : zc Try.prog 42 [.int .i64 0, .int .i64 0, .int .i64 0, .int .i64 0, .string .empty, .int .i64 0, .int .i64 0, .int .i64 0, .bool false, .int .i64 0, .int .i64 0, .int .i64 0] := (by kernel_rfl : ((Try.prog.info? 42).bind (·.zero)).map (fun v => v.cells.toList) = some [.int .i64 0, .int .i64 0, .int .i64 0, .int .i64 0, .string .empty, .int .i64 0, .int .i64 0, .int .i64 0, .bool false, .int .i64 0, .int .i64 0, .int .i64 0])
theorem fo42_2 : fieldOff Try.prog 42 2 = some 2 := by kernel_rfl
theorem ent22 : Ent Try.prog 22 := ⟨_, _, Try.func22, by kernel_rfl, rfl⟩
theorem mix : Try.prog.follows .mixedOrders = true := by kernel_rfl
theorem ent32 : Ent Try.prog 32 := ⟨_, _, Try.func32, by kernel_rfl, rfl⟩
theorem zv4 : zv Try.prog 4 (.bool false) := (by kernel_rfl : (Try.prog.info? 4).bind (·.zero) = some (.bool false))
theorem ent55 : Ent Try.prog 55 := ⟨_, _, Try.func55, by kernel_rfl, rfl⟩
theorem zc73 : zc Try.prog 73 [.map none] := (by kernel_rfl : ((Try.prog.info? 73).bind (·.zero)).map (fun v => v.cells.toList) = some [.map none])
theorem sz73 : sz Try.prog 73 1 := (by kernel_rfl : (Try.prog.info? 73).map (·.size) = some 1)
theorem ent42 : Ent Try.prog 42 := ⟨_, _, Try.func42, by kernel_rfl, rfl⟩
theorem ent34 : Ent Try.prog 34 := ⟨_, _, Try.func34, by kernel_rfl, rfl⟩
theorem ent44 : Ent Try.prog 44 := ⟨_, _, Try.func44, by kernel_rfl, rfl⟩
theorem ent45 : Ent Try.prog 45 := ⟨_, _, Try.func45, by kernel_rfl, rfl⟩
set_option maxRecDepth 100000 in
set_option maxHeartbeats 400000 in
theorem rvalid_ct (l : List O) (H1 : PH) (p : Option Addr) (c : Nat) (hS : Sl H1 p c 12 (l.map O.c)) : Ct Try.prog 19 [.slice p (l.map O.c).length c] [H1] (fun v Hs => (∃ b, v = .bool b ∧ (b = true ↔ Valid l)) ∧ Hs = [H1]) := by
  refine Ct.body Try.func19 rfl Try.ntmps19 rfl ?_
  intro E F
  have hmax := hS.len_le
  simp only [maxLen] at hmax
  refine W.seq ?_
  refine W.region ?_
  refine RL.q (Yld.assign rfl) rfl ?_
  refine RL.nil ?_
  refine N.next ?_
  refine W.seq ?_
  refine W.seq ?_
  refine W.region ?_
  refine RL.q (Yld.assign rfl) rfl ?_
  refine RL.nil ?_
  refine N.next ?_
  refine W.block ?_
  refine W.loop (ι := Nat) (fun i => i ≤ (l.map O.c).length ∧ ∀ (i0 : Nat) a, i0 < i → l[i0]? = some a → OKat l i0 a) (fun i => [(0, .slice p (l.map O.c).length c), (3, .int .i64 (i : Nat))]) (fun _ => [(0, F), (1, H1)]) (fun i => (l.map O.c).length - i) 0 ?_ ?_ ?_ ?_
  · exact ⟨Nat.zero_le _, upTo0⟩
  · exact (.cons rfl (.cons rfl .nil))
  · exact (.cons rfl (.cons rfl .nil))
  rintro i ⟨hi, hI⟩
  refine W.seq ?_
  refine W.seq ?_
  refine W.region ?_
  refine RL.q (Yld.move rfl) rfl ?_
  refine RL.q (Yld.move rfl) rfl ?_
  refine RL.q (Yld.lenSl Try.underlying22 rfl) rfl ?_
  refine RL.q (Yld.bin rfl rfl BinV.lss) rfl ?_
  refine RL.nil ?_
  refine N.next ?_
  first | refine W.condD rfl (fun hc11 => ?_) (fun hc11 => ?_) | (refine W.cond rfl (fun hc11 => ?_) (fun hc11 => ?_) <;> try simp only [Bool.or_eq_true, Bool.and_eq_true, Bool.not_eq_true', Bool.not_eq_false', decide_eq_true_eq, Bool.or_eq_false_iff, Bool.and_eq_false_iff, decide_eq_false_iff_not, beq_iff_eq, beq_eq_false_iff_ne, ne_eq, Decidable.not_not] at hc11)
  ·
    obtain ⟨a, ha⟩ : ∃ a, l[i]? = some a := ⟨_, List.getElem?_eq_getElem (show i < l.length by simp only [List.length_map] at *; omega)⟩
    have hla : (l.map O.c)[i]? = some a.c := by simp [ha]
    obtain ⟨z, hz⟩ : ∃ z, l[0]? = some z := ⟨_, List.getElem?_eq_getElem (show 0 < l.length by simp only [List.length_map] at *; omega)⟩
    have hlz : (l.map O.c)[0]? = some z.c := by simp [hz]
    refine W.skip ?_
    refine N.next ?_
    refine W.keep (.cons (k := 0) rfl (.cons (k := 3) rfl .nil)) (.cons (k := 0) rfl (.cons (k := 1) rfl .nil)) ?_
    refine W.seq ?_
    refine W.block ?_
    refine W.seq ?_
    refine W.region ?_
    refine RL.q (Yld.move rfl) rfl ?_
    refine RL.q (Yld.move rfl) rfl ?_
    refine RL.q (Yld.indexRow Try.underlying22 sz42 rfl rfl hS (by first | rfl | omega | (simp; done) | (simp; omega)) (by omega) (by first | omega | (simp; done) | (simp; omega))) rfl ?_
    refine RL.q (Yld.eq (v' := .agg [.int .i64 a.cl, .int .i64 a.nu, .int .i64 a.gr, .int .i64 a.kd, .string a.key, .int .i64 a.val, .int .i64 a.old, .int .i64 a.code, .bool a.fnd, .int .i64 a.rv, .int .i64 a.inv, .int .i64 a.rsp].toArray) (Yld.loadRow (cl := 1) Try.underlying42 rfl sz42 rfl rfl hS hla) rfl) rfl ?_
    refine RL.e (Eff.alloc 104 zc42) rfl ?_
    rintro _ _ ⟨b4, rfl, rfl⟩
    refine RL.e0 (Eff.storeS (c := 104) _ sz42 rfl rfl rfl rfl rfl rfl rfl (by (try simp only [putAt, List.take, List.drop, List.nil_append, List.cons_append, List.append_nil, List.length_cons, List.length_nil, Nat.add_zero, Nat.zero_add, Nat.reduceAdd]); rfl)) ?_
    rintro _ _ rfl
    refine RL.nil ?_
    refine N.next ?_
    refine W.keep (.cons (k := 0) rfl (.cons (k := 3) rfl (.cons (k := 4) rfl .nil))) (.cons (k := 0) rfl (.cons (k := 1) rfl (.cons (k := 104) rfl .nil))) ?_
    refine W.seq ?_
    refine W.seq ?_
    refine W.draw (.q 0 (.q 1 (.q 2 (.q 3 (.q 4 (.q 5 (.q 6 (.q 7 (.q 8 (.q 9 (.q 10 (.q 11 (.q 12 (.q 13 (.q 14 (.q 15 (.q 16 (.q 17 (.q 18 (.q 19 (.one 20 (.q 21 (.q 22 (.q 23 (.q 24 (.q 25 (.q 26 (.q 27 .done)))))))))))))))))))))))))))) (.cons (k := 0) rfl (.cons (k := 1) rfl (.cons (k := 104) rfl .nil))) mix (by kernel_rfl) (by kernel_rfl) ?_
    refine DL.q rfl (Yld.fieldAddr fo42_0 rfl) rfl ?_
    refine DL.q rfl (Yld.load1 (c := 104) Try.underlying3 rfl rfl rfl (by first | exact single_self _ _ | exact pset_self _ _ _ | assumption) rfl) rfl ?_
    refine DL.q rfl (Yld.bin rfl rfl BinV.lss) rfl ?_
    refine DL.q rfl (Yld.move rfl) rfl ?_
    refine' DL.or (t := 21) (d := 25) 4 rfl (.cons (k := 0) rfl (.cons (k := 3) rfl (.cons (k := 4) rfl (.cons (k := 18) rfl (.cons (k := 19) rfl (.cons (k := 20) rfl .nil)))))) (.cons (k := 0) rfl (.cons (k := 1) rfl (.cons (k := 104) rfl .nil))) ?_ ?_ ?_
    rotate_left 1
    ·
      intro hg21
      refine DL.gq rfl rfl rfl (Yld.fieldAddr fo42_1 rfl) rfl ?_
      refine DL.gq rfl rfl rfl (Yld.load1 (c := 104) Try.underlying3 rfl rfl rfl (by first | exact single_self _ _ | exact pset_self _ _ _ | assumption) rfl) rfl ?_
      refine DL.gq rfl rfl rfl (Yld.bin rfl rfl BinV.lss) rfl ?_
      refine DL.q rfl (by first | exact Yld.pickT rfl rfl | exact Yld.pickF rfl rfl) rfl ?_
      exact DL.meet (.cons rfl (.cons rfl (.cons rfl (.cons rfl (.cons rfl (.cons rfl (.cons rfl .nil))))))) (.cons rfl (.cons rfl (.cons rfl .nil)))
    ·
      intro hg21
      refine DL.gskip rfl rfl rfl rfl rfl ?_
      refine DL.gskip rfl rfl rfl rfl rfl ?_
      refine DL.gskip rfl rfl rfl rfl rfl ?_
      refine DL.q rfl (by first | exact Yld.pickT rfl rfl | exact Yld.pickF rfl rfl) rfl ?_
      exact DL.meet (.cons rfl (.cons rfl (.cons rfl (.cons rfl (.cons rfl (.cons rfl (.cons rfl .nil))))))) (.cons rfl (.cons rfl (.cons rfl .nil)))
    refine DL.q rfl (Yld.move rfl) rfl ?_
    refine' DL.or (t := 26) (d := 34) 8 rfl (.cons (k := 0) rfl (.cons (k := 3) rfl (.cons (k := 4) rfl (.cons (k := 18) rfl (.cons (k := 19) rfl (.cons (k := 20) rfl (.cons (k := 25) rfl .nil))))))) (.cons (k := 0) rfl (.cons (k := 1) rfl (.cons (k := 104) rfl .nil))) ?_ ?_ ?_
    rotate_left 1
    ·
      intro hg26
      refine DL.gq rfl rfl rfl (Yld.fieldAddr fo42_2 rfl) rfl ?_
      refine DL.gq rfl rfl rfl (Yld.load1 (c := 104) Try.underlying3 rfl rfl rfl (by first | exact single_self _ _ | exact pset_self _ _ _ | assumption) rfl) rfl ?_
      refine DL.gq rfl rfl rfl (Yld.move rfl) rfl ?_
      refine DL.gq rfl rfl rfl (Yld.indexRow Try.underlying22 sz42 rfl rfl hS (by first | rfl | omega | (simp; done) | (simp; omega)) (by omega) (by first | omega | (simp; done) | (simp; omega))) rfl ?_
      refine DL.gq rfl rfl rfl (Yld.fieldAddr fo42_2 rfl) rfl ?_
      refine DL.gq rfl rfl rfl (Yld.loadRowF (cl := 1) (j := 2) Try.underlying3 rfl rfl rfl hS hlz rfl) rfl ?_
      refine DL.gq rfl rfl rfl (Yld.bin rfl rfl BinV.neq) rfl ?_
      refine DL.q rfl (by first | exact Yld.pickT rfl rfl | exact Yld.pickF rfl rfl) rfl ?_
      exact DL.meet (.cons rfl (.cons rfl (.cons rfl (.cons rfl (.cons rfl (.cons rfl (.cons rfl (.cons rfl .nil)))))))) (.cons rfl (.cons rfl (.cons rfl .nil)))
    ·
      intro hg26
      refine DL.gskip rfl rfl rfl rfl rfl ?_
      refine DL.gskip rfl rfl rfl rfl rfl ?_
      refine DL.gskip rfl rfl rfl rfl rfl ?_
      refine DL.gskip rfl rfl rfl rfl rfl ?_
      refine DL.gskip rfl rfl rfl rfl rfl ?_
      refine DL.gskip rfl rfl rfl rfl rfl ?_
      refine DL.gskip rfl rfl rfl rfl rfl ?_
      refine DL.q rfl (by first | exact Yld.pickT rfl rfl | exact Yld.pickF rfl rfl) rfl ?_
      exact DL.meet (.cons rfl (.cons rfl (.cons rfl (.cons rfl (.cons rfl (.cons rfl (.cons rfl (.cons rfl .nil)))))))) (.cons rfl (.cons rfl (.cons rfl .nil)))
    refine DL.q rfl (Yld.move rfl) rfl ?_
    refine' DL.or (t := 35) (d := 40) 5 rfl (.cons (k := 0) rfl (.cons (k := 3) rfl (.cons (k := 4) rfl (.cons (k := 18) rfl (.cons (k := 19) rfl (.cons (k := 20) rfl (.cons (k := 25) rfl (.cons (k := 34) rfl .nil)))))))) (.cons (k := 0) rfl (.cons (k := 1) rfl (.cons (k := 104) rfl .nil))) ?_ ?_ ?_
    rotate_left 1
    ·
      intro hg35
      refine DL.gq rfl rfl rfl (Yld.fieldAddr fo42_3 rfl) rfl ?_
      refine DL.gq rfl rfl rfl (Yld.loadA (c := 104) Try.underlying38 rfl sz38 rfl rfl (by first | exact single_self _ _ | exact pset_self _ _ _ | assumption) rfl rfl) rfl ?_
      refine DL.gone rfl rfl rfl (Eff.call ent22 [] [] (.cons rfl .nil) (validOp_ct _) rfl rfl rfl rfl (by rintro _ _ ⟨_, rfl⟩; rfl)) rfl (by rintro _ _ ⟨_, ⟨rfl, rfl⟩, rfl⟩; repeat (first | exact .nil | refine .cons rfl ?_)) ?_
      rintro _ _ ⟨_, ⟨rfl, rfl⟩, rfl⟩
      refine DL.gq rfl rfl rfl (by first | exact Yld.notD rfl | exact Yld.not rfl) rfl ?_
      refine DL.q rfl (by first | exact Yld.pickT rfl rfl | exact Yld.pickF rfl rfl) rfl ?_
      exact DL.meet (.cons rfl (.cons rfl (.cons rfl (.cons rfl (.cons rfl (.cons rfl (.cons rfl (.cons rfl (.cons rfl .nil))))))))) (.cons rfl (.cons rfl (.cons rfl .nil)))
    ·
      intro hg35
      refine DL.gskip rfl rfl rfl rfl rfl ?_
      refine DL.gskip rfl rfl rfl rfl rfl ?_
      refine DL.gskip1 rfl rfl rfl rfl rfl ?_
      refine DL.gskip rfl rfl rfl rfl rfl ?_
      refine DL.q rfl (by first | exact Yld.pickT rfl rfl | exact Yld.pickF rfl rfl) rfl ?_
      exact DL.meet (.cons rfl (.cons rfl (.cons rfl (.cons rfl (.cons rfl (.cons rfl (.cons rfl (.cons rfl (.cons rfl .nil))))))))) (.cons rfl (.cons rfl (.cons rfl .nil)))
    refine DL.q rfl (Yld.move rfl) rfl ?_
    refine' DL.or (t := 41) (d := 45) 4 rfl (.cons (k := 0) rfl (.cons (k := 3) rfl (.cons (k := 4) rfl (.cons (k := 18) rfl (.cons (k := 19) rfl (.cons (k := 20) rfl (.cons (k := 25) rfl (.cons (k := 34) rfl (.cons (k := 40) rfl .nil))))))))) (.cons (k := 0) rfl (.cons (k := 1) rfl (.cons (k := 104) rfl .nil))) ?_ ?_ ?_
    rotate_left 1
    ·
      intro hg41
      refine DL.gq rfl rfl rfl (Yld.fieldAddr fo42_5 rfl) rfl ?_
      refine DL.gq rfl rfl rfl (Yld.load1 (c := 104) Try.underlying3 rfl rfl rfl (by first | exact single_self _ _ | exact pset_self _ _ _ | assumption) rfl) rfl ?_
      refine DL.gq rfl rfl rfl (Yld.bin rfl rfl BinV.lss) rfl ?_
      refine DL.q rfl (by first | exact Yld.pickT rfl rfl | exact Yld.pickF rfl rfl) rfl ?_
      exact DL.meet (.cons rfl (.cons rfl (.cons rfl (.cons rfl (.cons rfl (.cons rfl (.cons rfl (.cons rfl (.cons rfl (.cons rfl .nil)))))))))) (.cons rfl (.cons rfl (.cons rfl .nil)))
    ·
      intro hg41
      refine DL.gskip rfl rfl rfl rfl rfl ?_
      refine DL.gskip rfl rfl rfl rfl rfl ?_
      refine DL.gskip rfl rfl rfl rfl rfl ?_
      refine DL.q rfl (by first | exact Yld.pickT rfl rfl | exact Yld.pickF rfl rfl) rfl ?_
      exact DL.meet (.cons rfl (.cons rfl (.cons rfl (.cons rfl (.cons rfl (.cons rfl (.cons rfl (.cons rfl (.cons rfl (.cons rfl .nil)))))))))) (.cons rfl (.cons rfl (.cons rfl .nil)))
    refine DL.done ?_
    refine N.next ?_
    refine W.keep (.cons (k := 0) rfl (.cons (k := 3) rfl (.cons (k := 4) rfl (.cons (k := 45) rfl .nil)))) (.cons (k := 0) rfl (.cons (k := 1) rfl (.cons (k := 104) rfl .nil))) ?_
    first | refine W.condD rfl (fun hc45 => ?_) (fun hc45 => ?_) | (refine W.cond rfl (fun hc45 => ?_) (fun hc45 => ?_) <;> try simp only [Bool.or_eq_true, Bool.and_eq_true, Bool.not_eq_true', Bool.not_eq_false', decide_eq_true_eq, Bool.or_eq_false_iff, Bool.and_eq_false_iff, decide_eq_false_iff_not, beq_iff_eq, beq_eq_false_iff_ne, ne_eq, Decidable.not_not] at hc45)
    ·
      refine W.seq ?_
      refine W.region ?_
      refine RL.q (Yld.assign rfl) rfl ?_
      refine RL.nil ?_
      refine N.next ?_
      refine W.ret ?_
      refine N.then_ret ?_
      refine N.block_ret ?_
      refine N.then_ret ?_
      refine N.then_ret ?_
      refine N.block_ret ?_
      refine N.then_ret ?_
      exact N.retBy [1] (.cons (.tmp rfl) .nil) rfl rfl rfl rfl ⟨⟨false, rfl, notV ha fun ⟨h1, h2, h3, h4⟩ => by obtain ⟨g1, g2, g3, g4, g5⟩ := h1; have := h2 z hz; rcases hc45 with (((h | h) | h) | h) | h <;> first | omega | exact h g4⟩, rfl⟩
    ·
      refine W.skip ?_
      refine N.next ?_
      refine W.seq ?_
      refine W.seq ?_
      refine W.region ?_
      refine RL.q (Yld.fieldAddr fo42_6 rfl) rfl ?_
      refine RL.q (Yld.load1 (c := 104) Try.underlying3 rfl rfl rfl (by first | exact single_self _ _ | exact pset_self _ _ _ | assumption) rfl) rfl ?_
      refine RL.q (Yld.bin rfl rfl BinV.lss) rfl ?_
      refine RL.q (Yld.move rfl) rfl ?_
      refine' RL.or (t := 49) (d := 60) 11 rfl (.cons (k := 0) rfl (.cons (k := 3) rfl (.cons (k := 4) rfl (.cons (k := 45) rfl (.cons (k := 46) rfl (.cons (k := 47) rfl (.cons (k := 48) rfl .nil))))))) (.cons (k := 0) rfl (.cons (k := 1) rfl (.cons (k := 104) rfl .nil))) ?_ ?_ ?_
      rotate_left 1
      ·
        intro hg49
        refine RL.gq rfl rfl (Yld.fieldAddr fo42_6 rfl) rfl ?_
        refine RL.gq rfl rfl (Yld.load1 (c := 104) Try.underlying3 rfl rfl rfl (by first | exact single_self _ _ | exact pset_self _ _ _ | assumption) rfl) rfl ?_
        refine RL.gq rfl rfl (Yld.bin rfl rfl BinV.geq) rfl ?_
        refine RL.gq rfl rfl (Yld.move rfl) rfl ?_
        refine' RL.and (t := 53) (d := 59) 6 rfl (.cons (k := 0) rfl (.cons (k := 3) rfl (.cons (k := 4) rfl (.cons (k := 45) rfl (.cons (k := 46) rfl (.cons (k := 47) rfl (.cons (k := 48) rfl (.cons (k := 49) rfl (.cons (k := 50) rfl (.cons (k := 51) rfl (.cons (k := 52) rfl .nil))))))))))) (.cons (k := 0) rfl (.cons (k := 1) rfl (.cons (k := 104) rfl .nil))) ?_ ?_ ?_
        rotate_left 1
        ·
          intro hg53
          refine RL.gq rfl rfl (Yld.fieldAddr fo42_6 rfl) rfl ?_
          refine RL.gq rfl rfl (Yld.load1 (c := 104) Try.underlying3 rfl rfl rfl (by first | exact single_self _ _ | exact pset_self _ _ _ | assumption) rfl) rfl ?_
          refine RL.gq rfl rfl (Yld.fieldAddr fo42_5 rfl) rfl ?_
          refine RL.gq rfl rfl (Yld.load1 (c := 104) Try.underlying3 rfl rfl rfl (by first | exact single_self _ _ | exact pset_self _ _ _ | assumption) rfl) rfl ?_
          refine RL.gq rfl rfl (Yld.bin rfl rfl BinV.leq) rfl ?_
          refine RL.gq rfl rfl (by first | exact Yld.pickT rfl rfl | exact Yld.pickF rfl rfl) rfl ?_
          exact RL.nil (N.meet (.cons rfl (.cons rfl (.cons rfl (.cons rfl (.cons rfl (.cons rfl (.cons rfl (.cons rfl (.cons rfl (.cons rfl (.cons rfl (.cons rfl .nil)))))))))))) (.cons rfl (.cons rfl (.cons rfl .nil))))
        ·
          intro hg53
          refine RL.gskip rfl rfl rfl rfl ?_
          refine RL.gskip rfl rfl rfl rfl ?_
          refine RL.gskip rfl rfl rfl rfl ?_
          refine RL.gskip rfl rfl rfl rfl ?_
          refine RL.gskip rfl rfl rfl rfl ?_
          refine RL.gq rfl rfl (by first | exact Yld.pickT rfl rfl | exact Yld.pickF rfl rfl) rfl ?_
          exact RL.nil (N.meet (.cons rfl (.cons rfl (.cons rfl (.cons rfl (.cons rfl (.cons rfl (.cons rfl (.cons rfl (.cons rfl (.cons rfl (.cons rfl (.cons rfl .nil)))))))))))) (.cons rfl (.cons rfl (.cons rfl .nil))))
        refine RL.q (by first | exact Yld.pickT rfl rfl | exact Yld.pickF rfl rfl) rfl ?_
        exact RL.nil (N.meet (.cons rfl (.cons rfl (.cons rfl (.cons rfl (.cons rfl (.cons rfl (.cons rfl (.cons rfl .nil)))))))) (.cons rfl (.cons rfl (.cons rfl .nil))))
      ·
        intro hg49
        refine RL.gskip rfl rfl rfl rfl ?_
        refine RL.gskip rfl rfl rfl rfl ?_
        refine RL.gskip rfl rfl rfl rfl ?_
        refine RL.gskip rfl rfl rfl rfl ?_
        refine RL.gskipU rfl rfl rfl ?_
        refine RL.gskipU rfl rfl rfl ?_
        refine RL.gskipU rfl rfl rfl ?_
        refine RL.gskipU rfl rfl rfl ?_
        refine RL.gskipU rfl rfl rfl ?_
        refine RL.gskip rfl rfl rfl rfl ?_
        refine RL.q (by first | exact Yld.pickT rfl rfl | exact Yld.pickF rfl rfl) rfl ?_
        exact RL.nil (N.meet (.cons rfl (.cons rfl (.cons rfl (.cons rfl (.cons rfl (.cons rfl (.cons rfl (.cons rfl .nil)))))))) (.cons rfl (.cons rfl (.cons rfl .nil))))
      refine RL.q (Yld.move rfl) rfl ?_
      refine' RL.or (t := 61) (d := 71) 10 rfl (.cons (k := 0) rfl (.cons (k := 3) rfl (.cons (k := 4) rfl (.cons (k := 45) rfl (.cons (k := 46) rfl (.cons (k := 47) rfl (.cons (k := 48) rfl (.cons (k := 60) rfl .nil)))))))) (.cons (k := 0) rfl (.cons (k := 1) rfl (.cons (k := 104) rfl .nil))) ?_ ?_ ?_
      rotate_left 1
      ·
        intro hg61
        refine RL.gq rfl rfl (Yld.fieldAddr fo42_6 rfl) rfl ?_
        refine RL.gq rfl rfl (Yld.load1 (c := 104) Try.underlying3 rfl rfl rfl (by first | exact single_self _ _ | exact pset_self _ _ _ | assumption) rfl) rfl ?_
        refine RL.gq rfl rfl (Yld.bin rfl rfl BinV.lss) rfl ?_
        refine RL.gq rfl rfl (Yld.move rfl) rfl ?_
        refine' RL.and (t := 65) (d := 70) 5 rfl (.cons (k := 0) rfl (.cons (k := 3) rfl (.cons (k := 4) rfl (.cons (k := 45) rfl (.cons (k := 46) rfl (.cons (k := 47) rfl (.cons (k := 48) rfl (.cons (k := 60) rfl (.cons (k := 61) rfl (.cons (k := 62) rfl (.cons (k := 63) rfl (.cons (k := 64) rfl .nil)))))))))))) (.cons (k := 0) rfl (.cons (k := 1) rfl (.cons (k := 104) rfl .nil))) ?_ ?_ ?_
        rotate_left 1
        ·
          intro hg65
          refine RL.gq rfl rfl (Yld.fieldAddr fo42_4 rfl) rfl ?_
          refine RL.gq rfl rfl (Yld.loadA (c := 104) Try.underlying40 rfl sz40 rfl rfl (by first | exact single_self _ _ | exact pset_self _ _ _ | assumption) rfl rfl) rfl ?_
          refine RL.gq rfl rfl (Yld.buildP lay40 .nil rfl) rfl ?_
          refine RL.gq rfl rfl (Yld.bin rfl rfl (BinV.neqT eqg40 (EqV.struct Try.underlying40 sih40 (EqF.cons rfl (PartV.one Try.underlying26 rfl rfl) (PartV.one Try.underlying26 rfl rfl) (EqV.int Try.underlying26) (EqF.cons rfl (PartV.one Try.underlying4 rfl rfl) (PartV.one Try.underlying4 rfl rfl) (EqV.bool Try.underlying4) (EqF.cons rfl (PartV.one Try.underlying2 rfl rfl) (PartV.one Try.underlying2 rfl rfl) (EqV.int Try.underlying2) EqF.nil)))))) rfl ?_
          refine RL.gq rfl rfl (by first | exact Yld.pickT rfl rfl | exact Yld.pickF rfl rfl) rfl ?_
          exact RL.nil (N.meet (.cons rfl (.cons rfl (.cons rfl (.cons rfl (.cons rfl (.cons rfl (.cons rfl (.cons rfl (.cons rfl (.cons rfl (.cons rfl (.cons rfl (.cons rfl .nil))))))))))))) (.cons rfl (.cons rfl (.cons rfl .nil))))
        ·
          intro hg65
          refine RL.gskip rfl rfl rfl rfl ?_
          refine RL.gskip rfl rfl rfl rfl ?_
          refine RL.gskip rfl rfl rfl rfl ?_
          refine RL.gskip rfl rfl rfl rfl ?_
          refine RL.gq rfl rfl (by first | exact Yld.pickT rfl rfl | exact Yld.pickF rfl rfl) rfl ?_
          exact RL.nil (N.meet (.cons rfl (.cons rfl (.cons rfl (.cons rfl (.cons rfl (.cons rfl (.cons rfl (.cons rfl (.cons rfl (.cons rfl (.cons rfl (.cons rfl (.cons rfl .nil))))))))))))) (.cons rfl (.cons rfl (.cons rfl .nil))))
        refine RL.q (by first | exact Yld.pickT rfl rfl | exact Yld.pickF rfl rfl) rfl ?_
        exact RL.nil (N.meet (.cons rfl (.cons rfl (.cons rfl (.cons rfl (.cons rfl (.cons rfl (.cons rfl (.cons rfl (.cons rfl .nil))))))))) (.cons rfl (.cons rfl (.cons rfl .nil))))
      ·
        intro hg61
        refine RL.gskip rfl rfl rfl rfl ?_
        refine RL.gskip rfl rfl rfl rfl ?_
        refine RL.gskip rfl rfl rfl rfl ?_
        refine RL.gskip rfl rfl rfl rfl ?_
        refine RL.gskipU rfl rfl rfl ?_
        refine RL.gskipU rfl rfl rfl ?_
        refine RL.gskipU rfl rfl rfl ?_
        refine RL.gskipU rfl rfl rfl ?_
        refine RL.gskip rfl rfl rfl rfl ?_
        refine RL.q (by first | exact Yld.pickT rfl rfl | exact Yld.pickF rfl rfl) rfl ?_
        exact RL.nil (N.meet (.cons rfl (.cons rfl (.cons rfl (.cons rfl (.cons rfl (.cons rfl (.cons rfl (.cons rfl (.cons rfl .nil))))))))) (.cons rfl (.cons rfl (.cons rfl .nil))))
      refine RL.nil ?_
      refine N.next ?_
      refine W.keep (.cons (k := 0) rfl (.cons (k := 3) rfl (.cons (k := 4) rfl (.cons (k := 71) rfl .nil)))) (.cons (k := 0) rfl (.cons (k := 1) rfl (.cons (k := 104) rfl .nil))) ?_
      first | refine W.condD rfl (fun hc71 => ?_) (fun hc71 => ?_) | (refine W.cond rfl (fun hc71 => ?_) (fun hc71 => ?_) <;> try simp only [Bool.or_eq_true, Bool.and_eq_true, Bool.not_eq_true', Bool.not_eq_false', decide_eq_true_eq, Bool.or_eq_false_iff, Bool.and_eq_false_iff, decide_eq_false_iff_not, beq_iff_eq, beq_eq_false_iff_ne, ne_eq, Decidable.not_not] at hc71)
      ·
        refine W.seq ?_
        refine W.region ?_
        refine RL.q (Yld.assign rfl) rfl ?_
        refine RL.nil ?_
        refine N.next ?_
        refine W.ret ?_
        refine N.then_ret ?_
        refine N.block_ret ?_
        refine N.then_ret ?_
        refine N.then_ret ?_
        refine N.block_ret ?_
        refine N.then_ret ?_
        exact N.retBy [1] (.cons (.tmp rfl) .nil) rfl rfl rfl rfl ⟨⟨false, rfl, notV ha fun ⟨h1, h2, h3, h4⟩ => by obtain ⟨g1, g2, g3, g4, g5⟩ := h1; rcases g5 with g5 | ⟨g5, q1, q2, q3⟩ <;> (try simp only [q1, q2, q3, not_true_eq_false, or_false, and_false, false_or, Bool.true_eq_false] at hc71) <;> omega⟩, rfl⟩
      ·
        have hF : Formed a := by
          unfold Formed Blank
          refine ⟨by omega, by omega, by omega, by first | exact hc45.1.2 | omega, ?_⟩
          by_cases hf : a.fnd = false <;> simp only [hf, true_and, and_true, false_and, and_false, or_false, Bool.true_eq_false, not_false_eq_true, not_true_eq_false] at hc71 ⊢ <;> omega
        refine W.skip ?_
        refine N.next ?_
        refine W.seq ?_
        refine W.seq ?_
        refine W.region ?_
        refine RL.q (Yld.assign rfl) rfl ?_
        refine RL.nil ?_
        refine N.next ?_
        refine W.block ?_
        refine W.loop (ι := Nat) (fun k => k ≤ i ∧ ∀ (k0 : Nat) b, k0 < k → l[k0]? = some b → Pair b a) (fun k => [(0, .slice p (l.map O.c).length c), (3, .int .i64 (i : Nat)), (4, .pointer (some ⟨b4, 0, none⟩)), (5, .int .i64 (k : Nat))]) (fun _ => [(0, F), (1, H1), (104, single b4 (.cells [.int .i64 a.cl, .int .i64 a.nu, .int .i64 a.gr, .int .i64 a.kd, .string a.key, .int .i64 a.val, .int .i64 a.old, .int .i64 a.code, .bool a.fnd, .int .i64 a.rv, .int .i64 a.inv, .int .i64 a.rsp].toArray 42 (0, 0)))]) (fun k => i - k) 0 ?_ ?_ ?_ ?_
        · exact ⟨Nat.zero_le _, upTo0⟩
        · exact (.cons rfl (.cons rfl (.cons rfl (.cons rfl .nil))))
        · exact (.cons rfl (.cons rfl (.cons rfl .nil)))
        rintro k ⟨hk, hK⟩
        refine W.seq ?_
        refine W.seq ?_
        refine W.region ?_
        refine RL.q (Yld.move rfl) rfl ?_
        refine RL.q (Yld.move rfl) rfl ?_
        refine RL.q (Yld.bin rfl rfl BinV.lss) rfl ?_
        refine RL.nil ?_
        refine N.next ?_
        first | refine W.condD rfl (fun hc74 => ?_) (fun hc74 => ?_) | (refine W.cond rfl (fun hc74 => ?_) (fun hc74 => ?_) <;> try simp only [Bool.or_eq_true, Bool.and_eq_true, Bool.not_eq_true', Bool.not_eq_false', decide_eq_true_eq, Bool.or_eq_false_iff, Bool.and_eq_false_iff, decide_eq_false_iff_not, beq_iff_eq, beq_eq_false_iff_ne, ne_eq, Decidable.not_not] at hc74)
        ·
          obtain ⟨b, hb⟩ : ∃ b, l[k]? = some b := ⟨_, List.getElem?_eq_getElem (show k < l.length by simp only [List.length_map] at *; omega)⟩
          have hlb : (l.map O.c)[k]? = some b.c := by simp [hb]
          refine W.skip ?_
          refine N.next ?_
          refine W.seq ?_
          refine W.block ?_
          refine W.seq ?_
          refine W.region ?_
          refine RL.q (Yld.move rfl) rfl ?_
          refine RL.q (Yld.move rfl) rfl ?_
          refine RL.q (Yld.indexRow Try.underlying22 sz42 rfl rfl hS (by first | rfl | omega | (simp; done) | (simp; omega)) (by omega) (by first | omega | (simp; done) | (simp; omega))) rfl ?_
          refine RL.q (Yld.eq (v' := .agg [.int .i64 b.cl, .int .i64 b.nu, .int .i64 b.gr, .int .i64 b.kd, .string b.key, .int .i64 b.val, .int .i64 b.old, .int .i64 b.code, .bool b.fnd, .int .i64 b.rv, .int .i64 b.inv, .int .i64 b.rsp].toArray) (Yld.loadRow (cl := 1) Try.underlying42 rfl sz42 rfl rfl hS hlb) rfl) rfl ?_
          refine RL.e (Eff.alloc 106 zc42) rfl ?_
          rintro _ _ ⟨b6, rfl, rfl⟩
          refine RL.e0 (Eff.storeS (c := 106) _ sz42 rfl rfl rfl rfl rfl rfl rfl (by (try simp only [putAt, List.take, List.drop, List.nil_append, List.cons_append, List.append_nil, List.length_cons, List.length_nil, Nat.add_zero, Nat.zero_add, Nat.reduceAdd]); rfl)) ?_
          rintro _ _ rfl
          refine RL.nil ?_
          refine N.next ?_
          refine W.keep (.cons (k := 0) rfl (.cons (k := 3) rfl (.cons (k := 4) rfl (.cons (k := 5) rfl (.cons (k := 6) rfl .nil))))) (.cons (k := 0) rfl (.cons (k := 1) rfl (.cons (k := 104) rfl (.cons (k := 106) rfl .nil)))) ?_
          refine W.seq ?_
          refine W.region ?_
          refine RL.q (Yld.fieldAddr fo42_5 rfl) rfl ?_
          refine RL.q (Yld.load1 (c := 106) Try.underlying3 rfl rfl rfl (by first | exact single_self _ _ | exact pset_self _ _ _ | assumption) rfl) rfl ?_
          refine RL.q (Yld.fieldAddr fo42_5 rfl) rfl ?_
          refine RL.q (Yld.load1 (c := 104) Try.underlying3 rfl rfl rfl (by first | exact single_self _ _ | exact pset_self _ _ _ | assumption) rfl) rfl ?_
          refine RL.q (Yld.bin rfl rfl BinV.geq) rfl ?_
          refine RL.q (Yld.move rfl) rfl ?_
          refine' RL.or (t := 86) (d := 97) 11 rfl (.cons (k := 0) rfl (.cons (k := 3) rfl (.cons (k := 4) rfl (.cons (k := 5) rfl (.cons (k := 6) rfl (.cons (k := 81) rfl (.cons (k := 82) rfl (.cons (k := 83) rfl (.cons (k := 84) rfl (.cons (k := 85) rfl .nil)))))))))) (.cons (k := 0) rfl (.cons (k := 1) rfl (.cons (k := 104) rfl (.cons (k := 106) rfl .nil)))) ?_ ?_ ?_
          rotate_left 1
          ·
            intro hg86
            refine RL.gq rfl rfl (Yld.fieldAddr fo42_6 rfl) rfl ?_
            refine RL.gq rfl rfl (Yld.load1 (c := 106) Try.underlying3 rfl rfl rfl (by first | exact single_self _ _ | exact pset_self _ _ _ | assumption) rfl) rfl ?_
            refine RL.gq rfl rfl (Yld.bin rfl rfl BinV.geq) rfl ?_
            refine RL.gq rfl rfl (Yld.move rfl) rfl ?_
            refine' RL.and (t := 90) (d := 96) 6 rfl (.cons (k := 0) rfl (.cons (k := 3) rfl (.cons (k := 4) rfl (.cons (k := 5) rfl (.cons (k := 6) rfl (.cons (k := 81) rfl (.cons (k := 82) rfl (.cons (k := 83) rfl (.cons (k := 84) rfl (.cons (k := 85) rfl (.cons (k := 86) rfl (.cons (k := 87) rfl (.cons (k := 88) rfl (.cons (k := 89) rfl .nil)))))))))))))) (.cons (k := 0) rfl (.cons (k := 1) rfl (.cons (k := 104) rfl (.cons (k := 106) rfl .nil)))) ?_ ?_ ?_
            rotate_left 1
            ·
              intro hg90
              refine RL.gq rfl rfl (Yld.fieldAddr fo42_6 rfl) rfl ?_
              refine RL.gq rfl rfl (Yld.load1 (c := 106) Try.underlying3 rfl rfl rfl (by first | exact single_self _ _ | exact pset_self _ _ _ | assumption) rfl) rfl ?_
              refine RL.gq rfl rfl (Yld.fieldAddr fo42_6 rfl) rfl ?_
              refine RL.gq rfl rfl (Yld.load1 (c := 104) Try.underlying3 rfl rfl rfl (by first | exact single_self _ _ | exact pset_self _ _ _ | assumption) rfl) rfl ?_
              refine RL.gq rfl rfl (Yld.bin rfl rfl BinV.eql) rfl ?_
              refine RL.gq rfl rfl (by first | exact Yld.pickT rfl rfl | exact Yld.pickF rfl rfl) rfl ?_
              exact RL.nil (N.meet (.cons rfl (.cons rfl (.cons rfl (.cons rfl (.cons rfl (.cons rfl (.cons rfl (.cons rfl (.cons rfl (.cons rfl (.cons rfl (.cons rfl (.cons rfl (.cons rfl (.cons rfl .nil))))))))))))))) (.cons rfl (.cons rfl (.cons rfl (.cons rfl .nil)))))
            ·
              intro hg90
              refine RL.gskip rfl rfl rfl rfl ?_
              refine RL.gskip rfl rfl rfl rfl ?_
              refine RL.gskip rfl rfl rfl rfl ?_
              refine RL.gskip rfl rfl rfl rfl ?_
              refine RL.gskip rfl rfl rfl rfl ?_
              refine RL.gq rfl rfl (by first | exact Yld.pickT rfl rfl | exact Yld.pickF rfl rfl) rfl ?_
              exact RL.nil (N.meet (.cons rfl (.cons rfl (.cons rfl (.cons rfl (.cons rfl (.cons rfl (.cons rfl (.cons rfl (.cons rfl (.cons rfl (.cons rfl (.cons rfl (.cons rfl (.cons rfl (.cons rfl .nil))))))))))))))) (.cons rfl (.cons rfl (.cons rfl (.cons rfl .nil)))))
            refine RL.q (by first | exact Yld.pickT rfl rfl | exact Yld.pickF rfl rfl) rfl ?_
            exact RL.nil (N.meet (.cons rfl (.cons rfl (.cons rfl (.cons rfl (.cons rfl (.cons rfl (.cons rfl (.cons rfl (.cons rfl (.cons rfl (.cons rfl .nil))))))))))) (.cons rfl (.cons rfl (.cons rfl (.cons rfl .nil)))))
          ·
            intro hg86
            refine RL.gskip rfl rfl rfl rfl ?_
            refine RL.gskip rfl rfl rfl rfl ?_
            refine RL.gskip rfl rfl rfl rfl ?_
            refine RL.gskip rfl rfl rfl rfl ?_
            refine RL.gskipU rfl rfl rfl ?_
            refine RL.gskipU rfl rfl rfl ?_
            refine RL.gskipU rfl rfl rfl ?_
            refine RL.gskipU rfl rfl rfl ?_
            refine RL.gskipU rfl rfl rfl ?_
            refine RL.gskip rfl rfl rfl rfl ?_
            refine RL.q (by first | exact Yld.pickT rfl rfl | exact Yld.pickF rfl rfl) rfl ?_
            exact RL.nil (N.meet (.cons rfl (.cons rfl (.cons rfl (.cons rfl (.cons rfl (.cons rfl (.cons rfl (.cons rfl (.cons rfl (.cons rfl (.cons rfl .nil))))))))))) (.cons rfl (.cons rfl (.cons rfl (.cons rfl .nil)))))
          refine RL.q (Yld.move rfl) rfl ?_
          refine' RL.or (t := 98) (d := 117) 19 rfl (.cons (k := 0) rfl (.cons (k := 3) rfl (.cons (k := 4) rfl (.cons (k := 5) rfl (.cons (k := 6) rfl (.cons (k := 81) rfl (.cons (k := 82) rfl (.cons (k := 83) rfl (.cons (k := 84) rfl (.cons (k := 85) rfl (.cons (k := 97) rfl .nil))))))))))) (.cons (k := 0) rfl (.cons (k := 1) rfl (.cons (k := 104) rfl (.cons (k := 106) rfl .nil)))) ?_ ?_ ?_
          rotate_left 1
          ·
            intro hg98
            refine RL.gq rfl rfl (Yld.fieldAddr fo42_0 rfl) rfl ?_
            refine RL.gq rfl rfl (Yld.load1 (c := 106) Try.underlying3 rfl rfl rfl (by first | exact single_self _ _ | exact pset_self _ _ _ | assumption) rfl) rfl ?_
            refine RL.gq rfl rfl (Yld.fieldAddr fo42_0 rfl) rfl ?_
            refine RL.gq rfl rfl (Yld.load1 (c := 104) Try.underlying3 rfl rfl rfl (by first | exact single_self _ _ | exact pset_self _ _ _ | assumption) rfl) rfl ?_
            refine RL.gq rfl rfl (Yld.bin rfl rfl BinV.eql) rfl ?_
            refine RL.gq rfl rfl (Yld.move rfl) rfl ?_
            refine' RL.and (t := 104) (d := 116) 12 rfl (.cons (k := 0) rfl (.cons (k := 3) rfl (.cons (k := 4) rfl (.cons (k := 5) rfl (.cons (k := 6) rfl (.cons (k := 81) rfl (.cons (k := 82) rfl (.cons (k := 83) rfl (.cons (k := 84) rfl (.cons (k := 85) rfl (.cons (k := 97) rfl (.cons (k := 98) rfl (.cons (k := 99) rfl (.cons (k := 100) rfl (.cons (k := 101) rfl (.cons (k := 102) rfl (.cons (k := 103) rfl .nil))))))))))))))))) (.cons (k := 0) rfl (.cons (k := 1) rfl (.cons (k := 104) rfl (.cons (k := 106) rfl .nil)))) ?_ ?_ ?_
            rotate_left 1
            ·
              intro hg104
              refine RL.gq rfl rfl (Yld.loadW (c := 106) Try.underlying42 rfl sz42 rfl rfl (by first | exact single_self _ _ | exact pset_self _ _ _ | assumption) rfl) rfl ?_
              refine RL.gq rfl rfl (Yld.loadW (c := 104) Try.underlying42 rfl sz42 rfl rfl (by first | exact single_self _ _ | exact pset_self _ _ _ | assumption) rfl) rfl ?_
              refine RL.ge rfl rfl (Eff.call ent32 [] [] (.cons rfl (.cons rfl .nil)) (rprecedes_ct _ _) rfl rfl rfl rfl (by rintro _ _ ⟨_, rfl⟩; rfl)) rfl ?_
              rintro _ _ ⟨_, ⟨rfl, rfl⟩, rfl⟩
              refine RL.gq rfl rfl (by first | exact Yld.notD rfl | exact Yld.not rfl) rfl ?_
              refine RL.gq rfl rfl (Yld.move rfl) rfl ?_
              refine' RL.or (t := 109) (d := 115) 6 rfl (.cons (k := 0) rfl (.cons (k := 3) rfl (.cons (k := 4) rfl (.cons (k := 5) rfl (.cons (k := 6) rfl (.cons (k := 81) rfl (.cons (k := 82) rfl (.cons (k := 83) rfl (.cons (k := 84) rfl (.cons (k := 85) rfl (.cons (k := 97) rfl (.cons (k := 98) rfl (.cons (k := 99) rfl (.cons (k := 100) rfl (.cons (k := 101) rfl (.cons (k := 102) rfl (.cons (k := 103) rfl (.cons (k := 104) rfl (.cons (k := 105) rfl (.cons (k := 106) rfl (.cons (k := 107) rfl (.cons (k := 108) rfl .nil)))))))))))))))))))))) (.cons (k := 0) rfl (.cons (k := 1) rfl (.cons (k := 104) rfl (.cons (k := 106) rfl .nil)))) ?_ ?_ ?_
              rotate_left 1
              ·
                intro hg109
                refine RL.gq rfl rfl (Yld.fieldAddr fo42_1 rfl) rfl ?_
                refine RL.gq rfl rfl (Yld.load1 (c := 106) Try.underlying3 rfl rfl rfl (by first | exact single_self _ _ | exact pset_self _ _ _ | assumption) rfl) rfl ?_
                refine RL.gq rfl rfl (Yld.fieldAddr fo42_1 rfl) rfl ?_
                refine RL.gq rfl rfl (Yld.load1 (c := 104) Try.underlying3 rfl rfl rfl (by first | exact single_self _ _ | exact pset_self _ _ _ | assumption) rfl) rfl ?_
                refine RL.gq rfl rfl (Yld.bin rfl rfl BinV.geq) rfl ?_
                refine RL.gq rfl rfl (by first | exact Yld.pickT rfl rfl | exact Yld.pickF rfl rfl) rfl ?_
                exact RL.nil (N.meet (.cons rfl (.cons rfl (.cons rfl (.cons rfl (.cons rfl (.cons rfl (.cons rfl (.cons rfl (.cons rfl (.cons rfl (.cons rfl (.cons rfl (.cons rfl (.cons rfl (.cons rfl (.cons rfl (.cons rfl (.cons rfl (.cons rfl (.cons rfl (.cons rfl (.cons rfl (.cons rfl .nil))))))))))))))))))))))) (.cons rfl (.cons rfl (.cons rfl (.cons rfl .nil)))))
              ·
                intro hg109
                refine RL.gskip rfl rfl rfl rfl ?_
                refine RL.gskip rfl rfl rfl rfl ?_
                refine RL.gskip rfl rfl rfl rfl ?_
                refine RL.gskip rfl rfl rfl rfl ?_
                refine RL.gskip rfl rfl rfl rfl ?_
                refine RL.gq rfl rfl (by first | exact Yld.pickT rfl rfl | exact Yld.pickF rfl rfl) rfl ?_
                exact RL.nil (N.meet (.cons rfl (.cons rfl (.cons rfl (.cons rfl (.cons rfl (.cons rfl (.cons rfl (.cons rfl (.cons rfl (.cons rfl (.cons rfl (.cons rfl (.cons rfl (.cons rfl (.cons rfl (.cons rfl (.cons rfl (.cons rfl (.cons rfl (.cons rfl (.cons rfl (.cons rfl (.cons rfl .nil))))))))))))))))))))))) (.cons rfl (.cons rfl (.cons rfl (.cons rfl .nil)))))
              refine RL.gq rfl rfl (by first | exact Yld.pickT rfl rfl | exact Yld.pickF rfl rfl) rfl ?_
              exact RL.nil (N.meet (.cons rfl (.cons rfl (.cons rfl (.cons rfl (.cons rfl (.cons rfl (.cons rfl (.cons rfl (.cons rfl (.cons rfl (.cons rfl (.cons rfl (.cons rfl (.cons rfl (.cons rfl (.cons rfl (.cons rfl (.cons rfl .nil)))))))))))))))))) (.cons rfl (.cons rfl (.cons rfl (.cons rfl .nil)))))
            ·
              intro hg104
              refine RL.gskip rfl rfl rfl rfl ?_
              refine RL.gskip rfl rfl rfl rfl ?_
              refine RL.gskip rfl rfl rfl rfl ?_
              refine RL.gskip rfl rfl rfl rfl ?_
              refine RL.gskip rfl rfl rfl rfl ?_
              refine RL.gskipU rfl rfl rfl ?_
              refine RL.gskipU rfl rfl rfl ?_
              refine RL.gskipU rfl rfl rfl ?_
              refine RL.gskipU rfl rfl rfl ?_
              refine RL.gskipU rfl rfl rfl ?_
              refine RL.gskip rfl rfl rfl rfl ?_
              refine RL.gq rfl rfl (by first | exact Yld.pickT rfl rfl | exact Yld.pickF rfl rfl) rfl ?_
              exact RL.nil (N.meet (.cons rfl (.cons rfl (.cons rfl (.cons rfl (.cons rfl (.cons rfl (.cons rfl (.cons rfl (.cons rfl (.cons rfl (.cons rfl (.cons rfl (.cons rfl (.cons rfl (.cons rfl (.cons rfl (.cons rfl (.cons rfl .nil)))))))))))))))))) (.cons rfl (.cons rfl (.cons rfl (.cons rfl .nil)))))
            refine RL.q (by first | exact Yld.pickT rfl rfl | exact Yld.pickF rfl rfl) rfl ?_
            exact RL.nil (N.meet (.cons rfl (.cons rfl (.cons rfl (.cons rfl (.cons rfl (.cons rfl (.cons rfl (.cons rfl (.cons rfl (.cons rfl (.cons rfl (.cons rfl .nil)))))))))))) (.cons rfl (.cons rfl (.cons rfl (.cons rfl .nil)))))
          ·
            intro hg98
            refine RL.gskip rfl rfl rfl rfl ?_
            refine RL.gskip rfl rfl rfl rfl ?_
            refine RL.gskip rfl rfl rfl rfl ?_
            refine RL.gskip rfl rfl rfl rfl ?_
            refine RL.gskip rfl rfl rfl rfl ?_
            refine RL.gskip rfl rfl rfl rfl ?_
            refine RL.gskipU rfl rfl rfl ?_
            refine RL.gskipU rfl rfl rfl ?_
            refine RL.gskipU rfl rfl rfl ?_
            refine RL.gskipU rfl rfl rfl ?_
            refine RL.gskipU rfl rfl rfl ?_
            refine RL.gskipU rfl rfl rfl ?_
            refine RL.gskipU rfl rfl rfl ?_
            refine RL.gskipU rfl rfl rfl ?_
            refine RL.gskipU rfl rfl rfl ?_
            refine RL.gskipU rfl rfl rfl ?_
            refine RL.gskipU rfl rfl rfl ?_
            refine RL.gskip rfl rfl rfl rfl ?_
            refine RL.q (by first | exact Yld.pickT rfl rfl | exact Yld.pickF rfl rfl) rfl ?_
            exact RL.nil (N.meet (.cons rfl (.cons rfl (.cons rfl (.cons rfl (.cons rfl (.cons rfl (.cons rfl (.cons rfl (.cons rfl (.cons rfl (.cons rfl (.cons rfl .nil)))))))))))) (.cons rfl (.cons rfl (.cons rfl (.cons rfl .nil)))))
          refine RL.nil ?_
          refine N.next ?_
          refine W.keep (.cons (k := 0) rfl (.cons (k := 3) rfl (.cons (k := 4) rfl (.cons (k := 5) rfl (.cons (k := 117) rfl .nil))))) (.cons (k := 0) rfl (.cons (k := 1) rfl (.cons (k := 104) rfl (.cons (k := 106) rfl .nil)))) ?_
          first | refine W.condD rfl (fun hc117 => ?_) (fun hc117 => ?_) | (refine W.cond rfl (fun hc117 => ?_) (fun hc117 => ?_) <;> try simp only [Bool.or_eq_true, Bool.and_eq_true, Bool.not_eq_true', Bool.not_eq_false', decide_eq_true_eq, Bool.or_eq_false_iff, Bool.and_eq_false_iff, decide_eq_false_iff_not, beq_iff_eq, beq_eq_false_iff_ne, ne_eq, Decidable.not_not] at hc117)
          ·
            refine W.seq ?_
            refine W.region ?_
            refine RL.q (Yld.assign rfl) rfl ?_
            refine RL.nil ?_
            refine N.next ?_
            refine W.ret ?_
            refine N.block_ret ?_
            refine N.then_ret ?_
            refine N.then_ret ?_
            refine N.block_ret ?_
            refine N.then_ret ?_
            refine N.block_ret ?_
            refine N.then_ret ?_
            refine N.then_ret ?_
            refine N.block_ret ?_
            refine N.then_ret ?_
            exact N.retBy [1] (.cons (.tmp rfl) .nil) rfl rfl rfl rfl ⟨⟨false, rfl, notV ha fun ⟨h1, h2, h3, h4⟩ => by have h := h3 k b (by omega) hb; simp only [Pair, Prec] at *; omega⟩, rfl⟩
          ·
            refine W.skip ?_
            refine N.block_normal ?_
            refine N.next ?_
            refine W.region ?_
            refine RL.q (Yld.move rfl) rfl ?_
            refine RL.q (Yld.bin rfl rfl (by first | exact BinV.add (by omega) (by omega) | exact BinV.addW)) rfl ?_
            refine RL.q (Yld.assign rfl) rfl ?_
            refine RL.nil ?_
            exact N.fam (k + 1) ⟨⟨by omega, upTo hK hb (by simp only [Pair, Prec] at *; omega)⟩, by omega⟩ (.cons rfl (.cons rfl (.cons rfl (.cons rfl .nil)))) (.cons rfl (.cons rfl (.cons rfl .nil)))
        ·
          refine W.exit ?_
          refine N.then_exit ?_
          refine N.then_exit ?_
          refine N.block_eq ?_
          refine N.next ?_
          refine W.keep (.cons (k := 0) rfl (.cons (k := 3) rfl (.cons (k := 4) rfl .nil))) (.cons (k := 0) rfl (.cons (k := 1) rfl (.cons (k := 104) rfl .nil))) ?_
          refine W.seq ?_
          refine W.region ?_
          refine RL.q (Yld.assign rfl) rfl ?_
          refine RL.nil ?_
          refine N.next ?_
          refine W.block ?_
          refine W.loop (ι := Nat) (fun m => m ≤ (l.map O.c).length ∧ ∀ (k0 : Nat) b, k0 < m → l[k0]? = some b → b.inv ≠ a.rsp) (fun m => [(0, .slice p (l.map O.c).length c), (3, .int .i64 (i : Nat)), (4, .pointer (some ⟨b4, 0, none⟩)), (7, .int .i64 (m : Nat))]) (fun _ => [(0, F), (1, H1), (104, single b4 (.cells [.int .i64 a.cl, .int .i64 a.nu, .int .i64 a.gr, .int .i64 a.kd, .string a.key, .int .i64 a.val, .int .i64 a.old, .int .i64 a.code, .bool a.fnd, .int .i64 a.rv, .int .i64 a.inv, .int .i64 a.rsp].toArray 42 (0, 0)))]) (fun m => (l.map O.c).length - m) 0 ?_ ?_ ?_ ?_
          · exact ⟨Nat.zero_le _, upTo0⟩
          · exact (.cons rfl (.cons rfl (.cons rfl (.cons rfl .nil))))
          · exact (.cons rfl (.cons rfl (.cons rfl .nil)))
          rintro m ⟨hm, hT⟩
          refine W.seq ?_
          refine W.seq ?_
          refine W.region ?_
          refine RL.q (Yld.move rfl) rfl ?_
          refine RL.q (Yld.move rfl) rfl ?_
          refine RL.q (Yld.lenSl Try.underlying22 rfl) rfl ?_
          refine RL.q (Yld.bin rfl rfl BinV.lss) rfl ?_
          refine RL.nil ?_
          refine N.next ?_
          first | refine W.condD rfl (fun hc121 => ?_) (fun hc121 => ?_) | (refine W.cond rfl (fun hc121 => ?_) (fun hc121 => ?_) <;> try simp only [Bool.or_eq_true, Bool.and_eq_true, Bool.not_eq_true', Bool.not_eq_false', decide_eq_true_eq, Bool.or_eq_false_iff, Bool.and_eq_false_iff, decide_eq_false_iff_not, beq_iff_eq, beq_eq_false_iff_ne, ne_eq, Decidable.not_not] at hc121)
          ·
            obtain ⟨y, hy⟩ : ∃ y, l[m]? = some y := ⟨_, List.getElem?_eq_getElem (show m < l.length by simp only [List.length_map] at *; omega)⟩
            have hly : (l.map O.c)[m]? = some y.c := by simp [hy]
            refine W.skip ?_
            refine N.next ?_
            refine W.keep (.cons (k := 0) rfl (.cons (k := 3) rfl (.cons (k := 4) rfl (.cons (k := 7) rfl .nil)))) (.cons (k := 0) rfl (.cons (k := 1) rfl (.cons (k := 104) rfl .nil))) ?_
            refine W.seq ?_
            refine W.block ?_
            refine W.seq ?_
            refine W.draw (.q 0 (.q 1 (.q 2 (.q 3 (.q 4 (.q 5 (.q 6 (.q 7 .done)))))))) (.cons (k := 0) rfl (.cons (k := 1) rfl (.cons (k := 104) rfl .nil))) mix (by kernel_rfl) (by kernel_rfl) ?_
            refine DL.q rfl (Yld.move rfl) rfl ?_
            refine DL.q rfl (Yld.move rfl) rfl ?_
            refine DL.q rfl (Yld.indexRow Try.underlying22 sz42 rfl rfl hS (by first | rfl | omega | (simp; done) | (simp; omega)) (by omega) (by first | omega | (simp; done) | (simp; omega))) rfl ?_
            refine DL.q rfl (Yld.fieldAddr fo42_5 rfl) rfl ?_
            refine DL.q rfl (Yld.loadRowF (cl := 1) (j := 10) Try.underlying3 rfl rfl rfl hS hly rfl) rfl ?_
            refine DL.q rfl (Yld.fieldAddr fo42_6 rfl) rfl ?_
            refine DL.q rfl (Yld.load1 (c := 104) Try.underlying3 rfl rfl rfl (by first | exact single_self _ _ | exact pset_self _ _ _ | assumption) rfl) rfl ?_
            refine DL.q rfl (Yld.bin rfl rfl BinV.eql) rfl ?_
            refine DL.done ?_
            refine N.next ?_
            refine W.keep (.cons (k := 0) rfl (.cons (k := 3) rfl (.cons (k := 4) rfl (.cons (k := 7) rfl (.cons (k := 131) rfl .nil))))) (.cons (k := 0) rfl (.cons (k := 1) rfl (.cons (k := 104) rfl .nil))) ?_
            first | refine W.condD rfl (fun hc131 => ?_) (fun hc131 => ?_) | (refine W.cond rfl (fun hc131 => ?_) (fun hc131 => ?_) <;> try simp only [Bool.or_eq_true, Bool.and_eq_true, Bool.not_eq_true', Bool.not_eq_false', decide_eq_true_eq, Bool.or_eq_false_iff, Bool.and_eq_false_iff, decide_eq_false_iff_not, beq_iff_eq, beq_eq_false_iff_ne, ne_eq, Decidable.not_not] at hc131)
            ·
              refine W.seq ?_
              refine W.region ?_
              refine RL.q (Yld.assign rfl) rfl ?_
              refine RL.nil ?_
              refine N.next ?_
              refine W.ret ?_
              refine N.block_ret ?_
              refine N.then_ret ?_
              refine N.then_ret ?_
              refine N.block_ret ?_
              refine N.block_ret ?_
              refine N.then_ret ?_
              refine N.then_ret ?_
              refine N.block_ret ?_
              refine N.then_ret ?_
              exact N.retBy [1] (.cons (.tmp rfl) .nil) rfl rfl rfl rfl ⟨⟨false, rfl, notV ha fun ⟨h1, h2, h3, h4⟩ => h4 m y hy hc131⟩, rfl⟩
            ·
              refine W.skip ?_
              refine N.block_normal ?_
              refine N.next ?_
              refine W.region ?_
              refine RL.q (Yld.move rfl) rfl ?_
              refine RL.q (Yld.bin rfl rfl (by first | exact BinV.add (by omega) (by omega) | exact BinV.addW)) rfl ?_
              refine RL.q (Yld.assign rfl) rfl ?_
              refine RL.nil ?_
              exact N.fam (m + 1) ⟨⟨by omega, upTo hT hy hc131⟩, by omega⟩ (.cons rfl (.cons rfl (.cons rfl (.cons rfl .nil)))) (.cons rfl (.cons rfl (.cons rfl .nil)))
          ·
            refine W.exit ?_
            refine N.then_exit ?_
            refine N.then_exit ?_
            refine N.block_eq ?_
            refine N.block_normal ?_
            refine N.next ?_
            refine W.keep (.cons (k := 0) rfl (.cons (k := 3) rfl .nil)) (.cons (k := 0) rfl (.cons (k := 1) rfl (.cons (k := 104) rfl .nil))) ?_
            refine W.region ?_
            refine RL.q (Yld.move rfl) rfl ?_
            refine RL.q (Yld.bin rfl rfl (by first | exact BinV.add (by omega) (by omega) | exact BinV.addW)) rfl ?_
            refine RL.q (Yld.assign rfl) rfl ?_
            refine RL.nil ?_
            exact N.fam (i + 1) ⟨⟨by omega, upTo hI ha ⟨hF, fun z1 hz1 => by rw [hz] at hz1; cases hz1; omega, fun k0 b hk0 hb => hK k0 b (by omega) hb, upToLen (by simp only [List.length_map] at *; omega) hT⟩⟩, by omega⟩ (.cons rfl (.cons rfl .nil)) (.cons rfl (.cons rfl .nil))
  ·
    refine W.exit ?_
    refine N.then_exit ?_
    refine N.then_exit ?_
    refine N.block_eq ?_
    refine N.next ?_
    refine W.keep .nil (.cons (k := 0) rfl (.cons (k := 1) rfl .nil)) ?_
    refine W.seq ?_
    refine W.region ?_
    refine RL.q (Yld.assign rfl) rfl ?_
    refine RL.nil ?_
    refine N.next ?_
    refine W.ret ?_
    exact N.retBy [1] (.cons (.tmp rfl) .nil) rfl rfl rfl rfl ⟨⟨true, rfl, by simp only [true_iff]; exact upToLen (by simp only [List.length_map] at *; omega) hI⟩, rfl⟩

structure HistLaw.TI where
  i : Nat
  es : Array MapEntry
  ck : Nat
  m : List (Int × Value)
def HistLaw.TOK (l : List O) (i : Nat) (m : List (Int × Value)) : Prop := (∀ x v, mget m x = some v → v = .bool true) ∧ ∀ x, (mget m x).isSome = true ↔ Tm l i x
theorem HistLaw.TOK.get {l : List O} {i : Nat} {m : List (Int × Value)} (h : TOK l i m) (x : Int) : (mget m x).getD (.bool false) = .bool (mget m x).isSome := by
  cases e : mget m x with
  | none => rfl
  | some v => rw [h.1 x v e]; rfl
theorem HistLaw.TOK.nil {l : List O} : TOK l 0 [] := ⟨fun x v h => by simp [mget] at h, fun x => by simp [mget, Tm]⟩
theorem HistLaw.TOK.set {l : List O} {i : Nat} {a : O} {m : List (Int × Value)} (h : TOK l i m) (ha : l[i]? = some a) (h0 : 0 ≤ a.rsp) : TOK l (i + 1) (mset m a.rsp (.bool true)) := by
  refine ⟨fun x v hx => ?_, fun x => ?_⟩
  · rw [mget_mset] at hx
    split at hx
    · cases hx; rfl
    · exact h.1 x v hx
  · rw [mget_mset, Tm.succ ha, ← h.2 x]
    by_cases e : a.rsp = x
    · subst e; simp [h0]
    · simp [e]
theorem HistLaw.TOK.keep {l : List O} {i : Nat} {a : O} {m : List (Int × Value)} (h : TOK l i m) (ha : l[i]? = some a) (h0 : ¬ 0 ≤ a.rsp) : TOK l (i + 1) m := ⟨h.1, fun x => by rw [Tm.succ ha, ← h.2 x]; simp [h0]⟩
theorem HistLaw.hv_end {l : List O} {i : Nat} {m : List (Int × Value)} {b : Bool} (hi : i = l.length) (hT : TOK l i m) (hI : ∀ (i0 : Nat) a, i0 < i → l[i0]? = some a → HOK l i0 a) (hq : b = true ↔ ∃ (i : Nat) (a : O), l[i]? = some a ∧ (mget m a.inv).isSome = true) :
    (!b) = true ↔ Valid l := by
  subst hi
  have hI2 := upToLen (Nat.le_refl _) hI
  constructor
  · intro h
    refine hvalid hI2 fun i a ha hm => ?_
    have := hq.2 ⟨i, a, ha, (hT.2 _).2 hm⟩
    rw [this] at h; cases h
  · intro hv
    cases hb : b with
    | false => rfl
    | true =>
      obtain ⟨i, a, ha, h⟩ := hq.1 hb
      exact absurd ((hT.2 _).1 h) (hv.notm ha)

set_option maxRecDepth 100000 in
set_option maxHeartbeats 400000 in
theorem validC_ct (bt bm : Nat) (es : Array MapEntry) (ck : Nat) (m : List (Int × Value)) (hM : MapP (fun a : Int => Value.int .i64 a) es ck m) (hT : ∀ x, (mget m x).getD (.bool false) = .bool (mget m x).isSome) (a : O) : Ct Try.prog 45 [.agg [.int .i64 a.cl, .int .i64 a.nu, .int .i64 a.gr, .int .i64 a.kd, .string a.key, .int .i64 a.val, .int .i64 a.old, .int .i64 a.code, .bool a.fnd, .int .i64 a.rv, .int .i64 a.inv, .int .i64 a.rsp].toArray, .pointer (some ⟨bt, 0, none⟩)] [single bt (.cells [.map (some bm)].toArray 73 (0, 0)), single bm (.map es ck)] (fun v Hs => v = .bool (mget m a.inv).isSome ∧ Hs = [single bt (.cells [.map (some bm)].toArray 73 (0, 0)), single bm (.map es ck)]) := by
  refine Ct.body Try.func45 rfl Try.ntmps45 rfl ?_
  intro E F
  refine W.seq ?_
  refine W.region ?_
  refine RL.e (Eff.box 102 _ rfl rfl) rfl ?_
  rintro _ _ ⟨b2, rfl, rfl⟩
  refine RL.q (Yld.assign rfl) rfl ?_
  refine RL.nil ?_
  refine N.next ?_
  refine W.seq ?_
  refine W.region ?_
  refine RL.q (Yld.load1 (c := 1) Try.underlying73 rfl rfl rfl (by first | exact single_self _ _ | exact pset_self _ _ _ | assumption) rfl) rfl ?_
  refine RL.q (Yld.fieldAddr fo42_5 rfl) rfl ?_
  refine RL.q (Yld.load1 (c := 102) Try.underlying3 rfl rfl rfl (by first | exact single_self _ _ | exact pset_self _ _ _ | assumption) rfl) rfl ?_
  refine RL.q (Yld.eq (v' := .bool (mget m a.inv).isSome) (Yld.lookup (c := 2) Try.underlying73 (keyInt Try.underlying3) zv4 rfl rfl rfl (by assumption)) (hT _)) rfl ?_
  refine RL.q (Yld.assign rfl) rfl ?_
  refine RL.nil ?_
  refine N.next ?_
  refine W.keep (.cons (k := 3) rfl .nil) (.cons (k := 0) rfl (.cons (k := 1) rfl (.cons (k := 2) rfl (.cons (k := 102) rfl .nil)))) ?_
  refine W.ret ?_
  exact N.retBy [1, 2] (.cons (.tmp rfl) .nil) rfl rfl rfl rfl ⟨rfl, rfl⟩

set_option maxRecDepth 100000 in
set_option maxHeartbeats 400000 in
theorem indexFunc_ct (l : List O) (H1 : PH) (p : Option Addr) (c : Nat) (hS : Sl H1 p c 12 (l.map O.c)) (f : Nat) (cap : List Value) (G1 G2 : PH) (q : O → Bool) (hent : Ent Try.prog f) (hf : ∀ a : O, Ct Try.prog f (.agg [.int .i64 a.cl, .int .i64 a.nu, .int .i64 a.gr, .int .i64 a.kd, .string a.key, .int .i64 a.val, .int .i64 a.old, .int .i64 a.code, .bool a.fnd, .int .i64 a.rv, .int .i64 a.inv, .int .i64 a.rsp].toArray :: cap) [G1, G2] (fun v Hs => v = .bool (q a) ∧ Hs = [G1, G2])) : Ct Try.prog 55 [.slice p (l.map O.c).length c, .func (.func f) [].toArray cap.toArray] [H1, G1, G2] (fun v Hs => (∃ r : Int, v = .int .i64 r ∧ (0 ≤ r ↔ ∃ (i : Nat) (a : O), l[i]? = some a ∧ q a = true)) ∧ Hs = [H1, G1, G2]) := by
  refine Ct.body Try.func55 rfl Try.ntmps55 rfl ?_
  intro E F
  have hmax := hS.len_le
  simp only [maxLen] at hmax
  refine W.seq ?_
  refine W.region ?_
  refine RL.q (Yld.assign rfl) rfl ?_
  refine RL.nil ?_
  refine N.next ?_
  refine W.seq ?_
  refine W.seq ?_
  refine W.region ?_
  refine RL.q (Yld.move rfl) rfl ?_
  refine RL.q (Yld.lenSl Try.underlying22 rfl) rfl ?_
  refine RL.q (Yld.move rfl) rfl ?_
  refine RL.nil ?_
  refine N.next ?_
  refine W.block ?_
  refine W.loop (ι := Nat) (fun j => j ≤ (l.map O.c).length ∧ ∀ (i0 : Nat) a, i0 < j → l[i0]? = some a → q a = false) (fun j => [(0, .slice p (l.map O.c).length c), (1, .func (.func f) [].toArray cap.toArray), (7, .int .i64 ((l.map O.c).length : Nat)), (8, .int .i64 (j : Nat))]) (fun _ => [(0, F), (1, H1), (2, G1), (3, G2)]) (fun j => (l.map O.c).length - j) 0 ?_ ?_ ?_ ?_
  · exact ⟨Nat.zero_le _, upTo0⟩
  · exact (.cons rfl (.cons rfl (.cons rfl (.cons rfl .nil))))
  · exact (.cons rfl (.cons rfl (.cons rfl (.cons rfl .nil))))
  rintro j ⟨hj, hI⟩
  refine W.seq ?_
  refine W.region ?_
  refine RL.q (Yld.bin rfl rfl BinV.lss) rfl ?_
  refine RL.nil ?_
  refine N.next ?_
  refine W.seq ?_
  first | refine W.condD rfl (fun hc9 => ?_) (fun hc9 => ?_) | (refine W.cond rfl (fun hc9 => ?_) (fun hc9 => ?_) <;> try simp only [Bool.or_eq_true, Bool.and_eq_true, Bool.not_eq_true', Bool.not_eq_false', decide_eq_true_eq, Bool.or_eq_false_iff, Bool.and_eq_false_iff, decide_eq_false_iff_not, beq_iff_eq, beq_eq_false_iff_ne, ne_eq, Decidable.not_not] at hc9)
  ·
    obtain ⟨a, ha⟩ : ∃ a, l[j]? = some a := ⟨_, List.getElem?_eq_getElem (show j < l.length by simp only [List.length_map] at *; omega)⟩
    have hla : (l.map O.c)[j]? = some a.c := by simp [ha]
    refine W.skip ?_
    refine N.next ?_
    refine W.seq ?_
    refine W.block ?_
    refine W.seq ?_
    refine W.region ?_
    refine RL.q (Yld.move rfl) rfl ?_
    refine RL.q (Yld.assign rfl) rfl ?_
    refine RL.nil ?_
    refine N.next ?_
    refine W.seq ?_
    refine W.region ?_
    refine RL.q (Yld.move rfl) rfl ?_
    refine RL.q (Yld.move rfl) rfl ?_
    refine RL.q (Yld.move rfl) rfl ?_
    refine RL.q (Yld.indexRow Try.underlying22 sz42 rfl rfl hS (by first | rfl | omega | (simp; done) | (simp; omega)) (by omega) (by first | omega | (simp; done) | (simp; omega))) rfl ?_
    refine RL.q (Yld.eq (v' := .agg [.int .i64 a.cl, .int .i64 a.nu, .int .i64 a.gr, .int .i64 a.kd, .string a.key, .int .i64 a.val, .int .i64 a.old, .int .i64 a.code, .bool a.fnd, .int .i64 a.rv, .int .i64 a.inv, .int .i64 a.rsp].toArray) (Yld.loadRow (cl := 1) Try.underlying42 rfl sz42 rfl rfl hS hla) rfl) rfl ?_
    refine RL.e (Eff.callV hent [2, 3] [2, 3] rfl (.cons rfl .nil) (hf a) rfl rfl rfl rfl (by rintro _ _ ⟨_, rfl⟩; rfl)) rfl ?_
    rintro _ _ ⟨_, ⟨rfl, rfl⟩, rfl⟩
    refine RL.nil ?_
    refine N.next ?_
    refine W.keep (.cons (k := 0) rfl (.cons (k := 1) rfl (.cons (k := 5) rfl (.cons (k := 7) rfl (.cons (k := 8) rfl (.cons (k := 16) rfl .nil)))))) (.cons (k := 0) rfl (.cons (k := 1) rfl (.cons (k := 2) rfl (.cons (k := 3) rfl .nil)))) ?_
    first | refine W.condD rfl (fun hc16 => ?_) (fun hc16 => ?_) | (refine W.cond rfl (fun hc16 => ?_) (fun hc16 => ?_) <;> try simp only [Bool.or_eq_true, Bool.and_eq_true, Bool.not_eq_true', Bool.not_eq_false', decide_eq_true_eq, Bool.or_eq_false_iff, Bool.and_eq_false_iff, decide_eq_false_iff_not, beq_iff_eq, beq_eq_false_iff_ne, ne_eq, Decidable.not_not] at hc16)
    ·
      refine W.seq ?_
      refine W.region ?_
      refine RL.q (Yld.move rfl) rfl ?_
      refine RL.q (Yld.assign rfl) rfl ?_
      refine RL.nil ?_
      refine N.next ?_
      refine W.ret ?_
      refine N.block_ret ?_
      refine N.then_ret ?_
      refine N.then_ret ?_
      refine N.block_ret ?_
      refine N.then_ret ?_
      exact N.retBy [1, 2, 3] (.cons (.tmp rfl) .nil) rfl rfl rfl rfl ⟨⟨_, rfl, ⟨fun _ => ⟨j, a, ha, hc16⟩, fun _ => by omega⟩⟩, rfl⟩
    ·
      refine W.skip ?_
      refine N.block_normal ?_
      refine N.next ?_
      refine W.region ?_
      refine RL.q (Yld.bin rfl rfl (by first | exact BinV.add (by omega) (by omega) | exact BinV.addW)) rfl ?_
      refine RL.q (Yld.move rfl) rfl ?_
      refine RL.nil ?_
      exact N.fam (j + 1) ⟨⟨by omega, upTo hI ha (by simpa using hc16)⟩, by omega⟩ (.cons rfl (.cons rfl (.cons rfl (.cons rfl .nil)))) (.cons rfl (.cons rfl (.cons rfl (.cons rfl .nil))))
  ·
    refine W.exit ?_
    refine N.then_exit ?_
    refine N.then_exit ?_
    refine N.block_eq ?_
    refine N.next ?_
    refine W.keep .nil (.cons (k := 0) rfl (.cons (k := 1) rfl (.cons (k := 2) rfl (.cons (k := 3) rfl .nil)))) ?_
    refine W.seq ?_
    refine W.region ?_
    refine RL.q (Yld.assign rfl) rfl ?_
    refine RL.nil ?_
    refine N.next ?_
    refine W.ret ?_
    exact N.retBy [1, 2, 3] (.cons (.tmp rfl) .nil) rfl rfl rfl rfl ⟨⟨_, rfl, ⟨fun h => absurd h (by omega), fun ⟨i0, a, h1, h2⟩ => by have := upToLen (by simp only [List.length_map] at *; omega) hI i0 a h1; rw [h2] at this; cases this⟩⟩, rfl⟩

set_option maxRecDepth 100000 in
set_option maxHeartbeats 400000 in
theorem containsFunc_ct (l : List O) (H1 : PH) (p : Option Addr) (c : Nat) (hS : Sl H1 p c 12 (l.map O.c)) (f : Nat) (cap : List Value) (G1 G2 : PH) (q : O → Bool) (hent : Ent Try.prog f) (hf : ∀ a : O, Ct Try.prog f (.agg [.int .i64 a.cl, .int .i64 a.nu, .int .i64 a.gr, .int .i64 a.kd, .string a.key, .int .i64 a.val, .int .i64 a.old, .int .i64 a.code, .bool a.fnd, .int .i64 a.rv, .int .i64 a.inv, .int .i64 a.rsp].toArray :: cap) [G1, G2] (fun v Hs => v = .bool (q a) ∧ Hs = [G1, G2])) : Ct Try.prog 44 [.slice p (l.map O.c).length c, .func (.func f) [].toArray cap.toArray] [H1, G1, G2] (fun v Hs => (∃ b, v = .bool b ∧ (b = true ↔ ∃ (i : Nat) (a : O), l[i]? = some a ∧ q a = true)) ∧ Hs = [H1, G1, G2]) := by
  refine Ct.body Try.func44 rfl Try.ntmps44 rfl ?_
  intro E F
  refine W.seq ?_
  refine W.region ?_
  refine RL.q (Yld.assign rfl) rfl ?_
  refine RL.nil ?_
  refine N.next ?_
  refine W.seq ?_
  refine W.region ?_
  refine RL.q (Yld.move rfl) rfl ?_
  refine RL.q (Yld.move rfl) rfl ?_
  refine RL.e (Eff.call ent55 [1, 2, 3] [1, 2, 3] (.cons rfl (.cons rfl .nil)) (indexFunc_ct _ _ _ _ hS _ _ _ _ _ hent hf) rfl rfl rfl rfl (by rintro _ _ ⟨_, rfl⟩; rfl)) rfl ?_
  rintro _ _ ⟨_, ⟨⟨r, rfl, hr⟩, rfl⟩, rfl⟩
  refine RL.q (Yld.bin rfl rfl BinV.geq) rfl ?_
  refine RL.q (Yld.assign rfl) rfl ?_
  refine RL.nil ?_
  refine N.next ?_
  refine W.keep (.cons (k := 4) rfl .nil) (.cons (k := 0) rfl (.cons (k := 1) rfl (.cons (k := 2) rfl (.cons (k := 3) rfl .nil)))) ?_
  refine W.ret ?_
  exact N.retBy [1, 2, 3] (.cons (.tmp rfl) .nil) rfl rfl rfl rfl ⟨⟨_, rfl, by rw [decide_eq_true_eq]; exact hr⟩, rfl⟩

set_option maxRecDepth 100000 in
set_option maxHeartbeats 1600000 in
theorem hvalid_ct (l : List O) (H1 : PH) (p : Option Addr) (c : Nat) (hS : Sl H1 p c 12 (l.map O.c)) : Ct Try.prog 25 [.slice p (l.map O.c).length c] [H1] (fun v Hs => (∃ b, v = .bool b ∧ (b = true ↔ Valid l)) ∧ Hs = [H1]) := by
  refine Ct.body Try.func25 rfl Try.ntmps25 rfl ?_
  intro E F
  have hmax := hS.len_le
  simp only [maxLen] at hmax
  refine W.seq ?_
  refine W.region ?_
  refine RL.q (Yld.assign rfl) rfl ?_
  refine RL.nil ?_
  refine N.next ?_
  refine W.seq ?_
  refine W.region ?_
  refine RL.e (Eff.makeMap 108) rfl ?_
  rintro _ _ ⟨b8, rfl, rfl⟩
  refine RL.e (Eff.alloc 103 zc73) rfl ?_
  rintro _ _ ⟨b3, rfl, rfl⟩
  refine RL.e0 (Eff.storeS (c := 103) _ sz73 rfl rfl rfl rfl rfl rfl rfl (by (try simp only [putAt, List.take, List.drop, List.nil_append, List.cons_append, List.append_nil, List.length_cons, List.length_nil, Nat.add_zero, Nat.zero_add, Nat.reduceAdd]); rfl)) ?_
  rintro _ _ rfl
  refine RL.nil ?_
  refine N.next ?_
  refine W.seq ?_
  refine W.seq ?_
  refine W.region ?_
  refine RL.q (Yld.move rfl) rfl ?_
  refine RL.q (Yld.lenSl Try.underlying22 rfl) rfl ?_
  refine RL.q (Yld.move rfl) rfl ?_
  refine RL.nil ?_
  refine N.next ?_
  refine W.block ?_
  refine W.loop (ι := TI) (fun x => x.i ≤ (l.map O.c).length ∧ MapP (fun a : Int => Value.int .i64 a) x.es x.ck x.m ∧ TOK l x.i x.m ∧ ∀ (i0 : Nat) a, i0 < x.i → l[i0]? = some a → HOK l i0 a) (fun x => [(0, .slice p (l.map O.c).length c), (3, .pointer (some ⟨b3, 0, none⟩)), (9, .slice p (l.map O.c).length c), (10, .int .i64 ((l.map O.c).length : Nat)), (11, .int .i64 (x.i : Nat))]) (fun x => [(0, F), (1, H1), (103, single b3 (.cells [.map (some b8)].toArray 73 (0, 0))), (108, single b8 (.map x.es x.ck))]) (fun x => (l.map O.c).length - x.i) ⟨0, #[], 0, []⟩ ?_ ?_ ?_ ?_
  · exact ⟨Nat.zero_le _, MapP.empty _, TOK.nil, upTo0⟩
  · exact (.cons rfl (.cons rfl (.cons rfl (.cons rfl (.cons rfl .nil)))))
  · exact (.cons rfl (.cons rfl (.cons rfl (.cons rfl .nil))))
  rintro x ⟨hi, hM, hT, hI⟩
  refine W.seq ?_
  refine W.region ?_
  refine RL.q (Yld.bin rfl rfl BinV.lss) rfl ?_
  refine RL.nil ?_
  refine N.next ?_
  refine W.seq ?_
  first | refine W.condD rfl (fun hc12 => ?_) (fun hc12 => ?_) | (refine W.cond rfl (fun hc12 => ?_) (fun hc12 => ?_) <;> try simp only [Bool.or_eq_true, Bool.and_eq_true, Bool.not_eq_true', Bool.not_eq_false', decide_eq_true_eq, Bool.or_eq_false_iff, Bool.and_eq_false_iff, decide_eq_false_iff_not, beq_iff_eq, beq_eq_false_iff_ne, ne_eq, Decidable.not_not] at hc12)
  ·
    obtain ⟨a, ha⟩ : ∃ a, l[x.i]? = some a := ⟨_, List.getElem?_eq_getElem (show x.i < l.length by simp only [List.length_map] at *; omega)⟩
    have hla : (l.map O.c)[x.i]? = some a.c := by simp [ha]
    obtain ⟨z, hz⟩ : ∃ z, l[0]? = some z := ⟨_, List.getElem?_eq_getElem (show 0 < l.length by simp only [List.length_map] at *; omega)⟩
    have hlz : (l.map O.c)[0]? = some z.c := by simp [hz]
    obtain ⟨y0, hy0⟩ : ∃ y0, l[x.i - 1]? = some y0 := ⟨_, List.getElem?_eq_getElem (show x.i - 1 < l.length by simp only [List.length_map] at *; omega)⟩
    have hly0 : (l.map O.c)[((x.i : Int) - 1).toNat]? = some y0.c := by rw [show ((x.i : Int) - 1).toNat = x.i - 1 by omega]; simp [hy0]
    refine W.skip ?_
    refine N.next ?_
    refine W.seq ?_
    refine W.block ?_
    refine W.seq ?_
    refine W.region ?_
    refine RL.q (Yld.move rfl) rfl ?_
    refine RL.q (Yld.indexRow Try.underlying22 sz42 rfl rfl hS (by first | rfl | omega | (simp; done) | (simp; omega)) (by omega) (by first | omega | (simp; done) | (simp; omega))) rfl ?_
    refine RL.q (Yld.eq (v' := .agg [.int .i64 a.cl, .int .i64 a.nu, .int .i64 a.gr, .int .i64 a.kd, .string a.key, .int .i64 a.val, .int .i64 a.old, .int .i64 a.code, .bool a.fnd, .int .i64 a.rv, .int .i64 a.inv, .int .i64 a.rsp].toArray) (Yld.loadRow (cl := 1) Try.underlying42 rfl sz42 rfl rfl hS hla) rfl) rfl ?_
    refine RL.e (Eff.alloc 105 zc42) rfl ?_
    rintro _ _ ⟨b5, rfl, rfl⟩
    refine RL.q (Yld.assign rfl) rfl ?_
    refine RL.e0 (Eff.storeS (c := 105) _ sz42 rfl rfl rfl rfl rfl rfl rfl (by (try simp only [putAt, List.take, List.drop, List.nil_append, List.cons_append, List.append_nil, List.length_cons, List.length_nil, Nat.add_zero, Nat.zero_add, Nat.reduceAdd]); rfl)) ?_
    rintro _ _ rfl
    refine RL.nil ?_
    refine N.next ?_
    refine W.keep (.cons (k := 0) rfl (.cons (k := 3) rfl (.cons (k := 4) rfl (.cons (k := 5) rfl (.cons (k := 9) rfl (.cons (k := 10) rfl (.cons (k := 11) rfl .nil))))))) (.cons (k := 0) rfl (.cons (k := 1) rfl (.cons (k := 103) rfl (.cons (k := 105) rfl (.cons (k := 108) rfl .nil))))) ?_
    refine W.seq ?_
    refine W.seq ?_
    refine W.draw (.q 0 (.one 1 (.q 2 (.q 3 (.q 4 (.q 5 (.q 6 (.q 7 (.q 8 (.q 9 (.q 10 (.q 11 (.q 12 (.q 13 (.q 14 (.q 15 (.q 16 (.q 17 (.q 18 (.q 19 (.q 20 (.q 21 (.q 22 (.q 23 (.q 24 (.q 25 (.q 26 (.q 27 (.q 28 (.q 29 (.q 30 (.q 31 (.q 32 .done))))))))))))))))))))))))))))))))) (.cons (k := 0) rfl (.cons (k := 1) rfl (.cons (k := 103) rfl (.cons (k := 105) rfl (.cons (k := 108) rfl .nil))))) mix (by kernel_rfl) (by kernel_rfl) ?_
    refine DL.q rfl (Yld.loadW (c := 105) Try.underlying42 rfl sz42 rfl rfl (by first | exact single_self _ _ | exact pset_self _ _ _ | assumption) rfl) rfl ?_
    refine DL.one rfl (Eff.call ent42 [] [] (.cons rfl .nil) (formed_ct _) rfl rfl rfl rfl (by rintro _ _ ⟨_, rfl⟩; rfl)) rfl (by rintro _ _ ⟨_, ⟨rfl, rfl⟩, rfl⟩; repeat (first | exact .nil | refine .cons rfl ?_)) ?_
    rintro _ _ ⟨_, ⟨rfl, rfl⟩, rfl⟩
    refine DL.q rfl (by first | exact Yld.notD rfl | exact Yld.not rfl) rfl ?_
    refine DL.q rfl (Yld.move rfl) rfl ?_
    refine' DL.or (t := 19) (d := 27) 8 rfl (.cons (k := 0) rfl (.cons (k := 3) rfl (.cons (k := 4) rfl (.cons (k := 5) rfl (.cons (k := 9) rfl (.cons (k := 10) rfl (.cons (k := 11) rfl (.cons (k := 16) rfl (.cons (k := 17) rfl (.cons (k := 18) rfl .nil)))))))))) (.cons (k := 0) rfl (.cons (k := 1) rfl (.cons (k := 103) rfl (.cons (k := 105) rfl (.cons (k := 108) rfl .nil))))) ?_ ?_ ?_
    rotate_left 1
    ·
      intro hg19
      refine DL.gq rfl rfl rfl (Yld.fieldAddr fo42_2 rfl) rfl ?_
      refine DL.gq rfl rfl rfl (Yld.load1 (c := 105) Try.underlying3 rfl rfl rfl (by first | exact single_self _ _ | exact pset_self _ _ _ | assumption) rfl) rfl ?_
      refine DL.gq rfl rfl rfl (Yld.move rfl) rfl ?_
      refine DL.gq rfl rfl rfl (Yld.indexRow Try.underlying22 sz42 rfl rfl hS (by first | rfl | omega | (simp; done) | (simp; omega)) (by omega) (by first | omega | (simp; done) | (simp; omega))) rfl ?_
      refine DL.gq rfl rfl rfl (Yld.fieldAddr fo42_2 rfl) rfl ?_
      refine DL.gq rfl rfl rfl (Yld.loadRowF (cl := 1) (j := 2) Try.underlying3 rfl rfl rfl hS hlz rfl) rfl ?_
      refine DL.gq rfl rfl rfl (Yld.bin rfl rfl BinV.neq) rfl ?_
      refine DL.q rfl (by first | exact Yld.pickT rfl rfl | exact Yld.pickF rfl rfl) rfl ?_
      exact DL.meet (.cons rfl (.cons rfl (.cons rfl (.cons rfl (.cons rfl (.cons rfl (.cons rfl (.cons rfl (.cons rfl (.cons rfl (.cons rfl .nil))))))))))) (.cons rfl (.cons rfl (.cons rfl (.cons rfl (.cons rfl .nil)))))
    ·
      intro hg19
      refine DL.gskip rfl rfl rfl rfl rfl ?_
      refine DL.gskip rfl rfl rfl rfl rfl ?_
      refine DL.gskip rfl rfl rfl rfl rfl ?_
      refine DL.gskip rfl rfl rfl rfl rfl ?_
      refine DL.gskip rfl rfl rfl rfl rfl ?_
      refine DL.gskip rfl rfl rfl rfl rfl ?_
      refine DL.gskip rfl rfl rfl rfl rfl ?_
      refine DL.q rfl (by first | exact Yld.pickT rfl rfl | exact Yld.pickF rfl rfl) rfl ?_
      exact DL.meet (.cons rfl (.cons rfl (.cons rfl (.cons rfl (.cons rfl (.cons rfl (.cons rfl (.cons rfl (.cons rfl (.cons rfl (.cons rfl .nil))))))))))) (.cons rfl (.cons rfl (.cons rfl (.cons rfl (.cons rfl .nil)))))
    refine DL.q rfl (Yld.move rfl) rfl ?_
    refine' DL.or (t := 28) (d := 42) 14 rfl (.cons (k := 0) rfl (.cons (k := 3) rfl (.cons (k := 4) rfl (.cons (k := 5) rfl (.cons (k := 9) rfl (.cons (k := 10) rfl (.cons (k := 11) rfl (.cons (k := 16) rfl (.cons (k := 17) rfl (.cons (k := 18) rfl (.cons (k := 27) rfl .nil))))))))))) (.cons (k := 0) rfl (.cons (k := 1) rfl (.cons (k := 103) rfl (.cons (k := 105) rfl (.cons (k := 108) rfl .nil))))) ?_ ?_ ?_
    rotate_left 1
    ·
      intro hg28
      refine DL.gq rfl rfl rfl (Yld.move rfl) rfl ?_
      refine DL.gq rfl rfl rfl (Yld.bin rfl rfl BinV.gtr) rfl ?_
      refine DL.gq rfl rfl rfl (Yld.move rfl) rfl ?_
      refine' DL.and (t := 31) (d := 41) 10 rfl (.cons (k := 0) rfl (.cons (k := 3) rfl (.cons (k := 4) rfl (.cons (k := 5) rfl (.cons (k := 9) rfl (.cons (k := 10) rfl (.cons (k := 11) rfl (.cons (k := 16) rfl (.cons (k := 17) rfl (.cons (k := 18) rfl (.cons (k := 27) rfl (.cons (k := 28) rfl (.cons (k := 29) rfl (.cons (k := 30) rfl .nil)))))))))))))) (.cons (k := 0) rfl (.cons (k := 1) rfl (.cons (k := 103) rfl (.cons (k := 105) rfl (.cons (k := 108) rfl .nil))))) ?_ ?_ ?_
      rotate_left 1
      ·
        intro hg31
        have hg31 := of_decide_eq_true hg31
        refine DL.gq rfl rfl rfl (Yld.fieldAddr fo42_5 rfl) rfl ?_
        refine DL.gq rfl rfl rfl (Yld.load1 (c := 105) Try.underlying3 rfl rfl rfl (by first | exact single_self _ _ | exact pset_self _ _ _ | assumption) rfl) rfl ?_
        refine DL.gq rfl rfl rfl (Yld.move rfl) rfl ?_
        refine DL.gq rfl rfl rfl (Yld.move rfl) rfl ?_
        refine DL.gq rfl rfl rfl (Yld.bin rfl rfl (by first | exact BinV.sub (by omega) (by omega) | exact BinV.subW)) rfl ?_
        refine DL.gq rfl rfl rfl (Yld.indexRow Try.underlying22 sz42 rfl rfl hS (by first | rfl | omega | (simp; done) | (simp; omega)) (by omega) (by first | omega | (simp; done) | (simp; omega))) rfl ?_
        refine DL.gq rfl rfl rfl (Yld.fieldAddr fo42_5 rfl) rfl ?_
        refine DL.gq rfl rfl rfl (Yld.loadRowF (cl := 1) (j := 10) Try.underlying3 rfl rfl rfl hS hly0 rfl) rfl ?_
        refine DL.gq rfl rfl rfl (Yld.bin rfl rfl BinV.leq) rfl ?_
        refine DL.gq rfl rfl rfl (by first | exact Yld.pickT rfl rfl | exact Yld.pickF rfl rfl) rfl ?_
        exact DL.meet (.cons rfl (.cons rfl (.cons rfl (.cons rfl (.cons rfl (.cons rfl (.cons rfl (.cons rfl (.cons rfl (.cons rfl (.cons rfl (.cons rfl (.cons rfl (.cons rfl (.cons rfl .nil))))))))))))))) (.cons rfl (.cons rfl (.cons rfl (.cons rfl (.cons rfl .nil)))))
      ·
        intro hg31
        refine DL.gskip rfl rfl rfl rfl rfl ?_
        refine DL.gskip rfl rfl rfl rfl rfl ?_
        refine DL.gskip rfl rfl rfl rfl rfl ?_
        refine DL.gskip rfl rfl rfl rfl rfl ?_
        refine DL.gskip rfl rfl rfl rfl rfl ?_
        refine DL.gskip rfl rfl rfl rfl rfl ?_
        refine DL.gskip rfl rfl rfl rfl rfl ?_
        refine DL.gskip rfl rfl rfl rfl rfl ?_
        refine DL.gskip rfl rfl rfl rfl rfl ?_
        refine DL.gq rfl rfl rfl (by first | exact Yld.pickT rfl rfl | exact Yld.pickF rfl rfl) rfl ?_
        exact DL.meet (.cons rfl (.cons rfl (.cons rfl (.cons rfl (.cons rfl (.cons rfl (.cons rfl (.cons rfl (.cons rfl (.cons rfl (.cons rfl (.cons rfl (.cons rfl (.cons rfl (.cons rfl .nil))))))))))))))) (.cons rfl (.cons rfl (.cons rfl (.cons rfl (.cons rfl .nil)))))
      refine DL.q rfl (by first | exact Yld.pickT rfl rfl | exact Yld.pickF rfl rfl) rfl ?_
      exact DL.meet (.cons rfl (.cons rfl (.cons rfl (.cons rfl (.cons rfl (.cons rfl (.cons rfl (.cons rfl (.cons rfl (.cons rfl (.cons rfl (.cons rfl .nil)))))))))))) (.cons rfl (.cons rfl (.cons rfl (.cons rfl (.cons rfl .nil)))))
    ·
      intro hg28
      refine DL.gskip rfl rfl rfl rfl rfl ?_
      refine DL.gskip rfl rfl rfl rfl rfl ?_
      refine DL.gskip rfl rfl rfl rfl rfl ?_
      refine DL.gskipU rfl rfl rfl rfl ?_
      refine DL.gskipU rfl rfl rfl rfl ?_
      refine DL.gskipU rfl rfl rfl rfl ?_
      refine DL.gskipU rfl rfl rfl rfl ?_
      refine DL.gskipU rfl rfl rfl rfl ?_
      refine DL.gskipU rfl rfl rfl rfl ?_
      refine DL.gskipU rfl rfl rfl rfl ?_
      refine DL.gskipU rfl rfl rfl rfl ?_
      refine DL.gskipU rfl rfl rfl rfl ?_
      refine DL.gskip rfl rfl rfl rfl rfl ?_
      refine DL.q rfl (by first | exact Yld.pickT rfl rfl | exact Yld.pickF rfl rfl) rfl ?_
      exact DL.meet (.cons rfl (.cons rfl (.cons rfl (.cons rfl (.cons rfl (.cons rfl (.cons rfl (.cons rfl (.cons rfl (.cons rfl (.cons rfl (.cons rfl .nil)))))))))))) (.cons rfl (.cons rfl (.cons rfl (.cons rfl (.cons rfl .nil)))))
    refine DL.q rfl (Yld.move rfl) rfl ?_
    refine' DL.or (t := 43) (d := 48) 5 rfl (.cons (k := 0) rfl (.cons (k := 3) rfl (.cons (k := 4) rfl (.cons (k := 5) rfl (.cons (k := 9) rfl (.cons (k := 10) rfl (.cons (k := 11) rfl (.cons (k := 16) rfl (.cons (k := 17) rfl (.cons (k := 18) rfl (.cons (k := 27) rfl (.cons (k := 42) rfl .nil)))))))))))) (.cons (k := 0) rfl (.cons (k := 1) rfl (.cons (k := 103) rfl (.cons (k := 105) rfl (.cons (k := 108) rfl .nil))))) ?_ ?_ ?_
    rotate_left 1
    ·
      intro hg43
      refine DL.gq rfl rfl rfl (Yld.load1 (c := 103) Try.underlying73 rfl rfl rfl (by first | exact single_self _ _ | exact pset_self _ _ _ | assumption) rfl) rfl ?_
      refine DL.gq rfl rfl rfl (Yld.fieldAddr fo42_6 rfl) rfl ?_
      refine DL.gq rfl rfl rfl (Yld.load1 (c := 105) Try.underlying3 rfl rfl rfl (by first | exact single_self _ _ | exact pset_self _ _ _ | assumption) rfl) rfl ?_
      refine DL.gq rfl rfl rfl (Yld.eq (v' := .bool (mget x.m a.rsp).isSome) (Yld.lookup (c := 108) Try.underlying73 (keyInt Try.underlying3) zv4 rfl rfl rfl (by assumption)) (hT.get _)) rfl ?_
      refine DL.q rfl (by first | exact Yld.pickT rfl rfl | exact Yld.pickF rfl rfl) rfl ?_
      exact DL.meet (.cons rfl (.cons rfl (.cons rfl (.cons rfl (.cons rfl (.cons rfl (.cons rfl (.cons rfl (.cons rfl (.cons rfl (.cons rfl (.cons rfl (.cons rfl .nil))))))))))))) (.cons rfl (.cons rfl (.cons rfl (.cons rfl (.cons rfl .nil)))))
    ·
      intro hg43
      refine DL.gskip rfl rfl rfl rfl rfl ?_
      refine DL.gskip rfl rfl rfl rfl rfl ?_
      refine DL.gskip rfl rfl rfl rfl rfl ?_
      refine DL.gskip rfl rfl rfl rfl rfl ?_
      refine DL.q rfl (by first | exact Yld.pickT rfl rfl | exact Yld.pickF rfl rfl) rfl ?_
      exact DL.meet (.cons rfl (.cons rfl (.cons rfl (.cons rfl (.cons rfl (.cons rfl (.cons rfl (.cons rfl (.cons rfl (.cons rfl (.cons rfl (.cons rfl (.cons rfl .nil))))))))))))) (.cons rfl (.cons rfl (.cons rfl (.cons rfl (.cons rfl .nil)))))
    refine DL.done ?_
    refine N.next ?_
    refine W.keep (.cons (k := 0) rfl (.cons (k := 3) rfl (.cons (k := 4) rfl (.cons (k := 5) rfl (.cons (k := 9) rfl (.cons (k := 10) rfl (.cons (k := 11) rfl (.cons (k := 48) rfl .nil)))))))) (.cons (k := 0) rfl (.cons (k := 1) rfl (.cons (k := 103) rfl (.cons (k := 105) rfl (.cons (k := 108) rfl .nil))))) ?_
    first | refine W.condD rfl (fun hc48 => ?_) (fun hc48 => ?_) | (refine W.cond rfl (fun hc48 => ?_) (fun hc48 => ?_) <;> try simp only [Bool.or_eq_true, Bool.and_eq_true, Bool.not_eq_true', Bool.not_eq_false', decide_eq_true_eq, Bool.or_eq_false_iff, Bool.and_eq_false_iff, decide_eq_false_iff_not, beq_iff_eq, beq_eq_false_iff_ne, ne_eq, Decidable.not_not] at hc48)
    ·
      refine W.seq ?_
      refine W.region ?_
      refine RL.q (Yld.assign rfl) rfl ?_
      refine RL.nil ?_
      refine N.next ?_
      refine W.ret ?_
      refine N.then_ret ?_
      refine N.block_ret ?_
      refine N.then_ret ?_
      refine N.then_ret ?_
      refine N.block_ret ?_
      refine N.then_ret ?_
      exact N.retBy [1] (.cons (.tmp rfl) .nil) rfl rfl rfl rfl ⟨⟨false, rfl, notH ha fun ⟨h1, h2, h3, h4, h5⟩ => by rcases hc48 with ((h | h) | h) | h <;> first | exact h h1 | exact h (h2 z hz) | exact h4 ((hT.2 _).1 h) | (have := h3 y0 (by omega) hy0; omega)⟩, rfl⟩
    ·
      have hpre : ∀ b, 0 < x.i → l[x.i - 1]? = some b → b.inv < a.inv := fun b h0 hb => by rw [hy0] at hb; cases hb; omega
      refine W.skip ?_
      refine N.next ?_
      refine W.cut (ι := TI) (fun y => MapP (fun a : Int => Value.int .i64 a) y.es y.ck y.m ∧ TOK l (x.i + 1) y.m) (fun y => [(0, .slice p (l.map O.c).length c), (3, .pointer (some ⟨b3, 0, none⟩)), (9, .slice p (l.map O.c).length c), (10, .int .i64 ((l.map O.c).length : Nat)), (11, .int .i64 (x.i : Nat)), (5, .pointer (some ⟨b5, 0, none⟩)), (4, .int .i64 (x.i : Nat))]) (fun y => [(0, F), (1, H1), (103, single b3 (.cells [.map (some b8)].toArray 73 (0, 0))), (108, single b8 (.map y.es y.ck)), (105, single b5 (.cells [.int .i64 a.cl, .int .i64 a.nu, .int .i64 a.gr, .int .i64 a.kd, .string a.key, .int .i64 a.val, .int .i64 a.old, .int .i64 a.code, .bool a.fnd, .int .i64 a.rv, .int .i64 a.inv, .int .i64 a.rsp].toArray 42 (0, 0)))]) ?_ ?_
      ·
        refine W.seq ?_
        refine W.region ?_
        refine RL.q (Yld.loadW (c := 105) Try.underlying42 rfl sz42 rfl rfl (by first | exact single_self _ _ | exact pset_self _ _ _ | assumption) rfl) rfl ?_
        refine RL.e (Eff.call ent43 [] [] (.cons rfl .nil) (complete_ct _) rfl rfl rfl rfl (by rintro _ _ ⟨_, rfl⟩; rfl)) rfl ?_
        rintro _ _ ⟨_, ⟨rfl, rfl⟩, rfl⟩
        refine RL.nil ?_
        refine N.next ?_
        first | refine W.condD rfl (fun hc50 => ?_) (fun hc50 => ?_) | (refine W.cond rfl (fun hc50 => ?_) (fun hc50 => ?_) <;> try simp only [Bool.or_eq_true, Bool.and_eq_true, Bool.not_eq_true', Bool.not_eq_false', decide_eq_true_eq, Bool.or_eq_false_iff, Bool.and_eq_false_iff, decide_eq_false_iff_not, beq_iff_eq, beq_eq_false_iff_ne, ne_eq, Decidable.not_not] at hc50)
        ·
          refine W.region ?_
          refine RL.q (Yld.load1 (c := 103) Try.underlying73 rfl rfl rfl (by first | exact single_self _ _ | exact pset_self _ _ _ | assumption) rfl) rfl ?_
          refine RL.q (Yld.fieldAddr fo42_6 rfl) rfl ?_
          refine RL.q (Yld.load1 (c := 105) Try.underlying3 rfl rfl rfl (by first | exact single_self _ _ | exact pset_self _ _ _ | assumption) rfl) rfl ?_
          refine RL.e0 (Eff.mapUpdate (c := 108) Try.underlying73 (keyInt Try.underlying3) rfl rfl rfl rfl (by assumption)) ?_
          rintro _ _ ⟨es1, ck1, hM1, rfl⟩
          refine RL.nil ?_
          exact N.fam ⟨0, es1, ck1, mset x.m a.rsp (.bool true)⟩ ⟨hM1, hT.set ha hc50⟩ (.cons rfl (.cons rfl (.cons rfl (.cons rfl (.cons rfl (.cons rfl (.cons rfl .nil))))))) (.cons rfl (.cons rfl (.cons rfl (.cons rfl (.cons rfl .nil)))))
        ·
          refine W.skip ?_
          exact N.fam ⟨0, x.es, x.ck, x.m⟩ ⟨hM, hT.keep ha hc50⟩ (.cons rfl (.cons rfl (.cons rfl (.cons rfl (.cons rfl (.cons rfl (.cons rfl .nil))))))) (.cons rfl (.cons rfl (.cons rfl (.cons rfl (.cons rfl .nil)))))
      rintro y ⟨hM2, hT2⟩
      have hS2 := hS.take x.i
      have hlt2 : ((l.map O.c).take x.i).length = x.i := by rw [List.length_take]; omega
      refine W.seq ?_
      refine W.region ?_
      refine RL.q (Yld.move rfl) rfl ?_
      refine RL.q (Yld.move rfl) rfl ?_
      refine RL.q (Yld.sliceH Try.underlying22 sz42 rfl rfl (by omega) (by first | omega | (simp; done) | (simp; omega))) rfl ?_
      refine RL.q (Yld.lenSl Try.underlying22 rfl) rfl ?_
      refine RL.q (Yld.move rfl) rfl ?_
      refine RL.nil ?_
      refine N.next ?_
      refine W.block ?_
      refine W.loop (ι := Nat) (fun k => k ≤ x.i ∧ ∀ (k0 : Nat) b, k0 < k → l[k0]? = some b → b.cl = a.cl → Prec b a ∧ b.nu < a.nu) (fun k => [(0, .slice p (l.map O.c).length c), (3, .pointer (some ⟨b3, 0, none⟩)), (9, .slice p (l.map O.c).length c), (10, .int .i64 ((l.map O.c).length : Nat)), (11, .int .i64 (x.i : Nat)), (5, .pointer (some ⟨b5, 0, none⟩)), (4, .int .i64 (x.i : Nat)), (56, .slice p x.i c), (57, .int .i64 (x.i : Nat)), (58, .int .i64 (k : Nat))]) (fun k => [(0, F), (1, H1), (103, single b3 (.cells [.map (some b8)].toArray 73 (0, 0))), (108, single b8 (.map y.es y.ck)), (105, single b5 (.cells [.int .i64 a.cl, .int .i64 a.nu, .int .i64 a.gr, .int .i64 a.kd, .string a.key, .int .i64 a.val, .int .i64 a.old, .int .i64 a.code, .bool a.fnd, .int .i64 a.rv, .int .i64 a.inv, .int .i64 a.rsp].toArray 42 (0, 0)))]) (fun k => x.i - k) 0 ?_ ?_ ?_ ?_
      · exact ⟨Nat.zero_le _, fun _ _ h => absurd h (Nat.not_lt_zero _)⟩
      · exact (.cons rfl (.cons rfl (.cons rfl (.cons rfl (.cons rfl (.cons rfl (.cons rfl (.cons rfl (.cons rfl (.cons rfl .nil))))))))))
      · exact (.cons rfl (.cons rfl (.cons rfl (.cons rfl (.cons rfl .nil)))))
      rintro k ⟨hk, hK⟩
      refine W.seq ?_
      refine W.region ?_
      refine RL.q (Yld.bin rfl rfl BinV.lss) rfl ?_
      refine RL.nil ?_
      refine N.next ?_
      refine W.seq ?_
      first | refine W.condD rfl (fun hc59 => ?_) (fun hc59 => ?_) | (refine W.cond rfl (fun hc59 => ?_) (fun hc59 => ?_) <;> try simp only [Bool.or_eq_true, Bool.and_eq_true, Bool.not_eq_true', Bool.not_eq_false', decide_eq_true_eq, Bool.or_eq_false_iff, Bool.and_eq_false_iff, decide_eq_false_iff_not, beq_iff_eq, beq_eq_false_iff_ne, ne_eq, Decidable.not_not] at hc59)
      ·
        obtain ⟨b, hb⟩ : ∃ b, l[k]? = some b := ⟨_, List.getElem?_eq_getElem (show k < l.length by simp only [List.length_map] at *; omega)⟩
        have hlb : (l.map O.c)[k]? = some b.c := by simp [hb]
        have hlb2 : ((l.map O.c).take x.i)[k]? = some b.c := by rw [List.getElem?_take_of_lt (by omega)]; exact hlb
        refine W.skip ?_
        refine N.next ?_
        refine W.seq ?_
        refine W.block ?_
        refine W.seq ?_
        refine W.region ?_
        refine RL.q (Yld.indexRow Try.underlying22 sz42 rfl rfl hS2 (by first | rfl | omega | (simp; done) | (simp; omega)) (by omega) (by first | omega | (simp; done) | (simp; omega))) rfl ?_
        refine RL.q (Yld.eq (v' := .agg [.int .i64 b.cl, .int .i64 b.nu, .int .i64 b.gr, .int .i64 b.kd, .string b.key, .int .i64 b.val, .int .i64 b.old, .int .i64 b.code, .bool b.fnd, .int .i64 b.rv, .int .i64 b.inv, .int .i64 b.rsp].toArray) (Yld.loadRow (cl := 1) Try.underlying42 rfl sz42 rfl rfl hS2 hlb2) rfl) rfl ?_
        refine RL.e (Eff.alloc 107 zc42) rfl ?_
        rintro _ _ ⟨b7, rfl, rfl⟩
        refine RL.e0 (Eff.storeS (c := 107) _ sz42 rfl rfl rfl rfl rfl rfl rfl (by (try simp only [putAt, List.take, List.drop, List.nil_append, List.cons_append, List.append_nil, List.length_cons, List.length_nil, Nat.add_zero, Nat.zero_add, Nat.reduceAdd]); rfl)) ?_
        rintro _ _ rfl
        refine RL.nil ?_
        refine N.next ?_
        refine W.seq ?_
        refine W.region ?_
        refine RL.q (Yld.fieldAddr fo42_0 rfl) rfl ?_
        refine RL.q (Yld.load1 (c := 107) Try.underlying3 rfl rfl rfl (by first | exact single_self _ _ | exact pset_self _ _ _ | assumption) rfl) rfl ?_
        refine RL.q (Yld.fieldAddr fo42_0 rfl) rfl ?_
        refine RL.q (Yld.load1 (c := 105) Try.underlying3 rfl rfl rfl (by first | exact single_self _ _ | exact pset_self _ _ _ | assumption) rfl) rfl ?_
        refine RL.q (Yld.bin rfl rfl BinV.eql) rfl ?_
        refine RL.q (Yld.move rfl) rfl ?_
        refine' RL.and (t := 67) (d := 79) 12 rfl (.cons (k := 0) rfl (.cons (k := 3) rfl (.cons (k := 4) rfl (.cons (k := 5) rfl (.cons (k := 7) rfl (.cons (k := 9) rfl (.cons (k := 10) rfl (.cons (k := 11) rfl (.cons (k := 56) rfl (.cons (k := 57) rfl (.cons (k := 58) rfl (.cons (k := 59) rfl (.cons (k := 60) rfl (.cons (k := 61) rfl (.cons (k := 62) rfl (.cons (k := 63) rfl (.cons (k := 64) rfl (.cons (k := 65) rfl (.cons (k := 66) rfl .nil))))))))))))))))))) (.cons (k := 0) rfl (.cons (k := 1) rfl (.cons (k := 103) rfl (.cons (k := 105) rfl (.cons (k := 107) rfl (.cons (k := 108) rfl .nil)))))) ?_ ?_ ?_
        rotate_left 1
        ·
          intro hg67
          refine RL.gq rfl rfl (Yld.loadW (c := 107) Try.underlying42 rfl sz42 rfl rfl (by first | exact single_self _ _ | exact pset_self _ _ _ | assumption) rfl) rfl ?_
          refine RL.gq rfl rfl (Yld.loadW (c := 105) Try.underlying42 rfl sz42 rfl rfl (by first | exact single_self _ _ | exact pset_self _ _ _ | assumption) rfl) rfl ?_
          refine RL.ge rfl rfl (Eff.call ent34 [] [] (.cons rfl (.cons rfl .nil)) (precedes_ct _ _) rfl rfl rfl rfl (by rintro _ _ ⟨_, rfl⟩; rfl)) rfl ?_
          rintro _ _ ⟨_, ⟨rfl, rfl⟩, rfl⟩
          refine RL.gq rfl rfl (by first | exact Yld.notD rfl | exact Yld.not rfl) rfl ?_
          refine RL.gq rfl rfl (Yld.move rfl) rfl ?_
          refine' RL.or (t := 72) (d := 78) 6 rfl (.cons (k := 0) rfl (.cons (k := 3) rfl (.cons (k := 4) rfl (.cons (k := 5) rfl (.cons (k := 7) rfl (.cons (k := 9) rfl (.cons (k := 10) rfl (.cons (k := 11) rfl (.cons (k := 56) rfl (.cons (k := 57) rfl (.cons (k := 58) rfl (.cons (k := 59) rfl (.cons (k := 60) rfl (.cons (k := 61) rfl (.cons (k := 62) rfl (.cons (k := 63) rfl (.cons (k := 64) rfl (.cons (k := 65) rfl (.cons (k := 66) rfl (.cons (k := 67) rfl (.cons (k := 68) rfl (.cons (k := 69) rfl (.cons (k := 70) rfl (.cons (k := 71) rfl .nil)))))))))))))))))))))))) (.cons (k := 0) rfl (.cons (k := 1) rfl (.cons (k := 103) rfl (.cons (k := 105) rfl (.cons (k := 107) rfl (.cons (k := 108) rfl .nil)))))) ?_ ?_ ?_
          rotate_left 1
          ·
            intro hg72
            refine RL.gq rfl rfl (Yld.fieldAddr fo42_1 rfl) rfl ?_
            refine RL.gq rfl rfl (Yld.load1 (c := 107) Try.underlying3 rfl rfl rfl (by first | exact single_self _ _ | exact pset_self _ _ _ | assumption) rfl) rfl ?_
            refine RL.gq rfl rfl (Yld.fieldAddr fo42_1 rfl) rfl ?_
            refine RL.gq rfl rfl (Yld.load1 (c := 105) Try.underlying3 rfl rfl rfl (by first | exact single_self _ _ | exact pset_self _ _ _ | assumption) rfl) rfl ?_
            refine RL.gq rfl rfl (Yld.bin rfl rfl BinV.geq) rfl ?_
            refine RL.gq rfl rfl (by first | exact Yld.pickT rfl rfl | exact Yld.pickF rfl rfl) rfl ?_
            exact RL.nil (N.meet (.cons rfl (.cons rfl (.cons rfl (.cons rfl (.cons rfl (.cons rfl (.cons rfl (.cons rfl (.cons rfl (.cons rfl (.cons rfl (.cons rfl (.cons rfl (.cons rfl (.cons rfl (.cons rfl (.cons rfl (.cons rfl (.cons rfl (.cons rfl (.cons rfl (.cons rfl (.cons rfl (.cons rfl (.cons rfl .nil))))))))))))))))))))))))) (.cons rfl (.cons rfl (.cons rfl (.cons rfl (.cons rfl (.cons rfl .nil)))))))
          ·
            intro hg72
            refine RL.gskip rfl rfl rfl rfl ?_
            refine RL.gskip rfl rfl rfl rfl ?_
            refine RL.gskip rfl rfl rfl rfl ?_
            refine RL.gskip rfl rfl rfl rfl ?_
            refine RL.gskip rfl rfl rfl rfl ?_
            refine RL.gq rfl rfl (by first | exact Yld.pickT rfl rfl | exact Yld.pickF rfl rfl) rfl ?_
            exact RL.nil (N.meet (.cons rfl (.cons rfl (.cons rfl (.cons rfl (.cons rfl (.cons rfl (.cons rfl (.cons rfl (.cons rfl (.cons rfl (.cons rfl (.cons rfl (.cons rfl (.cons rfl (.cons rfl (.cons rfl (.cons rfl (.cons rfl (.cons rfl (.cons rfl (.cons rfl (.cons rfl (.cons rfl (.cons rfl (.cons rfl .nil))))))))))))))))))))))))) (.cons rfl (.cons rfl (.cons rfl (.cons rfl (.cons rfl (.cons rfl .nil)))))))
          refine RL.q (by first | exact Yld.pickT rfl rfl | exact Yld.pickF rfl rfl) rfl ?_
          exact RL.nil (N.meet (.cons rfl (.cons rfl (.cons rfl (.cons rfl (.cons rfl (.cons rfl (.cons rfl (.cons rfl (.cons rfl (.cons rfl (.cons rfl (.cons rfl (.cons rfl (.cons rfl (.cons rfl (.cons rfl (.cons rfl (.cons rfl (.cons rfl (.cons rfl .nil)))))))))))))))))))) (.cons rfl (.cons rfl (.cons rfl (.cons rfl (.cons rfl (.cons rfl .nil)))))))
        ·
          intro hg67
          refine RL.gskip rfl rfl rfl rfl ?_
          refine RL.gskip rfl rfl rfl rfl ?_
          refine RL.gskip rfl rfl rfl rfl ?_
          refine RL.gskip rfl rfl rfl rfl ?_
          refine RL.gskip rfl rfl rfl rfl ?_
          refine RL.gskipU rfl rfl rfl ?_
          refine RL.gskipU rfl rfl rfl ?_
          refine RL.gskipU rfl rfl rfl ?_
          refine RL.gskipU rfl rfl rfl ?_
          refine RL.gskipU rfl rfl rfl ?_
          refine RL.gskip rfl rfl rfl rfl ?_
          refine RL.q (by first | exact Yld.pickT rfl rfl | exact Yld.pickF rfl rfl) rfl ?_
          exact RL.nil (N.meet (.cons rfl (.cons rfl (.cons rfl (.cons rfl (.cons rfl (.cons rfl (.cons rfl (.cons rfl (.cons rfl (.cons rfl (.cons rfl (.cons rfl (.cons rfl (.cons rfl (.cons rfl (.cons rfl (.cons rfl (.cons rfl (.cons rfl (.cons rfl .nil)))))))))))))))))))) (.cons rfl (.cons rfl (.cons rfl (.cons rfl (.cons rfl (.cons rfl .nil)))))))
        refine RL.nil ?_
        refine N.next ?_
        refine W.keep (.cons (k := 0) rfl (.cons (k := 3) rfl (.cons (k := 4) rfl (.cons (k := 5) rfl (.cons (k := 9) rfl (.cons (k := 10) rfl (.cons (k := 11) rfl (.cons (k := 56) rfl (.cons (k := 57) rfl (.cons (k := 58) rfl (.cons (k := 79) rfl .nil))))))))))) (.cons (k := 0) rfl (.cons (k := 1) rfl (.cons (k := 103) rfl (.cons (k := 105) rfl (.cons (k := 107) rfl (.cons (k := 108) rfl .nil)))))) ?_
        first | refine W.condD rfl (fun hc79 => ?_) (fun hc79 => ?_) | (refine W.cond rfl (fun hc79 => ?_) (fun hc79 => ?_) <;> try simp only [Bool.or_eq_true, Bool.and_eq_true, Bool.not_eq_true', Bool.not_eq_false', decide_eq_true_eq, Bool.or_eq_false_iff, Bool.and_eq_false_iff, decide_eq_false_iff_not, beq_iff_eq, beq_eq_false_iff_ne, ne_eq, Decidable.not_not] at hc79)
        ·
          refine W.seq ?_
          refine W.region ?_
          refine RL.q (Yld.assign rfl) rfl ?_
          refine RL.nil ?_
          refine N.next ?_
          refine W.ret ?_
          refine N.block_ret ?_
          refine N.then_ret ?_
          refine N.then_ret ?_
          refine N.block_ret ?_
          refine N.block_ret ?_
          refine N.then_ret ?_
          refine N.then_ret ?_
          refine N.block_ret ?_
          refine N.then_ret ?_
          exact N.retBy [1] (.cons (.tmp rfl) .nil) rfl rfl rfl rfl ⟨⟨false, rfl, notH ha fun ⟨h1, h2, h3, h4, h5⟩ => by have h := h5 k b (by omega) hb; simp only [Prec] at *; omega⟩, rfl⟩
        ·
          refine W.skip ?_
          refine N.block_normal ?_
          refine N.next ?_
          refine W.region ?_
          refine RL.q (Yld.bin rfl rfl (by first | exact BinV.add (by omega) (by omega) | exact BinV.addW)) rfl ?_
          refine RL.q (Yld.move rfl) rfl ?_
          refine RL.nil ?_
          exact N.fam (k + 1) ⟨⟨by omega, upTo (P := fun _ b => b.cl = a.cl → Prec b a ∧ b.nu < a.nu) hK hb (by simp only [Prec] at *; omega)⟩, by omega⟩ (.cons rfl (.cons rfl (.cons rfl (.cons rfl (.cons rfl (.cons rfl (.cons rfl (.cons rfl (.cons rfl (.cons rfl .nil)))))))))) (.cons rfl (.cons rfl (.cons rfl (.cons rfl (.cons rfl .nil)))))
      ·
        refine W.exit ?_
        refine N.then_exit ?_
        refine N.then_exit ?_
        refine N.block_eq ?_
        refine N.block_normal ?_
        refine N.next ?_
        refine W.keep (.cons (k := 0) rfl (.cons (k := 3) rfl (.cons (k := 9) rfl (.cons (k := 10) rfl (.cons (k := 11) rfl .nil))))) (.cons (k := 0) rfl (.cons (k := 1) rfl (.cons (k := 103) rfl (.cons (k := 105) rfl (.cons (k := 108) rfl .nil))))) ?_
        refine W.region ?_
        refine RL.q (Yld.bin rfl rfl (by first | exact BinV.add (by omega) (by omega) | exact BinV.addW)) rfl ?_
        refine RL.q (Yld.move rfl) rfl ?_
        refine RL.nil ?_
        exact N.fam ⟨x.i + 1, y.es, y.ck, y.m⟩ ⟨⟨by show x.i + 1 ≤ _; omega, hM2, hT2, upTo hI ha ⟨hc48.1.1.1, fun z1 hz1 => by rw [hz] at hz1; cases hz1; exact hc48.1.1.2, hpre, (fun h => by have h := (hT.2 _).2 h; rw [hc48.2] at h; cases h), fun k0 b hk0 hb => hK k0 b (by omega) hb⟩⟩, by show _ - (x.i + 1) < _; omega⟩ (.cons rfl (.cons rfl (.cons rfl (.cons rfl (.cons rfl .nil))))) (.cons rfl (.cons rfl (.cons rfl (.cons rfl .nil))))
  ·
    refine W.exit ?_
    refine N.then_exit ?_
    refine N.then_exit ?_
    refine N.block_eq ?_
    refine N.next ?_
    refine W.keep (.cons (k := 0) rfl (.cons (k := 3) rfl .nil)) (.cons (k := 0) rfl (.cons (k := 1) rfl (.cons (k := 103) rfl (.cons (k := 108) rfl .nil)))) ?_
    refine W.seq ?_
    refine W.region ?_
    refine RL.q (Yld.move rfl) rfl ?_
    refine RL.q (Yld.makeFunc eval0 (eval1 rfl)) rfl ?_
    refine RL.e (Eff.call ent44 [1, 103, 108] [1, 103, 108] (.cons rfl (.cons rfl .nil)) (containsFunc_ct _ _ _ _ hS 45 _ _ _ (fun a => (mget x.m a.inv).isSome) ent45 (fun a => validC_ct _ _ _ _ _ hM hT.get a)) rfl rfl rfl rfl (by rintro _ _ ⟨_, rfl⟩; rfl)) rfl ?_
    rintro _ _ ⟨_, ⟨⟨bq, rfl, hq⟩, rfl⟩, rfl⟩
    refine RL.q (by first | exact Yld.notD rfl | exact Yld.not rfl) rfl ?_
    refine RL.q (Yld.assign rfl) rfl ?_
    refine RL.nil ?_
    refine N.next ?_
    refine W.keep (.cons (k := 2) rfl .nil) (.cons (k := 0) rfl (.cons (k := 1) rfl (.cons (k := 103) rfl (.cons (k := 108) rfl .nil)))) ?_
    refine W.ret ?_
    exact N.retBy [1] (.cons (.tmp rfl) .nil) rfl rfl rfl rfl ⟨⟨_, rfl, hv_end (by simp only [List.length_map] at *; omega) hT hI hq⟩, rfl⟩

end Go.Proofs.Ytbgppnkccbhbpaa
