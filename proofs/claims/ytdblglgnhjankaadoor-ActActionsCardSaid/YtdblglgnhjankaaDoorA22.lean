/- Decimal numbers. Written by program (walk2.py). -/
import Derived.Test.YtdblglgnhjankaaDoorA16
import Derived.Test.YtdblglgnhjankaaDoorSlByt
import Derived.Test.YtdblglgnhjankaaDoorA7
namespace Go.Proofs.YtdblglgnhjankaaDoor
open SL Cfg
set_option linter.unusedVariables false
set_option linter.unusedSimpArgs false
theorem sz5 : sz Tryd.prog 5 1 := (by kernel_rfl : (Tryd.prog.info? 5).map (·.size) = some 1)
theorem zc5 : zc Tryd.prog 5 [.int .u8 0] := (by kernel_rfl : ((Tryd.prog.info? 5).bind (·.zero)).map (fun v => v.cells.toList) = some [.int .u8 0])
theorem ent42 : Ent Tryd.prog 42 := ⟨_, _, Tryd.func42, by kernel_rfl, rfl⟩
theorem Cfg.itoaB_small {n : Int} (h0 : 0 ≤ n) (h : n < 10) : itoaB n = strOfNums [48 + max n 0] := by
  obtain ⟨k, rfl⟩ : ∃ k : Nat, n = k := ⟨n.toNat, by omega⟩
  unfold itoaB strOfNums
  rw [Lib.itoa_nonneg, Lib.decDigits_one (by omega)]
  simp only [List.map_cons, List.map_nil]
  rw [show (48 + max (k : Int) 0).toNat = 48 + k by omega]
theorem Cfg.itoaB_step {n : Int} (h : 10 ≤ n) : itoaB n = itoaB (n / 10) ++ strOfNums [48 + n % 10] := by
  obtain ⟨k, rfl⟩ : ∃ k : Nat, n = k := ⟨n.toNat, by omega⟩
  unfold itoaB strOfNums
  rw [Lib.itoa_nonneg, show ((k : Int) / 10) = ((k / 10 : Nat) : Int) by omega, Lib.itoa_nonneg, Lib.decDigits, dif_neg (by omega)]
  simp only [List.map_cons, List.map_nil]
  rw [show (48 + (k : Int) % 10).toNat = 48 + k % 10 by omega]
  apply ByteArray.ext
  simp
theorem Cfg.str1_size (z : Int) : (strOfNums [z]).size = 1 := rfl

set_option maxRecDepth 100000 in
set_option maxHeartbeats 1600000 in
theorem num10_step (n : Int) (hn : 0 ≤ n ∧ n ≤ 9223372036854775807) (ih : 10 ≤ n → Ct Tryd.prog 42 [.int .i64 (n / 10)] [] (fun v Hs => v = .string (itoaB (n / 10)) ∧ Hs = [])) : Ct Tryd.prog 42 [.int .i64 n] [] (fun v Hs => v = .string (itoaB n) ∧ Hs = []) := by
  refine Ct.body Tryd.func42 rfl Tryd.ntmps42 rfl ?_
  intro E F
  refine W.seq ?_
  refine W.region ?_
  refine RL.q (Yld.assign rfl) rfl ?_
  refine RL.nil ?_
  refine N.next ?_
  refine W.seq ?_
  refine W.seq ?_
  refine W.region ?_
  refine RL.q (Yld.move rfl) rfl ?_
  refine RL.q (Yld.bin rfl rfl BinV.lss) rfl ?_
  refine RL.nil ?_
  refine N.next ?_
  first | refine W.condD rfl (fun hc4 => ?_) (fun hc4 => ?_) | (refine W.cond rfl (fun hc4 => ?_) (fun hc4 => ?_) <;> try simp only [Bool.or_eq_true, Bool.and_eq_true, Bool.not_eq_true', Bool.not_eq_false', decide_eq_true_eq, Bool.or_eq_false_iff, Bool.and_eq_false_iff, decide_eq_false_iff_not, beq_iff_eq, beq_eq_false_iff_ne, ne_eq, Decidable.not_not] at hc4)
  ·
    refine W.seq ?_
    refine W.region ?_
    refine RL.q (Yld.move rfl) rfl ?_
    refine RL.q (Yld.max2 rfl rfl) rfl ?_
    refine RL.q (Yld.bin rfl rfl (by first | exact BinV.add (by omega) (by omega) | exact BinV.addW)) rfl ?_
    refine RL.q (Yld.convIs Tryd.underlying3 Tryd.underlying5 rfl (by first | exact IntWalk.u8_in _ ⟨by omega, by omega⟩ | rfl)) rfl ?_
    refine RL.e (Eff.buildSlice 109 Tryd.underlying124 sz5 zc5 rfl rfl (.cons rfl rfl .nil) rfl) rfl ?_
    rintro _ _ ⟨b9, rfl, rfl⟩
    refine RL.q (Yld.bytesStr (cl := 109) Tryd.underlying124 Tryd.underlying5 Tryd.underlying9 rfl rfl (bz_single (l := [48 + max n 0]) rfl (by simp [maxLen])).sl rfl) rfl ?_
    refine RL.q (Yld.assign rfl) rfl ?_
    refine RL.nil ?_
    refine N.next ?_
    refine W.keep (.cons (k := 2) rfl .nil) (.cons (k := 0) rfl (.cons (k := 109) rfl .nil)) ?_
    refine W.ret ?_
    refine N.then_ret ?_
    exact N.retBy [] (.cons (.tmp rfl) .nil) rfl rfl rfl rfl ⟨by rw [itoaB_small hn.1 hc4]; rfl, rfl⟩
  ·
    refine W.skip ?_
    refine N.next ?_
    refine W.seq ?_
    refine W.draw (.q 0 (.q 1 (.q 3 (.q 4 (.q 5 (.q 6 (.two 2 (.one 7 (.one 8 (.q 9 (.q 10 .done)))) 7 (.two 2 (.one 8 (.q 9 (.q 10 .done))) 8 (.one 2 (.q 9 (.q 10 .done))))))))))) (.cons (k := 0) rfl .nil) mix (by kernel_rfl) (by kernel_rfl) ?_
    refine DL.q rfl (Yld.move rfl) rfl ?_
    refine DL.q rfl (Yld.bin rfl rfl (by first | exact BinV.quo (by omega) (by omega) (by omega) | exact BinV.quoW (by omega))) rfl ?_
    refine DL.q rfl (Yld.move rfl) rfl ?_
    refine DL.q rfl (Yld.bin rfl rfl (BinV.rem (by omega) (by omega))) rfl ?_
    refine DL.q rfl (Yld.bin rfl rfl (by first | exact BinV.add (by omega) (by omega) | exact BinV.addW)) rfl ?_
    refine DL.q rfl (Yld.convIs Tryd.underlying3 Tryd.underlying5 rfl (by first | exact IntWalk.u8_in _ ⟨by omega, by omega⟩ | rfl)) rfl ?_
    refine DL.two ?_ ?_
    ·
      refine DL.one rfl (Eff.call ent42 [] [] (.cons rfl .nil) (ih (by omega)) rfl rfl rfl rfl (by rintro _ _ ⟨_, rfl⟩; rfl)) rfl (by rintro _ _ ⟨_, ⟨rfl, rfl⟩, rfl⟩; repeat (first | exact .nil | refine .cons rfl ?_)) ?_
      rintro _ _ ⟨_, ⟨rfl, rfl⟩, rfl⟩
      have hsz := itoaB_size (n := n / 10) ⟨by omega, by omega⟩
      refine DL.one rfl (Eff.buildSlice 118 Tryd.underlying124 sz5 zc5 rfl rfl (.cons rfl rfl .nil) rfl) rfl (by rintro _ _ ⟨b18, rfl, rfl⟩; repeat (first | exact .nil | refine .cons rfl ?_)) ?_
      rintro _ _ ⟨b18, rfl, rfl⟩
      refine DL.one rfl (Yld.eff (Yld.bytesStr (cl := 118) Tryd.underlying124 Tryd.underlying5 Tryd.underlying9 rfl rfl (bz_single (l := [48 + n % 10]) rfl (by simp [maxLen])).sl rfl)) rfl (by rintro _ _ ⟨rfl, rfl⟩; repeat (first | exact .nil | refine .cons rfl ?_)) ?_
      rintro _ _ ⟨rfl, rfl⟩
      refine DL.q rfl (Yld.bin rfl rfl (BinV.addS (by rw [str1_size]; omega))) rfl ?_
      refine DL.q rfl (Yld.assign rfl) rfl ?_
      refine DL.done ?_
      refine N.next ?_
      refine W.keep (.cons (k := 2) rfl .nil) (.cons (k := 0) rfl (.cons (k := 118) rfl .nil)) ?_
      refine W.ret ?_
      exact N.retBy [] (.cons (.tmp rfl) .nil) rfl rfl rfl rfl ⟨by rw [itoaB_step (n := n) (by omega)]; rfl, rfl⟩
    ·
      refine DL.one rfl (Eff.buildSlice 118 Tryd.underlying124 sz5 zc5 rfl rfl (.cons rfl rfl .nil) rfl) rfl (by rintro _ _ ⟨b18, rfl, rfl⟩; repeat (first | exact .nil | refine .cons rfl ?_)) ?_
      rintro _ _ ⟨b18, rfl, rfl⟩
      refine DL.two ?_ ?_
      ·
        refine DL.one rfl (Eff.call ent42 [] [] (.cons rfl .nil) (ih (by omega)) rfl rfl rfl rfl (by rintro _ _ ⟨_, rfl⟩; rfl)) rfl (by rintro _ _ ⟨_, ⟨rfl, rfl⟩, rfl⟩; repeat (first | exact .nil | refine .cons rfl ?_)) ?_
        rintro _ _ ⟨_, ⟨rfl, rfl⟩, rfl⟩
        have hsz := itoaB_size (n := n / 10) ⟨by omega, by omega⟩
        refine DL.one rfl (Yld.eff (Yld.bytesStr (cl := 118) Tryd.underlying124 Tryd.underlying5 Tryd.underlying9 rfl rfl (bz_single (l := [48 + n % 10]) rfl (by simp [maxLen])).sl rfl)) rfl (by rintro _ _ ⟨rfl, rfl⟩; repeat (first | exact .nil | refine .cons rfl ?_)) ?_
        rintro _ _ ⟨rfl, rfl⟩
        refine DL.q rfl (Yld.bin rfl rfl (BinV.addS (by rw [str1_size]; omega))) rfl ?_
        refine DL.q rfl (Yld.assign rfl) rfl ?_
        refine DL.done ?_
        refine N.next ?_
        refine W.keep (.cons (k := 2) rfl .nil) (.cons (k := 0) rfl (.cons (k := 118) rfl .nil)) ?_
        refine W.ret ?_
        exact N.retBy [] (.cons (.tmp rfl) .nil) rfl rfl rfl rfl ⟨by rw [itoaB_step (n := n) (by omega)]; rfl, rfl⟩
      ·
        refine DL.one rfl (Yld.eff (Yld.bytesStr (cl := 118) Tryd.underlying124 Tryd.underlying5 Tryd.underlying9 rfl rfl (bz_single (l := [48 + n % 10]) rfl (by simp [maxLen])).sl rfl)) rfl (by rintro _ _ ⟨rfl, rfl⟩; repeat (first | exact .nil | refine .cons rfl ?_)) ?_
        rintro _ _ ⟨rfl, rfl⟩
        refine DL.one rfl (Eff.call ent42 [] [] (.cons rfl .nil) (ih (by omega)) rfl rfl rfl rfl (by rintro _ _ ⟨_, rfl⟩; rfl)) rfl (by rintro _ _ ⟨_, ⟨rfl, rfl⟩, rfl⟩; repeat (first | exact .nil | refine .cons rfl ?_)) ?_
        rintro _ _ ⟨_, ⟨rfl, rfl⟩, rfl⟩
        have hsz := itoaB_size (n := n / 10) ⟨by omega, by omega⟩
        refine DL.q rfl (Yld.bin rfl rfl (BinV.addS (by rw [str1_size]; omega))) rfl ?_
        refine DL.q rfl (Yld.assign rfl) rfl ?_
        refine DL.done ?_
        refine N.next ?_
        refine W.keep (.cons (k := 2) rfl .nil) (.cons (k := 0) rfl (.cons (k := 118) rfl .nil)) ?_
        refine W.ret ?_
        exact N.retBy [] (.cons (.tmp rfl) .nil) rfl rfl rfl rfl ⟨by rw [itoaB_step (n := n) (by omega)]; rfl, rfl⟩

theorem num10_all : ∀ (k : Nat) (n : Int), n.toNat ≤ k → 0 ≤ n → n ≤ 9223372036854775807 → Ct Tryd.prog 42 [.int .i64 n] [] (fun v Hs => v = .string (itoaB n) ∧ Hs = [])
  | 0, n, hk, h0, h1 => num10_step n ⟨h0, h1⟩ fun h => by omega
  | k + 1, n, hk, h0, h1 => num10_step n ⟨h0, h1⟩ fun h => num10_all k (n / 10) (by omega) (by omega) (by omega)
theorem num10_ct (n : Int) (h0 : 0 ≤ n) (h1 : n ≤ 9223372036854775807) : Ct Tryd.prog 42 [.int .i64 n] [] (fun v Hs => v = .string (itoaB n) ∧ Hs = []) := num10_all n.toNat n (Nat.le_refl _) h0 h1

end Go.Proofs.YtdblglgnhjankaaDoor
