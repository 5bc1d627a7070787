/- Texts of the reference. Written by program (walk2.py). -/
import Derived.Test.YtiedcjebkkdneaaGreatDoorT1
namespace Go.Proofs.YtiedcjebkkdneaaGreatDoor
open SL Cfg
set_option linter.unusedVariables false
set_option linter.unusedSimpArgs false
theorem ent63 : Ent Tryz.prog 63 := ⟨_, _, Tryz.func63, by kernel_rfl, rfl⟩
def Cfg.decB (n : Nat) : ByteArray := ⟨(Lib.decDigits n).toArray⟩
theorem Cfg.dec_len : ∀ (k n : Nat), n < 10 ^ (k + 1) → (Lib.decDigits n).length ≤ k + 1
  | 0, n, h => by rw [Lib.decDigits, dif_pos (by simpa using h)]; simp
  | k + 1, n, h => by
    rw [Lib.decDigits]
    split
    · simp
    · have := dec_len k (n / 10) (by rw [Nat.pow_succ] at h; omega)
      rw [List.length_append]; simp; omega
theorem Cfg.decB_size {n : Nat} (h : n < 18446744073709551616) : (decB n).size ≤ 20 := by
  have := dec_len 19 n (by omega)
  unfold decB
  show (Lib.decDigits n).toArray.size ≤ 20
  simpa using this
theorem Cfg.decB_small {n : Nat} (h : n < 10) : strOfNums [(48 + n : Int)] = decB n := by
  unfold decB strOfNums
  rw [Lib.decDigits, dif_pos h]
  congr 1
theorem Cfg.decB_step {n : Nat} (h : ¬ n < 10) : decB (n / 10) ++ strOfNums [(48 + (n : Int) % 10)] = decB n := by
  unfold decB strOfNums
  have e : (48 + (n : Int) % 10).toNat = 48 + n % 10 := by omega
  conv => rhs; rw [Lib.decDigits, dif_neg h]
  apply ByteArray.ext
  simp [e]

set_option maxRecDepth 100000 in
set_option maxHeartbeats 400000 in
theorem digsI_ct (n : Nat) (hn : n < 18446744073709551616) (ih : ∀ m : Nat, m < n → Ct Tryz.prog 63 [.int .u64 (m : Int)] [] (fun v Hs => v = .string (decB m) ∧ Hs = [])) : Ct Tryz.prog 63 [.int .u64 (n : Int)] [] (fun v Hs => v = .string (decB n) ∧ Hs = []) := by
  refine Ct.body Tryz.func63 rfl Tryz.ntmps63 rfl ?_
  intro E F
  refine W.seq ?_
  refine W.region ?_
  refine RL.q (Yld.assign rfl) rfl ?_
  refine RL.nil ?_
  refine N.next ?_
  refine W.seq ?_
  refine W.seq ?_
  refine W.region ?_
  refine RL.q (Yld.move rfl) rfl ?_
  refine RL.q (Yld.bin rfl rfl BinV.lss) rfl ?_
  refine RL.nil ?_
  refine N.next ?_
  first | refine W.condD rfl (fun hc4 => ?_) (fun hc4 => ?_) | (refine W.cond rfl (fun hc4 => ?_) (fun hc4 => ?_) <;> try simp only [Bool.or_eq_true, Bool.and_eq_true, Bool.not_eq_true', Bool.not_eq_false', decide_eq_true_eq, Bool.or_eq_false_iff, Bool.and_eq_false_iff, decide_eq_false_iff_not, beq_iff_eq, beq_eq_false_iff_ne, ne_eq, Decidable.not_not] at hc4)
  ·
    refine W.seq ?_
    refine W.region ?_
    refine RL.q (Yld.move rfl) rfl ?_
    refine RL.q (Yld.bin rfl rfl (by first | exact BinV.addE (IntWalk.u64_in _ ⟨by omega, by omega⟩) | exact BinV.addW)) rfl ?_
    refine RL.q (Yld.convIs Tryz.underlying42 Tryz.underlying5 rfl (by first | exact IntWalk.u8_in _ ⟨by omega, by omega⟩ | rfl)) rfl ?_
    refine RL.e (Eff.buildSlice 108 Tryz.underlying39 sz5 zc5 rfl rfl (.cons rfl rfl .nil) rfl) rfl ?_
    rintro _ _ ⟨b8, rfl, rfl⟩
    refine RL.q (Yld.bytesStr (cl := 108) Tryz.underlying39 Tryz.underlying5 Tryz.underlying9 rfl rfl (bz_single (l := [(48 + n : Int)]) rfl (by simp [maxLen])).sl rfl) rfl ?_
    refine RL.q (Yld.assign rfl) rfl ?_
    refine RL.nil ?_
    refine N.next ?_
    refine W.keep (.cons (k := 2) rfl .nil) (.cons (k := 0) rfl (.cons (k := 108) rfl .nil)) ?_
    refine W.ret ?_
    refine N.then_ret ?_
    exact N.retBy [] (.cons (.tmp rfl) .nil) rfl rfl rfl rfl ⟨by rw [decB_small (by omega)]; rfl, rfl⟩
  ·
    refine W.skip ?_
    refine N.next ?_
    refine W.seq ?_
    refine W.draw (.q 0 (.q 1 (.q 3 (.q 4 (.q 5 (.q 6 (.two 2 (.one 7 (.one 8 (.q 9 (.q 10 .done)))) 7 (.two 2 (.one 8 (.q 9 (.q 10 .done))) 8 (.one 2 (.q 9 (.q 10 .done))))))))))) (.cons (k := 0) rfl .nil) mix (by kernel_rfl) (by kernel_rfl) ?_
    refine DL.q rfl (Yld.move rfl) rfl ?_
    refine DL.q rfl (Yld.eq (v' := .int .u64 ((n / 10 : Nat) : Int)) (Yld.bin rfl rfl (by first | exact BinV.quo (by omega) (by omega) (by omega) | exact BinV.quoW (by omega))) (by rw [show ((n : Nat) : Int).tdiv 10 = ((n / 10 : Nat) : Int) from rfl, IntWalk.u64_in _ ⟨by omega, by omega⟩])) rfl ?_
    refine DL.q rfl (Yld.move rfl) rfl ?_
    refine DL.q rfl (Yld.bin rfl rfl (by first | exact BinV.rem (by omega) (by omega) | exact BinV.remW (by omega))) rfl ?_
    refine DL.q rfl (Yld.bin rfl rfl (by first | exact BinV.addE (IntWalk.u64_in _ ⟨by omega, by omega⟩) | exact BinV.addW)) rfl ?_
    refine DL.q rfl (Yld.convIs Tryz.underlying42 Tryz.underlying5 rfl (by first | exact IntWalk.u8_in _ ⟨by omega, by omega⟩ | rfl)) rfl ?_
    refine DL.two ?_ ?_
    ·
      refine DL.one rfl (Eff.call ent63 [] [] (.cons rfl .nil) (ih (n / 10) (by omega)) rfl rfl rfl rfl (by rintro _ _ ⟨_, rfl⟩; rfl)) rfl (by rintro _ _ ⟨_, ⟨rfl, rfl⟩, rfl⟩; repeat (first | exact .nil | refine .cons rfl ?_)) ?_
      rintro _ _ ⟨_, ⟨rfl, rfl⟩, rfl⟩
      have hz := decB_size (n := n / 10) (by omega)
      refine DL.one rfl (Eff.buildSlice 117 Tryz.underlying39 sz5 zc5 rfl rfl (.cons rfl rfl .nil) rfl) rfl (by rintro _ _ ⟨b17, rfl, rfl⟩; repeat (first | exact .nil | refine .cons rfl ?_)) ?_
      rintro _ _ ⟨b17, rfl, rfl⟩
      refine DL.one rfl (Yld.eff (Yld.bytesStr (cl := 117) Tryz.underlying39 Tryz.underlying5 Tryz.underlying9 rfl rfl (bz_single (l := [(48 + (n : Int) % 10)]) rfl (by simp [maxLen])).sl rfl)) rfl (by rintro _ _ ⟨rfl, rfl⟩; repeat (first | exact .nil | refine .cons rfl ?_)) ?_
      rintro _ _ ⟨rfl, rfl⟩
      refine DL.q rfl (Yld.bin rfl rfl (BinV.addS (by rw [strOfNums_size]; simp; omega))) rfl ?_
      refine DL.q rfl (Yld.assign rfl) rfl ?_
      refine DL.done ?_
      refine N.next ?_
      refine W.keep (.cons (k := 2) rfl .nil) (.cons (k := 0) rfl (.cons (k := 117) rfl .nil)) ?_
      refine W.ret ?_
      exact N.retBy [] (.cons (.tmp rfl) .nil) rfl rfl rfl rfl ⟨by rw [decB_step (by omega)]; rfl, rfl⟩
    ·
      refine DL.one rfl (Eff.buildSlice 117 Tryz.underlying39 sz5 zc5 rfl rfl (.cons rfl rfl .nil) rfl) rfl (by rintro _ _ ⟨b17, rfl, rfl⟩; repeat (first | exact .nil | refine .cons rfl ?_)) ?_
      rintro _ _ ⟨b17, rfl, rfl⟩
      refine DL.two ?_ ?_
      ·
        refine DL.one rfl (Eff.call ent63 [] [] (.cons rfl .nil) (ih (n / 10) (by omega)) rfl rfl rfl rfl (by rintro _ _ ⟨_, rfl⟩; rfl)) rfl (by rintro _ _ ⟨_, ⟨rfl, rfl⟩, rfl⟩; repeat (first | exact .nil | refine .cons rfl ?_)) ?_
        rintro _ _ ⟨_, ⟨rfl, rfl⟩, rfl⟩
        have hz := decB_size (n := n / 10) (by omega)
        refine DL.one rfl (Yld.eff (Yld.bytesStr (cl := 117) Tryz.underlying39 Tryz.underlying5 Tryz.underlying9 rfl rfl (bz_single (l := [(48 + (n : Int) % 10)]) rfl (by simp [maxLen])).sl rfl)) rfl (by rintro _ _ ⟨rfl, rfl⟩; repeat (first | exact .nil | refine .cons rfl ?_)) ?_
        rintro _ _ ⟨rfl, rfl⟩
        refine DL.q rfl (Yld.bin rfl rfl (BinV.addS (by rw [strOfNums_size]; simp; omega))) rfl ?_
        refine DL.q rfl (Yld.assign rfl) rfl ?_
        refine DL.done ?_
        refine N.next ?_
        refine W.keep (.cons (k := 2) rfl .nil) (.cons (k := 0) rfl (.cons (k := 117) rfl .nil)) ?_
        refine W.ret ?_
        exact N.retBy [] (.cons (.tmp rfl) .nil) rfl rfl rfl rfl ⟨by rw [decB_step (by omega)]; rfl, rfl⟩
      ·
        refine DL.one rfl (Yld.eff (Yld.bytesStr (cl := 117) Tryz.underlying39 Tryz.underlying5 Tryz.underlying9 rfl rfl (bz_single (l := [(48 + (n : Int) % 10)]) rfl (by simp [maxLen])).sl rfl)) rfl (by rintro _ _ ⟨rfl, rfl⟩; repeat (first | exact .nil | refine .cons rfl ?_)) ?_
        rintro _ _ ⟨rfl, rfl⟩
        refine DL.one rfl (Eff.call ent63 [] [] (.cons rfl .nil) (ih (n / 10) (by omega)) rfl rfl rfl rfl (by rintro _ _ ⟨_, rfl⟩; rfl)) rfl (by rintro _ _ ⟨_, ⟨rfl, rfl⟩, rfl⟩; repeat (first | exact .nil | refine .cons rfl ?_)) ?_
        rintro _ _ ⟨_, ⟨rfl, rfl⟩, rfl⟩
        have hz := decB_size (n := n / 10) (by omega)
        refine DL.q rfl (Yld.bin rfl rfl (BinV.addS (by rw [strOfNums_size]; simp; omega))) rfl ?_
        refine DL.q rfl (Yld.assign rfl) rfl ?_
        refine DL.done ?_
        refine N.next ?_
        refine W.keep (.cons (k := 2) rfl .nil) (.cons (k := 0) rfl (.cons (k := 117) rfl .nil)) ?_
        refine W.ret ?_
        exact N.retBy [] (.cons (.tmp rfl) .nil) rfl rfl rfl rfl ⟨by rw [decB_step (by omega)]; rfl, rfl⟩

end Go.Proofs.YtiedcjebkkdneaaGreatDoor
