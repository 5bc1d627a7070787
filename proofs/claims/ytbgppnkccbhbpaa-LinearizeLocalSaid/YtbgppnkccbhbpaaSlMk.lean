/- make of a slice whose elements are one cell each. -/
import Derived.Test.YtbgppnkccbhbpaaSlSlc
import Derived.Laws.MakeOwn
namespace Go.Proofs.Ytbgppnkccbhbpaa.SL
set_option linter.unusedVariables false
theorem Eff.makeSl {X : Cx} {σ : Loc} {L : Sh} {ty T : TypeId} {x y : Operand} (tc : Nat) {e by_ m : Nat} {kl kc : IntKind} {u : Value} (ht : X.P.underlying T = some (.slice e)) (he : el X.P e 1 by_) (hz : zc X.P e [u]) (hx : ev σ x = some (.int kl (m : Int))) (hy : ev σ y = some (.int kc (m : Int)))
    (h1 : u.oneCell' = true) (hm : m ≤ 16777216) (hb : by_ * m ≤ 281474976710656) :
    Eff X (.makeSlice T x y) ty σ L (fun v L' => ∃ H' p', v = .slice p' m m ∧ Own H' p' m e 1 (List.replicate m [u]) ∧ L' = (tc, H') :: L) :=
  Eff.val (fun ρ => Instr.makeSlice T (ρ x) (ρ y)) (fun ρ o ho => by simp [execOp, ho]) fun a w ha hmm => by
    obtain ⟨i, z, hi, hz0, hz1, hz2, hz3⟩ := he
    obtain ⟨z', hzc, hrun'⟩ := hz.run
    have hzz : z' = z := by
      have := hrun' w
      simp [zeroValue, typeInfo, hi, hz0] at this
      exact this.symm
    subst hzz
    have hbi : (i.bytes : Int) * (m : Int) ≤ 281474976710656 := by
      rw [hz3]
      have : ((by_ * m : Nat) : Int) ≤ 281474976710656 := by omega
      rwa [Int.natCast_mul] at this
    have hr := Go.run_makeSlice (P := X.P) w T e i z' ht hi hz0 kl kc (m : Int) (m : Int) (by omega) (Int.le_refl _) (by rw [Int.toNat_natCast, hz1]; omega) hbi (by omega)
    rw [Int.toNat_natCast, hz1, Nat.mul_one] at hr
    have hc : madeCells z'.cells m = (List.replicate m u).toArray := by
      unfold madeCells
      rw [hzc]
      apply Array.ext
      · simp
      · intro j hj1 hj2
        simp [Nat.mod_one]
    rw [hc] at hr
    refine ⟨_, _, _, by rw [ha.ev hx, ha.ev hy]; exact hr, ⟨_, _, rfl, ?_, rfl⟩, hmm.alloc tc _⟩
    refine Own.mk [] (fun l hl => ?_) (by simp) (by simp only [maxLen]; omega) (by simp) (by simp)
    rw [List.eq_of_mem_replicate hl]
    exact ⟨rfl, fun v hv => by simp only [List.mem_singleton] at hv; subst hv; exact h1⟩
end Go.Proofs.Ytbgppnkccbhbpaa.SL
