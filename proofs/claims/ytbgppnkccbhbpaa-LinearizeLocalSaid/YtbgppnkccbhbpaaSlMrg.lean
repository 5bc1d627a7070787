/-
  Pieces that become one, with what is known of both; contracts out of contracts on worlds.
-/
import Derived.Test.YtbgppnkccbhbpaaSlNil
import Derived.Below
namespace Go.Proofs.Ytbgppnkccbhbpaa.SL
set_option linter.unusedVariables false
section
variable {X : Cx} {Q : Exit → Act → World → Prop} {σ : Loc} {L : Sh}
theorem Mem.apart {E : Env} {w : World} (hm : Mem E L w) {c c' : Nat} {G K : PH} (hG : lk L c = some G) (hK : lk L c' = some K) (hne : Nat.beq c' c = false) : ∀ b o, K b = some o → hjoin G K b = some o := fun b o h => by
  have hcc : c ≠ c' := fun e => by subst e; simp at hne
  unfold hjoin
  cases hg : G b with
  | none => exact h
  | some o' => exact (hm.dis c c' G K hcc hG hK b o' o hg h).elim
theorem hjoin_l {G K : PH} : ∀ b o, G b = some o → hjoin G K b = some o := fun b o h => by unfold hjoin; rw [h]
theorem N.merge {e : Exit} (c c' : Nat) {G K : PH} (hG : lk L c = some G) (hK : lk L c' = some K) (hne : Nat.beq c' c = false) (h : (∀ b o, K b = some o → hjoin G K b = some o) → N X Q e σ ((c, hjoin G K) :: (c', emp) :: L)) : N X Q e σ L :=
  fun a w ha hm => h (hm.apart hG hK hne) a w ha (Imp.merge hG hK hne _ _ hm)
theorem W.merge {y : Code} (c c' : Nat) {G K : PH} (hG : lk L c = some G) (hK : lk L c' = some K) (hne : Nat.beq c' c = false) (h : (∀ b o, K b = some o → hjoin G K b = some o) → W X y Q σ ((c, hjoin G K) :: (c', emp) :: L)) : W X y Q σ L :=
  fun a w ha hm => h (hm.apart hG hK hne) a w ha (Imp.merge hG hK hne _ _ hm)
end
/-- behind a call that turns nothing -/
theorem Mem.below {E : Env} {L : Sh} {w w' : World} (hm : Mem E L w) (h1 : w'.os = w.os) (h2 : w'.output = w.output) (h3 : w.heap.size ≤ w'.heap.size) (h4 : ∀ k, k < w.heap.size → w'.heap[k]? = w.heap[k]?) : Mem E L w' :=
  ⟨h1.trans hm.os, h2.trans hm.out, fun c H hc b o hb => by rw [h4 b (PH.sub_lt (hm.sub c H hc) hb)]; exact hm.sub c H hc b o hb, hm.dis⟩
end Go.Proofs.Ytbgppnkccbhbpaa.SL
