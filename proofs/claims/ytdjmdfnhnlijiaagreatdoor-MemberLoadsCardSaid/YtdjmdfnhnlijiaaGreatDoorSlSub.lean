/-
  A piece made smaller.
-/
import Derived.Test.YtdjmdfnhnlijiaaGreatDoorSlMrg
namespace Go.Proofs.YtdjmdfnhnlijiaaGreatDoor.SL
set_option linter.unusedVariables false
theorem Imp.sub {L : Sh} {c : Nat} {G H : PH} (hL : lk L c = some H) (hs : ∀ b o, G b = some o → H b = some o) : Imp L ((c, G) :: L) := fun E w hm => by
  refine ⟨hm.os, hm.out, fun d K hK => ?_, fun d e K J hne hK hJ => ?_⟩
  · rw [lk_cons] at hK
    split at hK
    · cases hK; exact fun b o hb => hm.sub c H hL b o (hs b o hb)
    · exact hm.sub d K hK
  · rw [lk_cons] at hK hJ
    split at hK <;> split at hJ
    · rename_i h1 h2; exact absurd (h1.symm.trans h2) hne
    · rename_i h1 h2; cases hK; subst h1
      exact fun b x y hx hy => hm.dis _ e H J hne hL hJ b x y (hs b x hx) hy
    · rename_i h1 h2; cases hJ; subst h2
      exact fun b x y hx hy => hm.dis d _ K H hne hK hL b x y hx (hs b y hy)
    · exact hm.dis d e K J hne hK hJ
theorem hjoin_r {G K : PH} (h : ∀ b o, K b = some o → hjoin G K b = some o) : ∀ b o, K b = some o → hjoin G K b = some o := h
end Go.Proofs.YtdjmdfnhnlijiaaGreatDoor.SL
