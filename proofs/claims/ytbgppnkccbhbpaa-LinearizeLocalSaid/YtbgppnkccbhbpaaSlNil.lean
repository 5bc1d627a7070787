/-
  Maps that are nil: held against nil, ranged over.
-/
import Derived.Test.YtbgppnkccbhbpaaSlSame
namespace Go.Proofs.Ytbgppnkccbhbpaa.SL
set_option linter.unusedVariables false
section
variable {X : Cx} {σ : Loc} {L : Sh} {ty T : TypeId} {x y : Operand}
theorem BinV.eqlMN {P : Program} {T k e : TypeId} {r : Option Nat} (h : P.underlying T = some (.map k e)) : BinV P .eql T (.map r) (.map none) (.bool r.isNone) := fun w p q => by
  rw [Sem.run_bind, eqGuard_at_map]
  simpa using run_eql_map_nil w T k e r h
theorem BinV.neqMN {P : Program} {T k e : TypeId} {r : Option Nat} (h : P.underlying T = some (.map k e)) : BinV P .neq T (.map r) (.map none) (.bool r.isSome) := fun w p q => by
  rw [Sem.run_bind, eqGuard_at_map]
  cases r with
  | none => simpa using run_neq_map_nil w T k e none h
  | some b => simpa using run_neq_map_nil w T k e (some b) h
theorem Eff.rangeNil {kt e : Nat} (c' : Nat) (ht : X.P.underlying T = some (.map kt e)) (hx : ev σ x = some (.map none)) :
    Eff X (.range T x) ty σ L (fun v L' => ∃ r, v = .pointer (some ⟨r, 0, none⟩) ∧ L' = (c', single r (.mapIter none 0 #[] 0)) :: L) :=
  Eff.val (fun ρ => Instr.range T (ρ x)) (fun ρ o ho => by simp [execOp, ho]) fun a w ha hm => by
    rw [ha.ev hx]
    refine ⟨_, _, _, ?_, ⟨w.heap.size, rfl, rfl⟩, hm.alloc c' _⟩
    simp [Instr.range, run_underlying ht, newObj]
    rfl
theorem Eff.nextNil {c2 r : Nat} (hx : ev σ x = some (.pointer (some ⟨r, 0, none⟩))) (hL2 : lk L c2 = some (single r (.mapIter none 0 #[] 0))) :
    Eff X (.next x false) ty σ L (fun v L' => v = .tuple [.bool false].toArray ∧ L' = L) := fun a w ha hm o ho hty K Q hK => by
  have hr := hm.sub c2 _ hL2 r _ (single_self _ _)
  have hexec : (execOp a.eval o).run X.P w = .ok (.value (.tuple [.bool false].toArray)) w := by
    simp only [execOp, ho, ha.ev hx, Sem.run_bind]
    have : (Instr.next (.pointer (some ⟨r, 0, none⟩)) false o.type).run X.P w = .ok (.tuple #[.bool false]) w := by
      have hg : (getObj r).run X.P w = .ok (.mapIter none 0 #[] 0) w := by simp [getObj, Sem.run, hr]
      simp only [Instr.next, Sem.run_bind, hg]
      rfl
    rw [this]; rfl
  unfold Oper.wp
  rw [hexec]
  exact hK _ L w ⟨rfl, rfl⟩ hm
end
end Go.Proofs.Ytbgppnkccbhbpaa.SL
