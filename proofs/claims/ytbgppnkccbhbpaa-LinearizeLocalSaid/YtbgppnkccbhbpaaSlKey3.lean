/-
  Keys of maps that are structs of a number, a bool and a number.
-/
import Derived.Test.YtbgppnkccbhbpaaSlMrg
namespace Go.Proofs.Ytbgppnkccbhbpaa.SL
set_option linter.unusedVariables false
def enc3 (q : IntKind) (k : Int × Bool × Int) : Value := .agg [.int q k.1, .bool k.2.1, .int q k.2.2].toArray
theorem key3 {P : Program} {kt : TypeId} {q : IntKind} {f0 f1 f2 : Field} (hu : P.underlying kt = some (.struct #[f0, f1, f2])) (hst : P.stoodInHeld kt = false) (n0 : (f0.name == "_") = false) (n1 : (f1.name == "_") = false) (n2 : (f2.name == "_") = false)
    (o0 : f0.offset = 0) (o1 : f1.offset = 1) (o2 : f2.offset = 2) (t0 : P.underlying f0.type = some (.int q)) (t1 : P.underlying f1.type = some .bool) (t2 : P.underlying f2.type = some (.int q)) : KeyOK P kt (enc3 q) := by
  have p0 : ∀ (k : Int × Bool × Int), PartV P f0.type [.int q k.1, .bool k.2.1, .int q k.2.2] f0.offset (.int q k.1) := fun k => PartV.one t0 rfl (by rw [o0]; rfl)
  have p1 : ∀ (k : Int × Bool × Int), PartV P f1.type [.int q k.1, .bool k.2.1, .int q k.2.2] f1.offset (.bool k.2.1) := fun k => PartV.one t1 rfl (by rw [o1]; rfl)
  have p2 : ∀ (k : Int × Bool × Int), PartV P f2.type [.int q k.1, .bool k.2.1, .int q k.2.2] f2.offset (.int q k.2.2) := fun k => PartV.one t2 rfl (by rw [o2]; rfl)
  refine .ofEq hu (fun _ _ => rfl) (fun a b w => ?_) (fun e k w => ?_) (fun k => ?_)
  · have h : EqV P 10000 kt (enc3 q a) (enc3 q b) _ := EqV.struct hu hst (EqF.cons n0 (p0 a) (p0 b) (EqV.int t0) (EqF.cons n1 (p1 a) (p1 b) (EqV.bool t1) (EqF.cons n2 (p2 a) (p2 b) (EqV.int t2) EqF.nil)))
    have h2 := h w
    unfold Op.equal Op.maxDepth
    rw [h2]
    congr 1
    rw [Bool.eq_iff_iff]
    simp only [Bool.and_eq_true, decide_eq_true_eq, and_true, beq_iff_eq]
    constructor
    · rintro ⟨h1, h2, h3⟩; exact Prod.ext h1.symm (Prod.ext h2.symm h3.symm)
    · rintro rfl; exact ⟨rfl, rfl, rfl⟩
  · have c : ∀ (t : TypeId) (x : Int) (w : World), P.underlying t = some (.int q) → (Instr.checkKey e 9999 t (.int q x)).run P w = .ok () w := fun t x w h => by
      rw [show (9999 : Nat) = 9998 + 1 from rfl, Instr.checkKey, Sem.run_bind, run_underlying h]; rfl
    have cb : ∀ (t : TypeId) (x : Bool) (w : World), P.underlying t = some .bool → (Instr.checkKey e 9999 t (.bool x)).run P w = .ok () w := fun t x w h => by
      rw [show (9999 : Nat) = 9998 + 1 from rfl, Instr.checkKey, Sem.run_bind, run_underlying h]; rfl
    have m0 : f0.name ≠ "_" := by intro h; simp [h] at n0
    have m1 : f1.name ≠ "_" := by intro h; simp [h] at n1
    have m2 : f2.name ≠ "_" := by intro h; simp [h] at n2
    rw [show (10000 : Nat) = 9999 + 1 from rfl, Instr.checkKey, Sem.run_bind, run_underlying hu, Result.andThen_ok]
    simp only [enc3]
    rw [← Array.forIn_toList]
    simp only [List.forIn_cons, List.forIn_nil, Sem.run_bind, m0, m1, m2, ne_eq, not_false_eq_true, if_true, p0 k w, p1 k w, p2 k w, Result.andThen_ok, c _ _ _ t0, cb _ _ _ t1, c _ _ _ t2, Sem.run_pure]
  · simp [enc3, Instr.sameBits]
theorem DL.splitB {X : Cx} {Q : Exit → Act → World → Prop} {σ : Loc} {L Ls : Sh} {ops : Array Oper} {p : Plan} {t : Nat} {b : Bool} (hx : lk σ t = some (.bool b)) (h1 : b = true → DL X ops Q Ls p ((t, .bool true) :: σ) L) (h2 : b = false → DL X ops Q Ls p ((t, .bool false) :: σ) L) : DL X ops Q Ls p σ L := by
  cases b with
  | true => exact DL.as hx rfl (h1 rfl)
  | false => exact DL.as hx rfl (h2 rfl)
theorem RL.splitB {X : Cx} {Q : Exit → Act → World → Prop} {σ : Loc} {L : Sh} {ops : Array Oper} {l : List Oper} {t : Nat} {b : Bool} (hx : lk σ t = some (.bool b)) (h1 : b = true → RL X ops Q l ((t, .bool true) :: σ) L) (h2 : b = false → RL X ops Q l ((t, .bool false) :: σ) L) : RL X ops Q l σ L := by
  cases b with
  | true => exact RL.as hx rfl (h1 rfl)
  | false => exact RL.as hx rfl (h2 rfl)
end Go.Proofs.Ytbgppnkccbhbpaa.SL
