/- Scopes and labels (no jump is taken), and the bits that one number has and the other has not. -/
import Derived.Test.YtbgppnkccbhbpaaSlLoop
import Derived.Test.YtbgppnkccbhbpaaSlKey3
import Derived.Scope
namespace Go.Proofs.Ytbgppnkccbhbpaa.SL
set_option linter.unusedVariables false
section
variable {X : Cx} {Q : Exit → Act → World → Prop} {σ : Loc} {L : Sh}
theorem W.scope {c : Code} (h : W X c (Exit.noGoto Q) σ L) : W X (.scope c) Q σ L := fun a w ha hm => wp_scope_straight (h a w ha hm)
theorem W.label {l : Nat} (h : N X Q .normal σ L) : W X (.label l) Q σ L := fun a w ha hm => wp_label (h a w ha hm)
theorem N.scope_normal (h : N X Q .normal σ L) : N X (Exit.noGoto Q) .normal σ L := h
theorem N.scope_ret (h : N X Q .ret σ L) : N X (Exit.noGoto Q) .ret σ L := h
theorem N.scope_exit {id : Nat} (h : N X Q (.exit id) σ L) : N X (Exit.noGoto Q) (.exit id) σ L := h
end
theorem BinV.andNot {P : Program} {T : TypeId} {k : IntKind} {a b : Int} : BinV P .andNot T (.int k a) (.int k b) (.int k (bits .andNot k a b)) := .ofInt fun w => by rw [binOp_andNot]; rfl
theorem eval6 {σ : Loc} {x1 x2 x3 x4 x5 x6 : Operand} {n : Nat} {v1 v2 v3 v4 v5 v6 : Value} (h1 : ev σ x1 = some v1) (h2 : ev σ x2 = some v2) (h3 : ev σ x3 = some v3) (h4 : ev σ x4 = some v4) (h5 : ev σ x5 = some v5) (h6 : ev σ x6 = some v6) (a : Act) (ha : AF n σ a) : (#[x1, x2, x3, x4, x5, x6].map a.eval) = [v1, v2, v3, v4, v5, v6].toArray := by simp [ha.ev h1, ha.ev h2, ha.ev h3, ha.ev h4, ha.ev h5, ha.ev h6]
/-- keys that are a number with a struct of a bool and a number -/
def encSt (k : Nat × Bool × Int) : Value := .agg [.int .u64 (k.1 : Int), .bool k.2.1, .int .i64 k.2.2].toArray
theorem keySt {P : Program} {kt : TypeId} {f0 f1 g0 g1 : Field} (hu : P.underlying kt = some (.struct #[f0, f1])) (hu1 : P.underlying f1.type = some (.struct #[g0, g1])) (hst : P.stoodInHeld kt = false) (hst1 : P.stoodInHeld f1.type = false)
    (n0 : (f0.name == "_") = false) (n1 : (f1.name == "_") = false) (m0 : (g0.name == "_") = false) (m1 : (g1.name == "_") = false)
    (o0 : f0.offset = 0) (o1 : f1.offset = 1) (q0 : g0.offset = 0) (q1 : g1.offset = 1) (t0 : P.underlying f0.type = some (.int .u64)) (s1 : sz P f1.type 2) (t1 : P.underlying g0.type = some .bool) (t2 : P.underlying g1.type = some (.int .i64)) : KeyOK P kt encSt := by
  have p0 : ∀ (k : Nat × Bool × Int), PartV P f0.type [.int .u64 (k.1 : Int), .bool k.2.1, .int .i64 k.2.2] f0.offset (.int .u64 (k.1 : Int)) := fun k => PartV.one t0 rfl (by rw [o0]; rfl)
  have p1 : ∀ (k : Nat × Bool × Int), PartV P f1.type [.int .u64 (k.1 : Int), .bool k.2.1, .int .i64 k.2.2] f1.offset (.agg [.bool k.2.1, .int .i64 k.2.2].toArray) := fun k => PartV.agg hu1 rfl s1 (by rw [o1]; rfl)
  have r0 : ∀ (k : Nat × Bool × Int), PartV P g0.type [.bool k.2.1, .int .i64 k.2.2] g0.offset (.bool k.2.1) := fun k => PartV.one t1 rfl (by rw [q0]; rfl)
  have r1 : ∀ (k : Nat × Bool × Int), PartV P g1.type [.bool k.2.1, .int .i64 k.2.2] g1.offset (.int .i64 k.2.2) := fun k => PartV.one t2 rfl (by rw [q1]; rfl)
  refine .ofEq hu (fun _ _ => rfl) (fun a b w => ?_) (fun e k w => ?_) (fun k => ?_)
  · have h : EqV P 10000 kt (encSt a) (encSt b) _ := EqV.struct hu hst (EqF.cons n0 (p0 a) (p0 b) (EqV.int t0) (EqF.cons n1 (p1 a) (p1 b) (EqV.struct hu1 hst1 (EqF.cons m0 (r0 a) (r0 b) (EqV.bool t1) (EqF.cons m1 (r1 a) (r1 b) (EqV.int t2) EqF.nil))) EqF.nil))
    have h2 := h w
    unfold Op.equal Op.maxDepth
    rw [h2]
    congr 1
    rw [Bool.eq_iff_iff]
    simp only [Bool.and_eq_true, decide_eq_true_eq, and_true, beq_iff_eq]
    constructor
    · rintro ⟨h1, h2, h3⟩; exact Prod.ext (by omega) (Prod.ext h2.symm h3.symm)
    · rintro rfl; exact ⟨rfl, rfl, rfl⟩
  · have c : ∀ (d : Nat) (q : IntKind) (t : TypeId) (x : Int) (w : World), P.underlying t = some (.int q) → (Instr.checkKey e (d + 1) t (.int q x)).run P w = .ok () w := fun d q t x w h => by
      rw [Instr.checkKey, Sem.run_bind, run_underlying h]; rfl
    have cb : ∀ (d : Nat) (t : TypeId) (x : Bool) (w : World), P.underlying t = some .bool → (Instr.checkKey e (d + 1) t (.bool x)).run P w = .ok () w := fun d t x w h => by
      rw [Instr.checkKey, Sem.run_bind, run_underlying h]; rfl
    have u0 : f0.name ≠ "_" := by intro h; simp [h] at n0
    have u1 : f1.name ≠ "_" := by intro h; simp [h] at n1
    have v0 : g0.name ≠ "_" := by intro h; simp [h] at m0
    have v1 : g1.name ≠ "_" := by intro h; simp [h] at m1
    have ci : ∀ w, (Instr.checkKey e 9999 f1.type (.agg [.bool k.2.1, .int .i64 k.2.2].toArray)).run P w = .ok () w := fun w => by
      rw [show (9999 : Nat) = 9998 + 1 from rfl, Instr.checkKey, Sem.run_bind, run_underlying hu1, Result.andThen_ok]
      simp only []
      rw [← Array.forIn_toList]
      simp only [List.forIn_cons, List.forIn_nil, Sem.run_bind, v0, v1, ne_eq, not_false_eq_true, if_true, r0 k w, r1 k w, Result.andThen_ok, c 9997 _ _ _ w t2, cb 9997 _ _ w t1, Sem.run_pure]
    rw [show (10000 : Nat) = 9999 + 1 from rfl, Instr.checkKey, Sem.run_bind, run_underlying hu, Result.andThen_ok]
    simp only [encSt]
    rw [← Array.forIn_toList]
    simp only [List.forIn_cons, List.forIn_nil, Sem.run_bind, u0, u1, ne_eq, not_false_eq_true, if_true, p0 k w, p1 k w, Result.andThen_ok, c 9998 _ _ _ w t0, ci w, Sem.run_pure]
  · simp [encSt, Instr.sameBits]
end Go.Proofs.Ytbgppnkccbhbpaa.SL
