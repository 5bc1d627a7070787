/-
  Loops and cuts that keep what they do not touch: the kept slots and pieces need not be named.
-/
import Derived.Test.YtbgppnkccbhbpaaSlGrp
namespace Go.Proofs.Ytbgppnkccbhbpaa.SL
set_option linter.unusedVariables false
open Go.RowKit

theorem lk_append {α : Type} : ∀ (a b : List (Nat × α)) (i : Nat) (v : α), lk (a ++ b) i = some v → lk a i = some v ∨ (lk a i = none ∧ lk b i = some v)
  | [], b, i, v, h => .inr ⟨rfl, h⟩
  | (k, u) :: a, b, i, v, h => by
    rw [List.cons_append, lk_cons] at h
    rw [lk_cons]
    split at h
    · rename_i e; subst e; exact .inl (by simpa using h)
    · rename_i e
      rcases lk_append a b i v h with h1 | h1
      · exact .inl (by rw [if_neg e]; exact h1)
      · exact .inr ⟨by rw [if_neg e]; exact h1.1, h1.2⟩

theorem AF.app {n : Nat} {σ l m : Loc} {a : Act} (h : AF n σ a) (hl : Keep σ l) (hm : Keep σ m) : AF n (l ++ m) a :=
  ⟨h.1, h.2.1, fun i v hv => (lk_append l m i v hv).elim (fun h1 => h.2.2 i v (hl.lk i v h1)) (fun h1 => h.2.2 i v (hm.lk i v h1.2))⟩
theorem Mem.app {E : Env} {L l m : Sh} {w : World} (h : Mem E L w) (hl : Keep L l) (hm : Keep L m) : Mem E (l ++ m) w :=
  h.weak fun c H hc => (lk_append l m c H hc).elim (fun h1 => hl.lk c H h1) (fun h1 => hm.lk c H h1.2)

section
variable {X : Cx} {Q : Exit → Act → World → Prop} {σ : Loc} {L : Sh}
theorem W.loopK {ι : Type} {c : Code} (I : ι → Prop) (S : ι → Loc) (M : ι → Sh) (μ : ι → Nat) {l : Loc} {m : Sh} (hl : Keep σ l) (hm : Keep L m) (i0 : ι) (h0 : I i0) (hS : Keep σ (S i0)) (hM : Keep L (M i0))
    (h : ∀ i, I i → W X c (Exit.then (fun a w => ∃ j, (I j ∧ μ j < μ i) ∧ AF X.n (S j ++ l) a ∧ Mem X.E (M j ++ m) w) Q) (S i ++ l) (M i ++ m)) : W X (.loop c) Q σ L := fun a w ha hmm => by
  refine wp_loop_ghost (fun k a w => ∃ i, I i ∧ μ i = k ∧ AF X.n (S i ++ l) a ∧ Mem X.E (M i ++ m) w) (μ i0) ⟨i0, h0, rfl, ha.app hS hl, hmm.app hM hm⟩ ?_
  rintro k a w ⟨i, hi, rfl, ha, hm⟩
  refine wp_mono (h i hi a w ha hm) ?_
  intro e a' w' hq
  cases e with
  | normal => obtain ⟨j, ⟨hj, hlt⟩, ha', hm'⟩ := hq; exact ⟨μ j, hlt, j, hj, rfl, ha', hm'⟩
  | _ => exact hq

theorem N.famK {ι : Type} {I : ι → Prop} {S : ι → Loc} {M : ι → Sh} {l : Loc} {m : Sh} (i : ι) (hi : I i) (hS : Keep σ (S i)) (hl : Keep σ l) (hM : Keep L (M i)) (hm : Keep L m) :
    N X (Exit.then (fun a w => ∃ i, I i ∧ AF X.n (S i ++ l) a ∧ Mem X.E (M i ++ m) w) Q) .normal σ L := fun _ _ ha hmm => ⟨i, hi, ha.app hS hl, hmm.app hM hm⟩

theorem W.cutK {ι : Type} {x y : Code} (I : ι → Prop) (S : ι → Loc) (M : ι → Sh) {l : Loc} {m : Sh} (hl : Keep σ l) (hm : Keep L m)
    (h : W X x (Exit.then (fun a w => ∃ i, I i ∧ AF X.n (S i ++ l) a ∧ Mem X.E (M i ++ m) w) Q) σ L)
    (hy : ∀ i, I i → W X y Q (S i ++ l) (M i ++ m)) : W X (.seq x y) Q σ L := fun a w ha hmm => by
  refine wp_seq (wp_mono (h a w ha hmm) ?_)
  intro e a' w' hq
  cases e with
  | normal => obtain ⟨i, hi, ha', hm'⟩ := hq; exact hy i hi a' w' ha' hm'
  | _ => exact hq

theorem BS.keep {ops : Array Oper} {i : Nat} {K : Loc → Sh → Prop} {σ' : Loc} {L' : Sh} (hσ : Keep σ σ') (hL : Keep L L') (h : BS X ops Q i K σ' L') : BS X ops Q i K σ L := fun a w ha hm => h a w (ha.keep hσ) (hm.keep hL)
theorem bput_self {D : Nat → Bool} {i : Nat} : bput D i i = true := by unfold bput; rw [Nat.beq_refl]; rfl
theorem bput_ne {D : Nat → Bool} {i j : Nat} (h : j ≠ i) : bput D i j = D j := by
  unfold bput
  cases h2 : Nat.beq j i with
  | true => exact absurd (Nat.eq_of_beq_eq_true h2) h
  | false => rfl
theorem DL.bagK {ι : Type} {ops : Array Oper} {Ls : Sh} {p : Plan} {B : List (Nat × List Nat)} (I : (Nat → Bool) → ι → Prop) (S : ι → Loc) (M : ι → Sh) {l : Loc} {m : Sh} (hl : Keep σ l) (hm : Keep L m) (x0 : ι) (h0 : ∀ D, (∀ t ∈ B, D t.1 = false) → I D x0) (hS : Keep σ (S x0)) (hM : Keep L (M x0))
    (hLs : ∀ x, Keep (M x ++ m) Ls)
    (hs : ∀ t ∈ B, ∀ D x, I D x → D t.1 = false → (∀ j ∈ t.2, D j = true) → BS X ops Q t.1 (fun σ' L' => ∃ x', I (bput D t.1) x' ∧ Keep σ' (S x') ∧ Keep σ' l ∧ Keep L' (M x') ∧ Keep L' m) (S x ++ l) (M x ++ m))
    (he : ∀ D x, I D x → (∀ t ∈ B, D t.1 = true) → DL X ops Q Ls p (S x ++ l) (M x ++ m)) : DL X ops Q Ls (.bag B p) σ L := fun a w ha hmm _ =>
  ⟨fun D a w => ∃ x, I D x ∧ AF X.n (S x ++ l) a ∧ Mem X.E (M x ++ m) w, fun D hD => ⟨x0, h0 D hD, ha.app hS hl, hmm.app hM hm⟩,
    fun D a w ⟨x, hx, ha, hm⟩ t ht hD hj => wpOp_mono (fun a' w' ⟨σ', L', ⟨x', hx', k1, k2, k3, k4⟩, ha', hm'⟩ => ⟨(hm'.app k3 k4).keep (hLs x'), x', hx', ha'.app k1 k2, hm'.app k3 k4⟩) (hs t ht D x hx hD hj a w ha hm),
    fun D a w ⟨x, hx, ha, hm⟩ hD => he D x hx hD a w ha hm (hm.keep (hLs x))⟩
/-- a part of an element, of several cells -/
theorem Yld.loadRowP {ty T : TypeId} {x : Operand} {c m i j n : Nat} {p : Option Addr} {cl : Nat} {H : PH} {ls : List (List Value)} {l vs : List Value} {d : TypeDesc} (hT : X.P.underlying T = some d) (hd : aggD d = true) (hn : sz X.P T n) (hx : ev σ x = some (.pointer (some ⟨(rowAt p (i * m)).block, (rowAt p (i * m)).off + j, none⟩))) (hL : lk L cl = some H)
    (hS : Sl H p c m ls) (hl : ls[i]? = some l) (hv : (l.drop j).take n = vs) (hvn : vs.length = n) : Yld X (.load T x) ty σ L (.agg vs.toArray) := by
  obtain ⟨a, rfl, hr⟩ := hS.row (i := i) (List.getElem?_eq_some_iff.1 hl).1
  refine Yld.load hx hL fun w hs => run_loadVarA hT hd hn hvn fun k u hk => ?_
  subst hv
  rw [List.getElem?_take] at hk
  split at hk
  · rw [List.getElem?_drop] at hk
    have := hr.cell hl hs hk
    simpa [Nat.add_assoc] using this
  · cases hk
end
end Go.Proofs.Ytbgppnkccbhbpaa.SL
