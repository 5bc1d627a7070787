/- What a check of an order has seen so far: in plain Lean. -/
import Derived.Test.YtbgppnkccbhbpaaLPurM
namespace Go.Proofs.Ytbgppnkccbhbpaa.HistLaw
set_option linter.unusedVariables false
set_option linter.unusedSimpArgs false

def NoPr (l : List O) (x y : Int) : Prop := ∀ a b, l[x.toNat]? = some a → l[y.toNat]? = some b → ¬ Prec b a
/-- the first i indices are in range, each once, and none stands behind one that it precedes -/
structure Vp (l : List O) (ord : List Int) (i : Nat) : Prop where
  rng : ∀ z ∈ ord.take i, 0 ≤ z ∧ z < l.length
  nd : (ord.take i).Nodup
  prec : (ord.take i).Pairwise (NoPr l)
theorem take_snoc {α : Type} {l : List α} {i : Nat} {z : α} (h : l[i]? = some z) : l.take (i + 1) = l.take i ++ [z] := by rw [List.take_add_one, h]; rfl
theorem Vp.zero (l : List O) (ord : List Int) : Vp l ord 0 := ⟨by simp, by simp, by simp⟩
theorem Vp.step {l : List O} {ord : List Int} {i : Nat} {z : Int} (h : Vp l ord i) (hz : ord[i]? = some z) (h0 : 0 ≤ z ∧ z < l.length) (hn : z ∉ ord.take i) (hp : ∀ x ∈ ord.take i, NoPr l x z) : Vp l ord (i + 1) := by
  refine ⟨?_, ?_, ?_⟩
  · rw [take_snoc hz]
    intro y hy
    rcases List.mem_append.1 hy with h1 | h1
    · exact h.rng y h1
    · simp at h1; subst h1; exact h0
  · rw [take_snoc hz, List.nodup_append]
    refine ⟨h.nd, by simp, fun x hx y hy => ?_⟩
    simp at hy; subst hy
    rintro rfl; exact hn hx
  · rw [take_snoc hz, List.pairwise_append]
    refine ⟨h.prec, by simp, fun x hx y hy => ?_⟩
    simp at hy; subst hy
    exact hp x hx
theorem VerOK.vp {l : List O} {ord : List Int} (h : VerOK l ord) (i : Nat) : Vp l ord i :=
  ⟨fun z hz => h.rng z (List.mem_of_mem_take hz), h.nd.sublist (List.take_sublist _ _), h.prec.sublist (List.take_sublist _ _)⟩
theorem Vp.fresh {l : List O} {ord : List Int} {i : Nat} {z : Int} (h : Vp l ord (i + 1)) (hz : ord[i]? = some z) : z ∉ ord.take i := by
  have := h.nd
  rw [take_snoc hz, List.nodup_append] at this
  intro hm
  exact this.2.2 z hm z (by simp) rfl
theorem Vp.last {l : List O} {ord : List Int} {i : Nat} {z : Int} (h : Vp l ord (i + 1)) (hz : ord[i]? = some z) : (0 ≤ z ∧ z < l.length) ∧ ∀ x ∈ ord.take i, NoPr l x z := by
  refine ⟨h.rng z (by rw [take_snoc hz]; simp), fun x hx => ?_⟩
  have := h.prec
  rw [take_snoc hz, List.pairwise_append] at this
  exact this.2.2 x hx z (by simp)

/-! ### the results along an order, key by key -/
def repC (l : List O) (k : Ky) : Cell → List Int → Cell
  | c, [] => c
  | c, z :: r => match l[z.toNat]? with
    | some a => if a.key = k then repC l k (doL c a).1 r else repC l k c r
    | none => repC l k c r
theorem repK_cons {l : List O} {k : Ky} {c : Cell} {z : Int} {r : List Int} {a : O} (h : l[z.toNat]? = some a) : repK l k c (z :: r) ↔ if a.key = k then okR a (doL c a).2 ∧ repK l k (doL c a).1 r else repK l k c r := by
  constructor
  · intro h1; exact h1 a h
  · intro h1 b hb
    rw [h] at hb; cases hb; exact h1
theorem repK_app {l : List O} {k : Ky} : ∀ {x : List Int} {c : Cell} {y : List Int}, (∀ z ∈ x, ∃ a, l[z.toNat]? = some a) → (repK l k c (x ++ y) ↔ repK l k c x ∧ repK l k (repC l k c x) y)
  | [], c, y, _ => by simp [repK, repC]
  | z :: x, c, y, h => by
    obtain ⟨a, ha⟩ := h z (by simp)
    have hx := fun w hw => h w (List.mem_cons_of_mem _ hw)
    rw [List.cons_append, repK_cons ha, repK_cons ha]
    unfold repC
    rw [ha]
    by_cases e : a.key = k
    · simp only [if_pos e]
      rw [repK_app hx, and_assoc]
    · simp only [if_neg e]
      exact repK_app hx
theorem repC_some {l : List O} {k : Ky} {c : Cell} {z : Int} {r : List Int} {a : O} (h : l[z.toNat]? = some a) : repC l k c (z :: r) = if a.key = k then repC l k (doL c a).1 r else repC l k c r := by
  show (match l[z.toNat]? with
    | some a => if a.key = k then repC l k (doL c a).1 r else repC l k c r
    | none => repC l k c r) = _
  rw [h]
theorem repC_none {l : List O} {k : Ky} {c : Cell} {z : Int} {r : List Int} (h : l[z.toNat]? = none) : repC l k c (z :: r) = repC l k c r := by
  show (match l[z.toNat]? with
    | some a => if a.key = k then repC l k (doL c a).1 r else repC l k c r
    | none => repC l k c r) = _
  rw [h]
theorem repC_app {l : List O} {k : Ky} : ∀ {x : List Int} {c : Cell} {y : List Int}, repC l k c (x ++ y) = repC l k (repC l k c x) y
  | [], c, y => rfl
  | z :: x, c, y => by
    rw [List.cons_append]
    cases h : l[z.toNat]? with
    | none => rw [repC_none h, repC_none h]; exact repC_app
    | some a =>
      rw [repC_some h, repC_some h]
      by_cases e : a.key = k
      · simp only [if_pos e]; exact repC_app
      · simp only [if_neg e]; exact repC_app
def c0 : Cell := (false, 0)
theorem Vp.some {l : List O} {ord : List Int} {i : Nat} (h : Vp l ord i) : ∀ z ∈ ord.take i, ∃ a, l[z.toNat]? = some a := fun z hz => by
  obtain ⟨h1, h2⟩ := h.rng z hz
  exact ⟨_, List.getElem?_eq_getElem (show z.toNat < l.length by omega)⟩
/-- one more index, for one key -/
theorem rep_step {l : List O} {ord : List Int} {i : Nat} {z : Int} {a : O} {k : Ky} (hv : ∀ z ∈ ord.take i, ∃ a, l[z.toNat]? = some a) (hz : ord[i]? = some z) (ha : l[z.toNat]? = some a) : repK l k (false, 0) (ord.take (i + 1)) ↔ repK l k (false, 0) (ord.take i) ∧ (a.key = k → okR a (doL (repC l k (false, 0) (ord.take i)) a).2) := by
  rw [take_snoc hz, repK_app hv, repK_cons ha]
  by_cases e : a.key = k
  · simp [e, repK]
  · simp [e, repK]
theorem repC_step {l : List O} {ord : List Int} {i : Nat} {z : Int} {a : O} {k : Ky} (hz : ord[i]? = some z) (ha : l[z.toNat]? = some a) : repC l k (false, 0) (ord.take (i + 1)) = if a.key = k then (doL (repC l k (false, 0) (ord.take i)) a).1 else repC l k (false, 0) (ord.take i) := by
  rw [take_snoc hz, repC_app]
  show (match l[z.toNat]? with
    | some a => if a.key = k then repC l k (doL _ a).1 [] else repC l k _ []
    | none => repC l k _ []) = _
  rw [ha]
  rfl
theorem repK_take {l : List O} {k : Ky} : ∀ {x : List Int} {c : Cell} {i : Nat}, (∀ z ∈ x, ∃ a, l[z.toNat]? = some a) → repK l k c x → repK l k c (x.take i)
  | x, c, i, hx, h => by
    rw [← List.take_append_drop i x] at h
    exact ((repK_app fun z hz => hx z (List.mem_of_mem_take hz)).1 h).1
theorem VerOK.someA {l : List O} {ord : List Int} (h : VerOK l ord) : ∀ z ∈ ord, ∃ a, l[z.toNat]? = some a := fun z hz => by
  obtain ⟨h1, h2⟩ := h.rng z hz
  exact ⟨_, List.getElem?_eq_getElem (show z.toNat < l.length by omega)⟩
theorem VerOK.ok {l : List O} {ord : List Int} (h : VerOK l ord) {i : Nat} {z : Int} {a : O} (hz : ord[i]? = some z) (ha : l[z.toNat]? = some a) : okR a (doL (repC l a.key (false, 0) (ord.take i)) a).2 :=
  ((rep_step (h.vp i).some hz ha).1 (repK_take h.someA (h.rep a.key))).2 rfl
noncomputable def verB (l : List O) (ord : List Int) : Bool := @decide (VerOK l ord) (Classical.propDecidable _)
theorem verB_iff {l : List O} {ord : List Int} : verB l ord = true ↔ VerOK l ord := by unfold verB; exact @decide_eq_true_iff _ (Classical.propDecidable _)
theorem verB_not {l : List O} {ord : List Int} (h : ¬ VerOK l ord) : verB l ord = false := by unfold verB; exact @decide_eq_false _ (Classical.propDecidable _) h
theorem VerOK.of {l : List O} {ord : List Int} (hv : Valid l) (h : Vp l ord ord.length) (ha : ∀ (i : Nat) a, l[i]? = some a → 0 ≤ a.rsp → (i : Int) ∈ ord) (hr : ∀ k, repK l k (false, 0) ord) : VerOK l ord := by
  obtain ⟨h1, h2, h3⟩ := h
  rw [List.take_length] at h1 h2 h3
  exact ⟨hv, h1, h2, h3, ha, hr⟩
/-- a key that no operation has -/
theorem repK_none {l : List O} {k : Ky} (hk : k ∉ keysO l) : ∀ {x : List Int} {c : Cell}, repK l k c x
  | [], _ => trivial
  | z :: x, c => by
    intro a ha
    rw [if_neg (fun e => hk (by subst e; exact keysO_mem (List.mem_of_getElem? ha)))]
    exact repK_none hk
/-- the first n indices, as the program's first loop has seen them -/
structure W1 (l : List O) (ord : List Int) (n : Nat) : Prop where
  rng : ∀ z ∈ ord.take n, 0 ≤ z ∧ z < l.length
  nd : (ord.take n).Nodup
  rep : ∀ k, repK l k (false, 0) (ord.take n)
theorem W1.zero (l : List O) (ord : List Int) : W1 l ord 0 := ⟨by simp, by simp, fun k => by simp [repK]⟩
theorem W1.someA {l : List O} {ord : List Int} {n : Nat} (h : W1 l ord n) : ∀ z ∈ ord.take n, ∃ a, l[z.toNat]? = some a := fun z hz => by
  obtain ⟨h1, h2⟩ := h.rng z hz
  exact ⟨_, List.getElem?_eq_getElem (show z.toNat < l.length by omega)⟩
theorem W1.step {l : List O} {ord : List Int} {n : Nat} {z : Int} {a : O} (h : W1 l ord n) (hz : ord[n]? = some z) (h0 : 0 ≤ z ∧ z < l.length) (hn : z ∉ ord.take n) (ha : l[z.toNat]? = some a) (hok : okR a (doL (repC l a.key (false, 0) (ord.take n)) a).2) : W1 l ord (n + 1) := by
  refine ⟨?_, ?_, fun k => ?_⟩
  · rw [take_snoc hz]
    intro y hy
    rcases List.mem_append.1 hy with h1 | h1
    · exact h.rng y h1
    · simp at h1; subst h1; exact h0
  · rw [take_snoc hz, List.nodup_append]
    refine ⟨h.nd, by simp, fun x hx y hy => ?_⟩
    simp at hy; subst hy
    rintro rfl; exact hn hx
  · rw [rep_step h.someA hz ha]
    exact ⟨h.rep k, fun e => by subst e; exact hok⟩
/-- what the second loop has seen -/
structure W2 (l : List O) (ord : List Int) (i : Nat) : Prop where
  all : ∀ (j : Nat) a, j < i → l[j]? = some a → 0 ≤ a.rsp → (j : Int) ∈ ord
  pr : ∀ (j k n m : Nat), j < i → ord[n]? = some (j : Int) → ord[m]? = some (k : Int) → m < n → NoPr l (k : Int) (j : Int)
theorem W2.zero (l : List O) (ord : List Int) : W2 l ord 0 := ⟨fun _ _ h => absurd h (Nat.not_lt_zero _), fun _ _ _ _ h => absurd h (Nat.not_lt_zero _)⟩
theorem W2.ver {l : List O} {ord : List Int} (hv : Valid l) (h1 : W1 l ord ord.length) (h2 : W2 l ord l.length) : VerOK l ord := by
  obtain ⟨r, n, p⟩ := h1
  rw [List.take_length] at r n
  refine ⟨hv, r, n, ?_, fun i a ha h0 => h2.all i a (List.getElem?_eq_some_iff.1 ha).1 ha h0, fun k => by have := p k; rwa [List.take_length] at this⟩
  rw [List.pairwise_iff_getElem]
  intro m n' hm hn hlt a b ha hb
  have rm := r _ (List.getElem_mem hm); have rn := r _ (List.getElem_mem hn)
  have e1 : ord[m]? = some (((ord[m]).toNat : Nat) : Int) := by rw [List.getElem?_eq_getElem hm, Int.toNat_of_nonneg rm.1]
  have e2 : ord[n']? = some (((ord[n']).toNat : Nat) : Int) := by rw [List.getElem?_eq_getElem hn, Int.toNat_of_nonneg rn.1]
  exact h2.pr _ _ n' m (by omega) e2 e1 hlt a b (by rw [Int.toNat_natCast]; exact ha) (by rw [Int.toNat_natCast]; exact hb)
theorem VerOK.no {l : List O} {ord : List Int} (h : VerOK l ord) {j k n m : Nat} (hn : ord[n]? = some (j : Int)) (hm : ord[m]? = some (k : Int)) (hlt : m < n) : NoPr l (k : Int) (j : Int) := by
  obtain ⟨p1, q1⟩ := List.getElem?_eq_some_iff.1 hn
  obtain ⟨p2, q2⟩ := List.getElem?_eq_some_iff.1 hm
  have := (List.pairwise_iff_getElem.1 h.prec) m n p2 p1 hlt
  rw [q1, q2] at this
  exact this
end Go.Proofs.Ytbgppnkccbhbpaa.HistLaw
