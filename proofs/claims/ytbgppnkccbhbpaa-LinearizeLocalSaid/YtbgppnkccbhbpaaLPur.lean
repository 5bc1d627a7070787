/- Linearizability of histories: in plain Lean. -/
import Derived.Test.YtbgppnkccbhbpaaHPureK
import Derived.Laws.Bits64b
namespace Go.Proofs.Ytbgppnkccbhbpaa.HistLaw
set_option linter.unusedVariables false
set_option linter.unusedSimpArgs false

abbrev Cell := Bool × Int
def w64 (x : Int) : Int := IntKind.i64.wrap x
/-- one operation on a cell: the cell after it, and the result (found, value) -/
def doL (c : Cell) (o : O) : Cell × Cell :=
  if o.kd = 1 then ((true, o.val), (true, o.val))
  else if o.kd = 3 then ((true, w64 (c.2 + o.val)), (true, w64 (c.2 + o.val)))
  else if o.kd = 2 then (if c.1 = true ∧ c.2 = o.old then ((true, o.val), (true, o.val)) else (c, (false, c.2)))
  else (c, c)
def okR (o : O) (r : Cell) : Prop := 0 ≤ o.rsp → o.code = 0 ∧ o.fnd = r.1 ∧ o.rv = r.2
instance (o : O) (r : Cell) : Decidable (okR o r) := inferInstanceAs (Decidable (_ → _))

/-! ### bits -/
def addB (t i : Nat) : Nat := t ||| 2 ^ i
theorem addB_bit (t i k : Nat) : (addB t i).testBit k = (t.testBit k || decide (i = k)) := by
  unfold addB
  rw [Nat.testBit_or, Nat.testBit_two_pow]
theorem addB_lt {t i : Nat} (h : t < 2 ^ 60) (hi : i < 60) : addB t i < 2 ^ 60 := Nat.or_lt_two_pow h (Nat.pow_lt_pow_right (by decide) hi)
theorem pow60 : (2 : Nat) ^ 60 = 1152921504606846976 := by decide
theorem bit_div {t i : Nat} (ht : t < 2 ^ 60) : bits .and .u64 ((t : Int) / 2 ^ i) 1 = if t.testBit i = true then 1 else 0 := by
  have e : (t : Int) / 2 ^ i = ((t / 2 ^ i : Nat) : Int) := by simp
  have hlt : t / 2 ^ i < 18446744073709551616 := Nat.lt_of_le_of_lt (Nat.div_le_self _ _) (by rw [pow60] at ht; omega)
  rw [e]
  have h := bits_and_u64_nat (t / 2 ^ i) 1 hlt (by decide)
  rw [show ((1 : Nat) : Int) = 1 from rfl] at h
  rw [h, Nat.and_one_is_mod, ← Nat.shiftRight_eq_div_pow, Nat.testBit]
  rcases Nat.mod_two_eq_zero_or_one (t >>> i) with h2 | h2
  · simp [h2, Nat.and_comm 1, Nat.and_one_is_mod]
  · simp [h2, Nat.and_comm 1, Nat.and_one_is_mod]
theorem bit_or {t i : Nat} (ht : t < 2 ^ 60) (hi : i < 60) : bits .or .u64 (t : Int) ((2 ^ i : Nat) : Int) = ((addB t i : Nat) : Int) := by
  have h1 : 2 ^ i < 2 ^ 60 := Nat.pow_lt_pow_right (by decide) hi
  rw [pow60] at ht h1
  exact bits_or_u64_nat t (2 ^ i) (by omega) (by omega)
theorem bit_shl {i : Nat} (hi : i < 60) : IntKind.u64.wrap (1 * 2 ^ (i : Int).toNat) = ((2 ^ i : Nat) : Int) := by
  have h1 : 2 ^ i < 2 ^ 60 := Nat.pow_lt_pow_right (by decide) hi
  rw [pow60] at h1
  rw [Int.toNat_natCast, Int.one_mul, show ((2 : Int) ^ i) = ((2 ^ i : Nat) : Int) by simp, IntKind.wrap_u64]
  generalize 2 ^ i = k at h1 ⊢
  omega
theorem bit_sub {t m : Nat} (ht : t < 2 ^ 60) (hm : m < 2 ^ 60) : (bits .and .u64 (t : Int) (m : Int) = (m : Int)) ↔ ∀ k, m.testBit k = true → t.testBit k = true := by
  rw [pow60] at ht hm
  rw [bits_and_u64_nat t m (by omega) (by omega)]
  constructor
  · intro h k hk
    have h1 : t &&& m = m := by omega
    rw [← h1, Nat.testBit_and] at hk
    exact (Bool.and_eq_true _ _ ▸ hk).1
  · intro h
    have h1 : t &&& m = m := Nat.eq_of_testBit_eq fun k => by
      rw [Nat.testBit_and]
      cases hk : m.testBit k with
      | false => simp
      | true => simp [h k hk]
    rw [h1]
theorem bit_andNot {b t : Nat} (hb : b < 2 ^ 60) (ht : t < 2 ^ 60) : (bits .andNot .u64 (b : Int) (t : Int) ≠ 0) ↔ ∃ k, b.testBit k = true ∧ t.testBit k = false := by
  rw [pow60] at hb ht
  have h1 : (BitVec.ofInt 64 (b : Int)).toNat = b := by
    rw [BitVec.ofInt_natCast, BitVec.toNat_ofNat]; exact Nat.mod_eq_of_lt (by omega)
  have h2 : (BitVec.ofInt 64 (t : Int)).toNat = t := by
    rw [BitVec.ofInt_natCast, BitVec.toNat_ofNat]; exact Nat.mod_eq_of_lt (by omega)
  have e : bits .andNot .u64 (b : Int) (t : Int) = (((BitVec.ofInt 64 (b : Int) &&& ~~~BitVec.ofInt 64 (t : Int)).toNat : Nat) : Int) := by
    show IntKind.u64.wrap ((BitVec.ofInt 64 (b : Int) &&& ~~~BitVec.ofInt 64 (t : Int)).toNat : Int) = _
    rw [IntKind.wrap_u64]
    have := (BitVec.ofInt 64 (b : Int) &&& ~~~BitVec.ofInt 64 (t : Int)).isLt
    omega
  have tb : ∀ k, (BitVec.ofInt 64 (b : Int) &&& ~~~BitVec.ofInt 64 (t : Int)).toNat.testBit k = (b.testBit k && (decide (k < 64) && !t.testBit k)) := fun k => by
    rw [BitVec.testBit_toNat, BitVec.getLsbD_and, BitVec.getLsbD_not, ← BitVec.testBit_toNat, ← BitVec.testBit_toNat, h1, h2]
  have b64 : ∀ k, b.testBit k = true → k < 64 := fun k hk => by
    apply Classical.byContradiction
    intro hn
    have : b < 2 ^ k := Nat.lt_of_lt_of_le (show b < 2 ^ 64 by omega) (Nat.pow_le_pow_right (by decide) (by omega))
    rw [Nat.testBit_lt_two_pow this] at hk; cases hk
  rw [e]
  constructor
  · intro h
    apply Classical.byContradiction
    intro hn
    apply h
    have : (BitVec.ofInt 64 (b : Int) &&& ~~~BitVec.ofInt 64 (t : Int)).toNat = 0 := Nat.eq_of_testBit_eq fun k => by
      rw [tb, Nat.zero_testBit]
      cases hk : b.testBit k with
      | false => rfl
      | true =>
        cases hk2 : t.testBit k with
        | false => exact absurd ⟨k, hk, hk2⟩ hn
        | true => simp
    rw [this]; rfl
  · rintro ⟨k, hk, hk2⟩ h
    have h3 := tb k
    rw [show (BitVec.ofInt 64 (b : Int) &&& ~~~BitVec.ofInt 64 (t : Int)).toNat = 0 by omega, Nat.zero_testBit, hk, hk2] at h3
    simp [b64 k hk] at h3
theorem bit_hi {t k : Nat} (ht : t < 2 ^ 60) (hk : t.testBit k = true) : k < 60 := by
  apply Classical.byContradiction
  intro hn
  have : t < 2 ^ k := Nat.lt_of_lt_of_le ht (Nat.pow_le_pow_right (by decide) (by omega))
  rw [Nat.testBit_lt_two_pow this] at hk; cases hk

/-! ### the search on one key -/
def freeL (l : List O) (t i : Nat) : Prop := t.testBit i = false ∧ ∀ (k : Nat) b a, l[k]? = some b → l[i]? = some a → Prec b a → t.testBit k = true
def doneL (l : List O) (t : Nat) : Prop := ∀ (i : Nat) a, l[i]? = some a → 0 ≤ a.rsp → t.testBit i = true
def Run (l : List O) : Nat → Cell → List Nat → Prop
  | t, c, [] => doneL l t
  | t, c, i :: r => ∃ a, l[i]? = some a ∧ freeL l t i ∧ okR a (doL c a).2 ∧ Run l (addB t i) (doL c a).1 r
def Live (l : List O) (t : Nat) (c : Cell) : Prop := ∃ r, Run l t c r
theorem Live.done {l : List O} {t : Nat} {c : Cell} (h : doneL l t) : Live l t c := ⟨[], h⟩
theorem Live.step {l : List O} {t i : Nat} {c : Cell} {a : O} (ha : l[i]? = some a) (hf : freeL l t i) (ho : okR a (doL c a).2) (h : Live l (addB t i) (doL c a).1) : Live l t c := by
  obtain ⟨r, hr⟩ := h
  exact ⟨i :: r, a, ha, hf, ho, hr⟩
theorem live_iff {l : List O} {t : Nat} {c : Cell} : Live l t c ↔ doneL l t ∨ ∃ (i : Nat) (a : O), l[i]? = some a ∧ freeL l t i ∧ okR a (doL c a).2 ∧ Live l (addB t i) (doL c a).1 := by
  constructor
  · rintro ⟨r, hr⟩
    cases r with
    | nil => exact .inl hr
    | cons i r =>
      obtain ⟨a, ha, hf, ho, hr⟩ := hr
      exact .inr ⟨i, a, ha, hf, ho, r, hr⟩
  · rintro (h | ⟨i, a, ha, hf, ho, h⟩)
    · exact .done h
    · exact .step ha hf ho h
/-- how many are not taken -/
def cnt (n t : Nat) : Nat := ((List.range n).filter fun i => !t.testBit i).length
theorem cnt_le (n t : Nat) : cnt n t ≤ n := by
  have := List.length_filter_le (fun i => !t.testBit i) (List.range n)
  rw [List.length_range] at this
  exact this
theorem cnt_add {n t i : Nat} (hi : i < n) (ht : t.testBit i = false) : cnt n (addB t i) + 1 = cnt n t := by
  have key : ∀ m, (((List.range m).filter fun k => !(addB t i).testBit k).length) + (if i < m then 1 else 0) = ((List.range m).filter fun k => !t.testBit k).length := by
    intro m
    induction m with
    | zero => simp
    | succ m ih =>
      rw [List.range_succ, List.filter_append, List.filter_append, List.length_append, List.length_append]
      by_cases e : i = m
      · subst e
        rw [if_neg (Nat.lt_irrefl _)] at ih
        rw [if_pos (Nat.lt_succ_self _)]
        simp [addB_bit, ht] at ih ⊢
        exact ih
      · have h2 : (!(addB t i).testBit m) = (!t.testBit m) := by rw [addB_bit]; simp [e]
        have h3 : (if i < m + 1 then 1 else 0) = (if i < m then 1 else 0) := by
          by_cases h : i < m
          · rw [if_pos h, if_pos (by omega)]
          · rw [if_neg h, if_neg (by omega)]
        rw [h3, List.filter_cons, List.filter_cons, h2]
        split
        · simp only [List.filter_nil, List.length_cons, List.length_nil]; omega
        · simp only [List.filter_nil, List.length_nil]; omega
  have := key n
  rw [if_pos hi] at this
  exact this
abbrev SK := Nat × Cell
/-- what the search has seen: those with no more to take than t are dead -/
def SeenOK (l : List O) (S : SK → Prop) (n t : Nat) : Prop := ∀ s, S s → cnt n s.1 ≤ cnt n t → ¬ Live l s.1 s.2

theorem Run.lt {l : List O} : ∀ {r : List Nat} {t : Nat} {c : Cell}, Run l t c r → ∀ i ∈ r, i < l.length
  | [], _, _, _, i, hi => by cases hi
  | j :: r, t, c, h, i, hi => by
    obtain ⟨a, ha, hf, ho, hr⟩ := h
    rcases List.mem_cons.1 hi with h1 | h1
    · subst h1; exact (List.getElem?_eq_some_iff.1 ha).1
    · exact Run.lt hr i h1
/-- the set taken after some steps -/
def tk (t : Nat) (r : List Nat) : Nat := r.foldl addB t
theorem tk_bit : ∀ (r : List Nat) (t k : Nat), (tk t r).testBit k = (t.testBit k || decide (k ∈ r))
  | [], t, k => by simp [tk]
  | i :: r, t, k => by
    show (tk (addB t i) r).testBit k = _
    rw [tk_bit r, addB_bit]
    by_cases e : i = k
    · subst e; simp
    · simp [e, Ne.symm e]
theorem Run.fresh {l : List O} : ∀ {r : List Nat} {t : Nat} {c : Cell}, Run l t c r → r.Nodup ∧ ∀ i ∈ r, t.testBit i = false
  | [], _, _, _ => ⟨.nil, fun i hi => by cases hi⟩
  | j :: r, t, c, h => by
    obtain ⟨a, ha, hf, ho, hr⟩ := h
    obtain ⟨h1, h2⟩ := Run.fresh hr
    constructor
    · rw [List.nodup_cons]
      refine ⟨fun hj => ?_, h1⟩
      have := h2 j hj
      rw [addB_bit] at this; simp at this
    · intro i hi
      rcases List.mem_cons.1 hi with h3 | h3
      · subst h3; exact hf.1
      · have := h2 i h3
        rw [addB_bit] at this
        simp at this; exact this.1
theorem Run.all {l : List O} : ∀ {r : List Nat} {t : Nat} {c : Cell}, Run l t c r → ∀ (i : Nat) a, l[i]? = some a → 0 ≤ a.rsp → t.testBit i = true ∨ i ∈ r
  | [], _, _, h, i, a, ha, h0 => .inl (h i a ha h0)
  | j :: r, t, c, h, i, a, ha, h0 => by
    obtain ⟨b, hb, hf, ho, hr⟩ := h
    rcases Run.all hr i a ha h0 with h1 | h1
    · rw [addB_bit] at h1
      simp at h1
      rcases h1 with h1 | h1
      · exact .inl h1
      · subst h1; exact .inr (by simp)
    · exact .inr (List.mem_cons_of_mem _ h1)
/-- none stands behind one that it precedes -/
def Ordd (l : List O) (r : List Nat) : Prop := r.Pairwise fun i j => ∀ a b, l[i]? = some a → l[j]? = some b → ¬ Prec b a
theorem Run.ordd {l : List O} : ∀ {r : List Nat} {t : Nat} {c : Cell}, Run l t c r → Ordd l r
  | [], _, _, _ => .nil
  | i :: r, t, c, h => by
    have hn := Run.fresh h
    obtain ⟨a, ha, hf, ho, hr⟩ := h
    refine List.Pairwise.cons (fun j hj a' b ha' hb hp => ?_) (Run.ordd hr)
    rw [ha] at ha'; cases ha'
    have h1 := hf.2 j b a hb ha hp
    rw [hn.2 j (List.mem_cons_of_mem _ hj)] at h1; cases h1
/-- the results along an order -/
def repL (l : List O) : Cell → List Nat → Prop
  | c, [] => True
  | c, i :: r => ∃ a, l[i]? = some a ∧ okR a (doL c a).2 ∧ repL l (doL c a).1 r
theorem Run.rep {l : List O} : ∀ {r : List Nat} {t : Nat} {c : Cell}, Run l t c r → repL l c r
  | [], _, _, _ => trivial
  | i :: r, t, c, h => by
    obtain ⟨a, ha, hf, ho, hr⟩ := h
    exact ⟨a, ha, ho, Run.rep hr⟩
theorem Run.of {l : List O} (hirr : ∀ (i : Nat) a, l[i]? = some a → ¬ Prec a a) : ∀ {r : List Nat} {t : Nat} {c : Cell}, repL l c r → Ordd l r → r.Nodup → (∀ i ∈ r, t.testBit i = false) → (∀ (i : Nat) a, l[i]? = some a → 0 ≤ a.rsp → t.testBit i = true ∨ i ∈ r) → Run l t c r
  | [], t, c, _, _, _, _, h5 => fun i a ha h0 => (h5 i a ha h0).resolve_right (by simp)
  | i :: r, t, c, h1, h2, h3, h4, h5 => by
    obtain ⟨a, ha, ho, hr⟩ := h1
    unfold Ordd at h2
    rw [List.pairwise_cons] at h2
    rw [List.nodup_cons] at h3
    refine ⟨a, ha, ⟨h4 i (by simp), fun k b a' hb ha' hp => ?_⟩, ho, Run.of hirr hr h2.2 h3.2 (fun j hj => ?_) fun j b hb h0 => ?_⟩
    · rw [ha] at ha'; cases ha'
      rcases h5 k b hb hp.1 with h6 | h6
      · exact h6
      · rcases List.mem_cons.1 h6 with h7 | h7
        · subst h7
          rw [ha] at hb; cases hb
          exact absurd hp (hirr _ _ ha)
        · exact absurd hp (h2.1 k h7 a b ha hb)
    · rw [addB_bit, h4 j (List.mem_cons_of_mem _ hj)]
      simp
      intro e; subst e; exact h3.1 hj
    · rcases h5 j b hb h0 with h6 | h6
      · left; rw [addB_bit, h6]; rfl
      · rcases List.mem_cons.1 h6 with h7 | h7
        · left; subst h7; rw [addB_bit]; simp
        · exact .inr h7
end Go.Proofs.Ytbgppnkccbhbpaa.HistLaw
