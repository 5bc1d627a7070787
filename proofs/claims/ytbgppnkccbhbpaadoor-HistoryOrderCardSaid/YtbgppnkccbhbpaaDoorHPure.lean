/- Histories: what a valid one is, in plain Lean, and what follows from it. -/
import Derived.KernelRfl
namespace Go.Proofs.YtbgppnkccbhbpaaDoor.HistLaw
set_option linter.unusedVariables false

/-- an operation -/
structure O where
  cl : Int
  nu : Int
  gr : Int
  kd : Int
  key : ByteArray
  val : Int
  old : Int
  code : Int
  fnd : Bool
  rv : Int
  inv : Int
  rsp : Int

def Prec (a b : O) : Prop := 0 ≤ a.rsp ∧ a.rsp < b.inv
instance (a b : O) : Decidable (Prec a b) := inferInstanceAs (Decidable (_ ∧ _))

def OpOK (a : O) : Prop := 0 ≤ a.kd ∧ a.kd ≤ 3 ∧ 1 ≤ (a.key.size : Int) ∧ (a.key.size : Int) ≤ 31 ∧ (a.old = 0 ∨ a.kd = 2) ∧ (a.val = 0 ∨ a.kd ≠ 0)
instance (a : O) : Decidable (OpOK a) := inferInstanceAs (Decidable (_ ∧ _))

def Blank (a : O) : Prop := a.code = 0 ∧ a.fnd = false ∧ a.rv = 0
instance (a : O) : Decidable (Blank a) := inferInstanceAs (Decidable (_ ∧ _))

/-- well-formed by itself -/
def Formed (a : O) : Prop := 1 ≤ a.cl ∧ 1 ≤ a.nu ∧ 0 ≤ a.inv ∧ OpOK a ∧ (0 ≤ a.rsp ∧ a.inv < a.rsp ∨ a.rsp = -1 ∧ Blank a)
instance (a : O) : Decidable (Formed a) := inferInstanceAs (Decidable (_ ∧ _))

/-- b stands before a in a valid history -/
def Pair (b a : O) : Prop := b.inv < a.inv ∧ ¬ (0 ≤ b.rsp ∧ b.rsp = a.rsp) ∧ (b.cl = a.cl → Prec b a ∧ b.nu < a.nu)

def OKat (l : List O) (i : Nat) (a : O) : Prop :=
  Formed a ∧ (∀ z, l[0]? = some z → a.gr = z.gr) ∧ (∀ (k : Nat) b, k < i → l[k]? = some b → Pair b a) ∧ (∀ (k : Nat) b, l[k]? = some b → b.inv ≠ a.rsp)

def Valid (l : List O) : Prop := ∀ (i : Nat) a, l[i]? = some a → OKat l i a

theorem upTo {P : Nat → O → Prop} {l : List O} {i : Nat} {a : O} (hI : ∀ (i0 : Nat) a, i0 < i → l[i0]? = some a → P i0 a) (ha : l[i]? = some a) (h : P i a) : ∀ (i0 : Nat) a, i0 < i + 1 → l[i0]? = some a → P i0 a := by
  intro i0 b hlt hb
  by_cases e : i0 = i
  · subst e; rw [ha] at hb; cases hb; exact h
  · exact hI i0 b (by omega) hb
theorem upTo0 {P : Nat → O → Prop} {l : List O} : ∀ (i0 : Nat) a, i0 < 0 → l[i0]? = some a → P i0 a := fun _ _ h => absurd h (Nat.not_lt_zero _)
theorem upToLen {P : Nat → O → Prop} {l : List O} {i : Nat} (hi : l.length ≤ i) (hI : ∀ (i0 : Nat) a, i0 < i → l[i0]? = some a → P i0 a) : ∀ (i0 : Nat) a, l[i0]? = some a → P i0 a := fun i0 a h => hI i0 a (by have := (List.getElem?_eq_some_iff.1 h).1; omega) h

theorem notV {l : List O} {i : Nat} {a : O} (ha : l[i]? = some a) (h : OKat l i a → False) : false = true ↔ Valid l := by
  simp only [Bool.false_eq_true, false_iff]
  exact fun hv => h (hv i a ha)

/-! ### the check as the program makes it -/
/-- x is the moment at which one of the first i operations ended -/
def Tm (l : List O) (i : Nat) (x : Int) : Prop := ∃ (j : Nat) (a : O), j < i ∧ l[j]? = some a ∧ 0 ≤ a.rsp ∧ a.rsp = x

def HOK (l : List O) (i : Nat) (a : O) : Prop :=
  Formed a ∧ (∀ z, l[0]? = some z → a.gr = z.gr) ∧ (∀ b, 0 < i → l[i - 1]? = some b → b.inv < a.inv) ∧ ¬ Tm l i a.rsp ∧ (∀ (k : Nat) b, k < i → l[k]? = some b → b.cl = a.cl → Prec b a ∧ b.nu < a.nu)

theorem incr {l : List O} (h : ∀ (i : Nat) a, l[i]? = some a → HOK l i a) : ∀ (d k : Nat) a b, l[k]? = some b → l[k + d + 1]? = some a → b.inv < a.inv
  | 0, k, a, b, hb, ha => (h _ a ha).2.2.1 b (by omega) hb
  | d + 1, k, a, b, hb, ha => by
    obtain ⟨e, he⟩ : ∃ e, l[k + d + 1]? = some e := ⟨_, List.getElem?_eq_getElem (by have := (List.getElem?_eq_some_iff.1 ha).1; omega)⟩
    have h1 := incr h d k e b hb he
    have h2 := (h _ a ha).2.2.1 e (by omega) he
    omega

theorem hvalid {l : List O} (h : ∀ (i : Nat) a, l[i]? = some a → HOK l i a) (ht : ∀ (i : Nat) a, l[i]? = some a → ¬ Tm l l.length a.inv) : Valid l := by
  intro i a ha
  obtain ⟨h1, h2, h3, h4, h5⟩ := h i a ha
  refine ⟨h1, h2, fun k b hk hb => ⟨?_, ?_, h5 k b hk hb⟩, fun k b hb => ?_⟩
  · exact incr h (i - k - 1) k a b hb (by rw [show k + (i - k - 1) + 1 = i by omega]; exact ha)
  · rintro ⟨g1, g2⟩
    exact h4 ⟨k, b, hk, hb, g1, g2⟩
  · intro e
    have hlt := (List.getElem?_eq_some_iff.1 ha).1
    obtain ⟨_, _, g3, _, _⟩ := (h k b hb).1
    exact ht k b hb ⟨i, a, hlt, ha, by omega, e.symm⟩

theorem Valid.hok {l : List O} (hv : Valid l) {i : Nat} {a : O} (ha : l[i]? = some a) : HOK l i a := by
  obtain ⟨h1, h2, h3, h4⟩ := hv i a ha
  refine ⟨h1, h2, fun b hi hb => (h3 _ b (by omega) hb).1, ?_, fun k b hk hb => (h3 k b hk hb).2.2⟩
  rintro ⟨j, b, hj, hb, g1, g2⟩
  exact (h3 j b hj hb).2.1 ⟨g1, g2⟩

theorem Valid.notm {l : List O} (hv : Valid l) {i : Nat} {a : O} (ha : l[i]? = some a) : ¬ Tm l l.length a.inv := by
  rintro ⟨j, b, _, hb, g1, g2⟩
  exact (hv j b hb).2.2.2 i a ha g2.symm

theorem notH {l : List O} {i : Nat} {a : O} (ha : l[i]? = some a) (h : HOK l i a → False) : false = true ↔ Valid l := by
  simp only [Bool.false_eq_true, false_iff]
  exact fun hv => h (hv.hok ha)

theorem Tm.succ {l : List O} {i : Nat} {a : O} (ha : l[i]? = some a) (x : Int) : Tm l (i + 1) x ↔ Tm l i x ∨ (0 ≤ a.rsp ∧ a.rsp = x) := by
  constructor
  · rintro ⟨j, b, hj, hb, g⟩
    by_cases e : j = i
    · subst e; rw [ha] at hb; cases hb; exact .inr g
    · exact .inl ⟨j, b, by omega, hb, g⟩
  · rintro (⟨j, b, hj, hb, g⟩ | g)
    · exact ⟨j, b, by omega, hb, g⟩
    · exact ⟨i, a, by omega, ha, g⟩

/-! ### Precedes on a valid history -/
theorem Valid.resp {l : List O} (hv : Valid l) {i : Nat} {a : O} (ha : l[i]? = some a) (h : 0 ≤ a.rsp) : a.inv < a.rsp := by
  obtain ⟨⟨_, _, _, _, h5⟩, _⟩ := hv i a ha
  omega
theorem Valid.lt {l : List O} (hv : Valid l) {i j : Nat} {a b : O} (ha : l[i]? = some a) (hb : l[j]? = some b) (hij : i < j) : a.inv < b.inv := ((hv j b hb).2.2.1 i a hij ha).1
theorem Valid.prec_lt {l : List O} (hv : Valid l) {i j : Nat} {a b : O} (ha : l[i]? = some a) (hb : l[j]? = some b) (h : Prec a b) : i < j := by
  obtain ⟨h1, h2⟩ := h
  have := hv.resp ha h1
  apply Classical.byContradiction
  intro hn
  by_cases e : i = j
  · subst e; rw [ha] at hb; cases hb; omega
  · have := hv.lt hb ha (by omega); omega
theorem Valid.trans {l : List O} (hv : Valid l) {j : Nat} {a b c : O} (hb : l[j]? = some b) (h1 : Prec a b) (h2 : Prec b c) : Prec a c := by
  obtain ⟨h1, h3⟩ := h1
  obtain ⟨h4, h5⟩ := h2
  have := hv.resp hb h4
  exact ⟨h1, by omega⟩

/-! ### operations out of events -/
structure Ev where
  ek : Int
  mach : Int
  cl : Int
  nu : Int
  gr : Int
  kd : Int
  key : ByteArray
  val : Int
  old : Int
  code : Int
  fnd : Bool
  rv : Int

structure OS where
  out : List O
  opn : Int × Int → Option Nat

def opOf (g : Int) (i : Nat) (e : Ev) : O := { cl := e.cl, nu := e.nu, gr := g, kd := e.kd, key := e.key, val := e.val, old := e.old, code := 0, fnd := false, rv := 0, inv := i, rsp := -1 }
def respond (i : Nat) (e : Ev) (o : O) : O := { o with rsp := i, code := e.code, fnd := e.fnd, rv := e.rv }

def ofStep (g : Int) (i : Nat) (e : Ev) (s : OS) : OS :=
  if e.gr = g then
    if e.ek = 0 then ⟨s.out ++ [opOf g i e], fun k => if k = (e.cl, e.nu) then some s.out.length else s.opn k⟩
    else if e.ek = 1 then
      match s.opn (e.cl, e.nu) with
      | some k => ⟨s.out.modify k (respond i e), fun k' => if k' = (e.cl, e.nu) then none else s.opn k'⟩
      | none => s
    else s
  else s

def ofN (g : Int) (l : List Ev) : Nat → OS
  | 0 => ⟨[], fun _ => none⟩
  | n + 1 => match l[n]? with
    | some e => ofStep g n e (ofN g l n)
    | none => ofN g l n

theorem ofN_succ {g : Int} {l : List Ev} {n : Nat} {e : Ev} (h : l[n]? = some e) : ofN g l (n + 1) = ofStep g n e (ofN g l n) := by simp [ofN, h]

theorem ofStep_len {g : Int} {i : Nat} {e : Ev} {s : OS} : s.out.length ≤ (ofStep g i e s).out.length ∧ (ofStep g i e s).out.length ≤ s.out.length + 1 := by
  unfold ofStep
  split
  · split
    · simp
    · split
      · split <;> simp
      · simp
  · simp

theorem ofN_len {g : Int} {l : List Ev} : ∀ (n : Nat), (ofN g l n).out.length ≤ n
  | 0 => by simp [ofN]
  | n + 1 => by
    have := ofN_len (g := g) (l := l) n
    unfold ofN
    split
    · have := (ofStep_len (g := g) (i := n) (e := ‹_›) (s := ofN g l n)).2; omega
    · omega

theorem ofN_opn {g : Int} {l : List Ev} : ∀ (n : Nat) (k : Int × Int) (j : Nat), (ofN g l n).opn k = some j → j < (ofN g l n).out.length
  | 0, k, j, h => by simp [ofN] at h
  | n + 1, k, j, h => by
    have ih := ofN_opn (g := g) (l := l) n
    unfold ofN at h ⊢
    split at h
    · rename_i e he
      have hle := (ofStep_len (g := g) (i := n) (e := e) (s := ofN g l n)).1
      try simp only [he]
      unfold ofStep at h hle ⊢
      split at h
      · split at h
        · simp only at h
          split at h
          · cases h; simp [*]
          · have := ih _ _ h; simp [*]; omega
        · split at h
          · split at h
            · simp only at h
              split at h
              · cases h
              · have := ih _ _ h; simp [*]
            · have := ih _ _ h; simp [*]
          · have := ih _ _ h; simp [*]
      · have := ih _ _ h; simp [*]
    · rename_i he
      try simp only [he]
      exact ih _ _ h

end Go.Proofs.YtbgppnkccbhbpaaDoor.HistLaw
