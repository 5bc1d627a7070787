/- Histories: what a valid one is, in plain Lean, and what follows from it. -/
import Derived.KernelRfl
namespace Go.Proofs.Ytbgppnkccbhbpaa.HistLaw
set_option linter.unusedVariables false

/-- an operation -/
structure O where
  cl : Int
  nu : Int
  gr : Int
  kd : Int
  key : ByteArray
  val : Int
  old : Int
  code : Int
  fnd : Bool
  rv : Int
  inv : Int
  rsp : Int

def Prec (a b : O) : Prop := 0 ≤ a.rsp ∧ a.rsp < b.inv
instance (a b : O) : Decidable (Prec a b) := inferInstanceAs (Decidable (_ ∧ _))

def OpOK (a : O) : Prop := 0 ≤ a.kd ∧ a.kd ≤ 3 ∧ 1 ≤ (a.key.size : Int) ∧ (a.key.size : Int) ≤ 31 ∧ (a.old = 0 ∨ a.kd = 2) ∧ (a.val = 0 ∨ a.kd ≠ 0)
instance (a : O) : Decidable (OpOK a) := inferInstanceAs (Decidable (_ ∧ _))

def Blank (a : O) : Prop := a.code = 0 ∧ a.fnd = false ∧ a.rv = 0
instance (a : O) : Decidable (Blank a) := inferInstanceAs (Decidable (_ ∧ _))

/-- well-formed by itself -/
def Formed (a : O) : Prop := 1 ≤ a.cl ∧ 1 ≤ a.nu ∧ 0 ≤ a.inv ∧ OpOK a ∧ (0 ≤ a.rsp ∧ a.inv < a.rsp ∨ a.rsp = -1 ∧ Blank a)
instance (a : O) : Decidable (Formed a) := inferInstanceAs (Decidable (_ ∧ _))

/-- b stands before a in a valid history -/
def Pair (b a : O) : Prop := b.inv < a.inv ∧ ¬ (0 ≤ b.rsp ∧ b.rsp = a.rsp) ∧ (b.cl = a.cl → Prec b a ∧ b.nu < a.nu)

def OKat (l : List O) (i : Nat) (a : O) : Prop :=
  Formed a ∧ (∀ z, l[0]? = some z → a.gr = z.gr) ∧ (∀ (k : Nat) b, k < i → l[k]? = some b → Pair b a) ∧ (∀ (k : Nat) b, l[k]? = some b → b.inv ≠ a.rsp)

def Valid (l : List O) : Prop := ∀ (i : Nat) a, l[i]? = some a → OKat l i a

theorem upTo {P : Nat → O → Prop} {l : List O} {i : Nat} {a : O} (hI : ∀ (i0 : Nat) a, i0 < i → l[i0]? = some a → P i0 a) (ha : l[i]? = some a) (h : P i a) : ∀ (i0 : Nat) a, i0 < i + 1 → l[i0]? = some a → P i0 a := by
  intro i0 b hlt hb
  by_cases e : i0 = i
  · subst e; rw [ha] at hb; cases hb; exact h
  · exact hI i0 b (by omega) hb
theorem upTo0 {P : Nat → O → Prop} {l : List O} : ∀ (i0 : Nat) a, i0 < 0 → l[i0]? = some a → P i0 a := fun _ _ h => absurd h (Nat.not_lt_zero _)
theorem upToLen {P : Nat → O → Prop} {l : List O} {i : Nat} (hi : l.length ≤ i) (hI : ∀ (i0 : Nat) a, i0 < i → l[i0]? = some a → P i0 a) : ∀ (i0 : Nat) a, l[i0]? = some a → P i0 a := fun i0 a h => hI i0 a (by have := (List.getElem?_eq_some_iff.1 h).1; omega) h

theorem notV {l : List O} {i : Nat} {a : O} (ha : l[i]? = some a) (h : OKat l i a → False) : false = true ↔ Valid l := by
  simp only [Bool.false_eq_true, false_iff]
  exact fun hv => h (hv i a ha)

/-! ### the check as the program makes it -/
/-- x is the moment at which one of the first i operations ended -/
def Tm (l : List O) (i : Nat) (x : Int) : Prop := ∃ (j : Nat) (a : O), j < i ∧ l[j]? = some a ∧ 0 ≤ a.rsp ∧ a.rsp = x

def HOK (l : List O) (i : Nat) (a : O) : Prop :=
  Formed a ∧ (∀ z, l[0]? = some z → a.gr = z.gr) ∧ (∀ b, 0 < i → l[i - 1]? = some b → b.inv < a.inv) ∧ ¬ Tm l i a.rsp ∧ (∀ (k : Nat) b, k < i → l[k]? = some b → b.cl = a.cl → Prec b a ∧ b.nu < a.nu)

theorem incr {l : List O} (h : ∀ (i : Nat) a, l[i]? = some a → HOK l i a) : ∀ (d k : Nat) a b, l[k]? = some b → l[k + d + 1]? = some a → b.inv < a.inv
  | 0, k, a, b, hb, ha => (h _ a ha).2.2.1 b (by omega) hb
  | d + 1, k, a, b, hb, ha => by
    obtain ⟨e, he⟩ : ∃ e, l[k + d + 1]? = some e := ⟨_, List.getElem?_eq_getElem (by have := (List.getElem?_eq_some_iff.1 ha).1; omega)⟩
    have h1 := incr h d k e b hb he
    have h2 := (h _ a ha).2.2.1 e (by omega) he
    omega

theorem hvalid {l : List O} (h : ∀ (i : Nat) a, l[i]? = some a → HOK l i a) (ht : ∀ (i : Nat) a, l[i]? = some a → ¬ Tm l l.length a.inv) : Valid l := by
  intro i a ha
  obtain ⟨h1, h2, h3, h4, h5⟩ := h i a ha
  refine ⟨h1, h2, fun k b hk hb => ⟨?_, ?_, h5 k b hk hb⟩, fun k b hb => ?_⟩
  · exact incr h (i - k - 1) k a b hb (by rw [show k + (i - k - 1) + 1 = i by omega]; exact ha)
  · rintro ⟨g1, g2⟩
    exact h4 ⟨k, b, hk, hb, g1, g2⟩
  · intro e
    have hlt := (List.getElem?_eq_some_iff.1 ha).1
    obtain ⟨_, _, g3, _, _⟩ := (h k b hb).1
    exact ht k b hb ⟨i, a, hlt, ha, by omega, e.symm⟩

theorem Valid.hok {l : List O} (hv : Valid l) {i : Nat} {a : O} (ha : l[i]? = some a) : HOK l i a := by
  obtain ⟨h1, h2, h3, h4⟩ := hv i a ha
  refine ⟨h1, h2, fun b hi hb => (h3 _ b (by omega) hb).1, ?_, fun k b hk hb => (h3 k b hk hb).2.2⟩
  rintro ⟨j, b, hj, hb, g1, g2⟩
  exact (h3 j b hj hb).2.1 ⟨g1, g2⟩

theorem Valid.notm {l : List O} (hv : Valid l) {i : Nat} {a : O} (ha : l[i]? = some a) : ¬ Tm l l.length a.inv := by
  rintro ⟨j, b, _, hb, g1, g2⟩
  exact (hv j b hb).2.2.2 i a ha g2.symm

theorem notH {l : List O} {i : Nat} {a : O} (ha : l[i]? = some a) (h : HOK l i a → False) : false = true ↔ Valid l := by
  simp only [Bool.false_eq_true, false_iff]
  exact fun hv => h (hv.hok ha)

theorem Tm.succ {l : List O} {i : Nat} {a : O} (ha : l[i]? = some a) (x : Int) : Tm l (i + 1) x ↔ Tm l i x ∨ (0 ≤ a.rsp ∧ a.rsp = x) := by
  constructor
  · rintro ⟨j, b, hj, hb, g⟩
    by_cases e : j = i
    · subst e; rw [ha] at hb; cases hb; exact .inr g
    · exact .inl ⟨j, b, by omega, hb, g⟩
  · rintro (⟨j, b, hj, hb, g⟩ | g)
    · exact ⟨j, b, by omega, hb, g⟩
    · exact ⟨i, a, by omega, ha, g⟩

/-! ### Precedes on a valid history -/
theorem Valid.resp {l : List O} (hv : Valid l) {i : Nat} {a : O} (ha : l[i]? = some a) (h : 0 ≤ a.rsp) : a.inv < a.rsp := by
  obtain ⟨⟨_, _, _, _, h5⟩, _⟩ := hv i a ha
  omega
theorem Valid.lt {l : List O} (hv : Valid l) {i j : Nat} {a b : O} (ha : l[i]? = some a) (hb : l[j]? = some b) (hij : i < j) : a.inv < b.inv := ((hv j b hb).2.2.1 i a hij ha).1
theorem Valid.prec_lt {l : List O} (hv : Valid l) {i j : Nat} {a b : O} (ha : l[i]? = some a) (hb : l[j]? = some b) (h : Prec a b) : i < j := by
  obtain ⟨h1, h2⟩ := h
  have := hv.resp ha h1
  apply Classical.byContradiction
  intro hn
  by_cases e : i = j
  · subst e; rw [ha] at hb; cases hb; omega
  · have := hv.lt hb ha (by omega); omega
theorem Valid.trans {l : List O} (hv : Valid l) {j : Nat} {a b c : O} (hb : l[j]? = some b) (h1 : Prec a b) (h2 : Prec b c) : Prec a c := by
  obtain ⟨h1, h3⟩ := h1
  obtain ⟨h4, h5⟩ := h2
  have := hv.resp hb h4
  exact ⟨h1, by omega⟩

/-! ### operations out of events -/
structure Ev where
  ek : Int
  mach : Int
  cl : Int
  nu : Int
  gr : Int
  kd : Int
  key : ByteArray
  val : Int
  old : Int
  code : Int
  fnd : Bool
  rv : Int

structure OS where
  out : List O
  opn : Int × Int → Option Nat

def opOf (g : Int) (i : Nat) (e : Ev) : O := { cl := e.cl, nu := e.nu, gr := g, kd := e.kd, key := e.key, val := e.val, old := e.old, code := 0, fnd := false, rv := 0, inv := i, rsp := -1 }
def respond (i : Nat) (e : Ev) (o : O) : O := { o with rsp := i, code := e.code, fnd := e.fnd, rv := e.rv }

def ofStep (g : Int) (i : Nat) (e : Ev) (s : OS) : OS :=
  if e.gr = g then
    if e.ek = 0 then ⟨s.out ++ [opOf g i e], fun k => if k = (e.cl, e.nu) then some s.out.length else s.opn k⟩
    else if e.ek = 1 then
      match s.opn (e.cl, e.nu) with
      | some k => ⟨s.out.modify k (respond i e), fun k' => if k' = (e.cl, e.nu) then none else s.opn k'⟩
      | none => s
    else s
  else s

def ofN (g : Int) (l : List Ev) : Nat → OS
  | 0 => ⟨[], fun _ => none⟩
  | n + 1 => match l[n]? with
    | some e => ofStep g n e (ofN g l n)
    | none => ofN g l n

theorem ofN_succ {g : Int} {l : List Ev} {n : Nat} {e : Ev} (h : l[n]? = some e) : ofN g l (n + 1) = ofStep g n e (ofN g l n) := by simp [ofN, h]

theorem ofStep_len {g : Int} {i : Nat} {e : Ev} {s : OS} : s.out.length ≤ (ofStep g i e s).out.length ∧ (ofStep g i e s).out.length ≤ s.out.length + 1 := by
  unfold ofStep
  split
  · split
    · simp
    · split
      · split <;> simp
      · simp
  · simp

theorem ofN_len {g : Int} {l : List Ev} : ∀ (n : Nat), (ofN g l n).out.length ≤ n
  | 0 => by simp [ofN]
  | n + 1 => by
    have := ofN_len (g := g) (l := l) n
    unfold ofN
    split
    · have := (ofStep_len (g := g) (i := n) (e := ‹_›) (s := ofN g l n)).2; omega
    · omega

theorem ofN_opn {g : Int} {l : List Ev} : ∀ (n : Nat) (k : Int × Int) (j : Nat), (ofN g l n).opn k = some j → j < (ofN g l n).out.length
  | 0, k, j, h => by simp [ofN] at h
  | n + 1, k, j, h => by
    have ih := ofN_opn (g := g) (l := l) n
    unfold ofN at h ⊢
    split at h
    · rename_i e he
      have hle := (ofStep_len (g := g) (i := n) (e := e) (s := ofN g l n)).1
      try simp only [he]
      unfold ofStep at h hle ⊢
      split at h
      · split at h
        · simp only at h
          split at h
          · cases h; simp [*]
          · have := ih _ _ h; simp [*]; omega
        · split at h
          · split at h
            · simp only at h
              split at h
              · cases h
              · have := ih _ _ h; simp [*]
            · have := ih _ _ h; simp [*]
          · have := ih _ _ h; simp [*]
      · have := ih _ _ h; simp [*]
    · rename_i he
      try simp only [he]
      exact ih _ _ h

/-! ### prefixes -/
/-- an operation as it was before the moment n -/
def cutO (n : Int) (o : O) : O := if n ≤ o.rsp then { o with rsp := -1, code := 0, fnd := false, rv := 0 } else o
def prefixL (n : Int) (l : List O) : List O := (l.filter fun o => decide (o.inv < n)).map (cutO n)

theorem cutO_inv (n : Int) (o : O) : (cutO n o).inv = o.inv := by unfold cutO; split <;> rfl

theorem filt_take {n : Int} : ∀ {l : List O}, (∀ (i j : Nat) a b, i < j → l[i]? = some a → l[j]? = some b → a.inv < b.inv) → ∃ k, (l.filter fun o => decide (o.inv < n)) = l.take k
  | [], _ => ⟨0, rfl⟩
  | a :: r, h => by
    obtain ⟨k, hk⟩ := filt_take (n := n) (l := r) (fun i j x y hij hx hy => h (i + 1) (j + 1) x y (by omega) (by simpa using hx) (by simpa using hy))
    by_cases ha : a.inv < n
    · exact ⟨k + 1, by simp [ha, hk]⟩
    · refine ⟨0, ?_⟩
      rw [List.take_zero, List.filter_eq_nil_iff]
      intro x hx
      simp only [decide_eq_true_eq]
      rcases List.mem_cons.1 hx with rfl | hx
      · exact ha
      · obtain ⟨j, hj⟩ := List.getElem?_of_mem hx
        have := h 0 (j + 1) a x (by omega) rfl (by simpa using hj)
        omega

theorem Valid.pre_get {l : List O} (hv : Valid l) {n : Int} {i : Nat} {a' : O} (h : (prefixL n l)[i]? = some a') : ∃ a, l[i]? = some a ∧ a' = cutO n a ∧ a.inv < n := by
  obtain ⟨k, hk⟩ := filt_take (n := n) (fun i j a b hij ha hb => hv.lt ha hb hij)
  unfold prefixL at h
  have hmem : ∀ a ∈ l.take k, a.inv < n := fun a ha => by rw [← hk] at ha; simpa using (List.mem_filter.1 ha).2
  rw [hk, List.getElem?_map] at h
  obtain ⟨a, ha, rfl⟩ := Option.map_eq_some_iff.1 h
  refine ⟨a, ?_, rfl, hmem a (List.mem_of_getElem? ha)⟩
  rw [List.getElem?_take] at ha
  split at ha
  · exact ha
  · cases ha

theorem Valid.pre {l : List O} (hv : Valid l) (n : Int) : Valid (prefixL n l) := by
  intro i a' ha'
  obtain ⟨a, ha, rfl, hai⟩ := hv.pre_get ha'
  obtain ⟨⟨f1, f2, f3, f4, f5⟩, h2, h3, h4⟩ := hv i a ha
  have fa : Formed a := ⟨f1, f2, f3, f4, f5⟩
  refine ⟨?_, ?_, ?_, ?_⟩
  · unfold cutO
    split
    · exact ⟨f1, f2, f3, f4, .inr ⟨rfl, rfl, rfl, rfl⟩⟩
    · exact fa
  · intro z' hz'
    obtain ⟨z, hz, rfl, _⟩ := hv.pre_get hz'
    have := h2 z hz
    unfold cutO
    split <;> split <;> exact this
  · intro k b' hk hb'
    obtain ⟨b, hb, rfl, hbi⟩ := hv.pre_get hb'
    obtain ⟨g1, g2, g3⟩ := h3 k b hk hb
    unfold Pair Prec at *
    unfold cutO
    split <;> split <;> (try simp only at *) <;> refine ⟨by omega, by omega, fun hc => ?_⟩ <;> have := g3 hc <;> omega
  · intro k b' hb'
    obtain ⟨b, hb, rfl, _⟩ := hv.pre_get hb'
    have := h4 k b hb
    obtain ⟨_, _, b3, _⟩ := (hv k b hb).1
    rw [cutO_inv]
    unfold cutO
    split <;> (try simp only) <;> omega

theorem prefix_prefix {l : List O} {m n : Int} (h0 : 0 ≤ m) (h : m ≤ n) : prefixL m (prefixL n l) = prefixL m l := by
  unfold prefixL
  rw [List.filter_map, List.map_map, List.filter_filter]
  have e1 : (fun o : O => (((fun o => decide (o.inv < m)) ∘ cutO n) o && decide (o.inv < n))) = fun o => decide (o.inv < m) := by
    funext o
    rw [Bool.eq_iff_iff]
    simp only [Function.comp, cutO_inv, Bool.and_eq_true, decide_eq_true_eq]
    omega
  rw [e1]
  apply List.map_congr_left
  intro o _
  simp only [Function.comp]
  unfold cutO
  by_cases h1 : n ≤ o.rsp
  · rw [if_pos h1, if_neg (show ¬ m ≤ -1 by omega), if_pos (show m ≤ o.rsp by omega)]
  · rw [if_neg h1]

theorem prefix_all {l : List O} {n : Int} (h : ∀ o ∈ l, o.inv < n ∧ o.rsp < n) : prefixL n l = l := by
  unfold prefixL
  rw [List.filter_eq_self.2 fun o ho => by simpa using (h o ho).1]
  conv => rhs; rw [← List.map_id l]
  apply List.map_congr_left
  intro o ho
  unfold cutO
  rw [if_neg (by have := (h o ho).2; omega)]
  rfl

theorem Valid.pre_zero {l : List O} (hv : Valid l) : prefixL 0 l = [] := by
  unfold prefixL
  rw [List.map_eq_nil_iff, List.filter_eq_nil_iff]
  intro o ho
  obtain ⟨i, hi⟩ := List.getElem?_of_mem ho
  obtain ⟨_, _, h3, _⟩ := (hv i o hi).1
  simp only [decide_eq_true_eq]; omega

end Go.Proofs.Ytbgppnkccbhbpaa.HistLaw
