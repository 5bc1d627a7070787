/- Sets of numbers as increasing lists, quorums: in plain Lean. -/
import Derived.KernelRfl
namespace Go.Proofs.Ytbgppnkccbhbpaa.Cfg
set_option linter.unusedVariables false

/-! ### the list without repetitions beside each other -/
def cpt (l : List Int) : List Int := l.foldl (fun acc a => if acc.getLast? = some a then acc else acc ++ [a]) []
theorem cpt_snoc (l : List Int) (a : Int) : cpt (l ++ [a]) = if (cpt l).getLast? = some a then cpt l else cpt l ++ [a] := by unfold cpt; rw [List.foldl_append]; rfl
theorem snoc_ind {P : List Int → Prop} (h0 : P []) (h1 : ∀ l a, P l → P (l ++ [a])) (l : List Int) : P l := by
  have : ∀ n (l : List Int), l.length = n → P l := by
    intro n
    induction n with
    | zero => intro l hl; rw [List.length_eq_zero_iff.1 hl]; exact h0
    | succ n ih =>
      intro l hl
      have hne : l ≠ [] := fun e => by rw [e] at hl; simp at hl
      rw [← List.dropLast_concat_getLast hne]
      exact h1 _ _ (ih _ (by rw [List.length_dropLast]; omega))
  exact this _ l rfl
theorem cpt_last (l : List Int) : (cpt l).getLast? = l.getLast? := by
  refine snoc_ind (P := fun l => (cpt l).getLast? = l.getLast?) rfl (fun l a ih => ?_) l
  rw [cpt_snoc]
  split
  · rename_i h; rw [h]; simp
  · simp
theorem cpt_mem (l : List Int) (z : Int) : z ∈ cpt l ↔ z ∈ l := by
  refine snoc_ind (P := fun l => z ∈ cpt l ↔ z ∈ l) Iff.rfl (fun l a ih => ?_) l
  rw [cpt_snoc]
  split
  · rename_i h
    rw [ih, List.mem_append]
    constructor
    · exact .inl
    · rintro (h1 | h1)
      · exact h1
      · simp at h1; subst h1
        rw [cpt_last] at h
        exact List.mem_of_getLast? h
  · rw [List.mem_append, List.mem_append, ih]
theorem cpt_len (l : List Int) : (cpt l).length ≤ l.length := by
  refine snoc_ind (P := fun l => (cpt l).length ≤ l.length) (Nat.le_refl _) (fun l a ih => ?_) l
  rw [cpt_snoc]
  split <;> simp <;> omega
theorem cpt_sorted {l : List Int} (h : l.Pairwise (· ≤ ·)) : (cpt l).Pairwise (· < ·) := by
  refine snoc_ind (P := fun l => l.Pairwise (· ≤ ·) → (cpt l).Pairwise (· < ·)) (fun _ => .nil) (fun l a ih h => ?_) l h
  rw [List.pairwise_append] at h
  rw [cpt_snoc]
  split
  · exact ih h.1
  · rename_i hne
    rw [List.pairwise_append]
    refine ⟨ih h.1, by simp, fun x hx y hy => ?_⟩
    simp at hy; subst hy
    have h1 := h.2.2 x ((cpt_mem l x).1 hx) y (by simp)
    rcases Int.lt_or_eq_of_le h1 with h2 | h2
    · exact h2
    · exfalso
      subst h2
      apply hne
      rw [cpt_last]
      -- the last of l is between x and x
      have hl : l ≠ [] := fun e => by rw [e] at hx; simp [cpt] at hx
      rw [List.getLast?_eq_some_getLast hl]
      congr 1
      have hx' := (cpt_mem l x).1 hx
      have ha := h.2.2 (l.getLast hl) (List.getLast_mem hl) x (by simp)
      have hb : x ≤ l.getLast hl := by
        have h3 := h.1
        rw [← List.dropLast_concat_getLast hl] at h3 hx'
        rw [List.pairwise_append] at h3
        rcases List.mem_append.1 hx' with h4 | h4
        · exact h3.2.2 x h4 _ (by simp)
        · simp at h4; exact Int.le_of_eq h4
      omega
theorem cpt_take {l : List Int} {j : Nat} {a : Int} (h : l[j]? = some a) : cpt (l.take (j + 1)) = if (l.take j).getLast? = some a then cpt (l.take j) else cpt (l.take j) ++ [a] := by
  rw [List.take_add_one, h]
  simp only [Option.toList_some, cpt_snoc, cpt_last]

/-! ### sets -/
def srt (l : List Int) : List Int := l.mergeSort (fun x y => decide (x ≤ y))
theorem srt_len (l : List Int) : (srt l).length = l.length := List.length_mergeSort _
def setL (l : List Int) : List Int := cpt (srt (l.filter fun z => !decide (z < 1)))
structure IsSet (l s : List Int) : Prop where
  sorted : s.Pairwise (· < ·)
  mem : ∀ z, z ∈ s ↔ z ∈ l ∧ 1 ≤ z
theorem setL_is (l : List Int) : IsSet l (setL l) := by
  refine ⟨cpt_sorted ?_, fun z => ?_⟩
  · have := List.pairwise_mergeSort (le := fun (x y : Int) => decide (x ≤ y)) (fun a b c h1 h2 => by simp at *; omega) (fun a b => by simp; omega) (l.filter fun z => !decide (z < 1))
    exact this.imp (by simp)
  · unfold setL srt
    rw [cpt_mem, List.mem_mergeSort, List.mem_filter]
    simp
theorem sorted_eq : ∀ {s t : List Int}, s.Pairwise (· < ·) → t.Pairwise (· < ·) → (∀ z, z ∈ s ↔ z ∈ t) → s = t
  | [], [], _, _, _ => rfl
  | [], b :: t, _, _, h => by have := (h b).2 (by simp); simp at this
  | a :: s, [], _, _, h => by have := (h a).1 (by simp); simp at this
  | a :: s, b :: t, hs, ht, h => by
    rw [List.pairwise_cons] at hs ht
    have hab : a = b := by
      rcases Int.lt_trichotomy a b with h1 | h1 | h1
      · have := (h a).1 (by simp)
        rcases List.mem_cons.1 this with h2 | h2
        · exact h2
        · have := ht.1 a h2; omega
      · exact h1
      · have := (h b).2 (by simp)
        rcases List.mem_cons.1 this with h2 | h2
        · exact h2.symm
        · have := hs.1 b h2; omega
    subst hab
    congr 1
    refine sorted_eq hs.2 ht.2 fun z => ⟨fun hz => ?_, fun hz => ?_⟩
    · rcases List.mem_cons.1 ((h z).1 (List.mem_cons_of_mem _ hz)) with h2 | h2
      · have := hs.1 z hz; omega
      · exact h2
    · rcases List.mem_cons.1 ((h z).2 (List.mem_cons_of_mem _ hz)) with h2 | h2
      · have := ht.1 z hz; omega
      · exact h2
theorem IsSet.eq {l s : List Int} (h : IsSet l s) : s = setL l := sorted_eq h.sorted (setL_is l).sorted fun z => (h.mem z).trans ((setL_is l).mem z).symm
theorem setL_len (l : List Int) : (setL l).length ≤ l.length := by
  unfold setL
  exact Nat.le_trans (cpt_len _) (by rw [srt_len]; exact List.length_filter_le _ _)
theorem setL_pos {l : List Int} {z : Int} (h : z ∈ setL l) : 1 ≤ z := ((setL_is l).mem z).1 h |>.2
theorem setL_congr {l m : List Int} (h : ∀ z, z ∈ l ↔ z ∈ m) : setL l = setL m := IsSet.eq ⟨(setL_is l).sorted, fun z => by rw [(setL_is l).mem z, h z]⟩
theorem setL_nodup (l : List Int) : (setL l).Nodup := (setL_is l).sorted.imp (fun h => by omega)

/-- one element put in its place -/
def ins (s : List Int) (k : Nat) (a : Int) : List Int := s.take k ++ [a] ++ s.drop k
theorem IsSet.skip {l s : List Int} {j : Nat} {a : Int} (h : IsSet (l.take j) s) (ha : l[j]? = some a) (hs : a < 1 ∨ a ∈ s) : IsSet (l.take (j + 1)) s := by
  refine ⟨h.sorted, fun z => ?_⟩
  rw [List.take_add_one, ha, h.mem z]
  simp only [Option.toList_some, List.mem_append, List.mem_singleton]
  constructor
  · rintro ⟨h1, h2⟩; exact ⟨.inl h1, h2⟩
  · rintro ⟨h1 | h1, h2⟩
    · exact ⟨h1, h2⟩
    · subst h1
      rcases hs with h3 | h3
      · omega
      · exact (h.mem z).1 h3
theorem IsSet.put {l s : List Int} {j k : Nat} {a : Int} (h : IsSet (l.take j) s) (ha : l[j]? = some a) (h1 : 1 ≤ a) (hn : a ∉ s) (hk : k ≤ s.length) (hlt : ∀ i z, i < k → s[i]? = some z → z < a) (hge : ∀ z, s[k]? = some z → ¬ z < a) : IsSet (l.take (j + 1)) (ins s k a) := by
  have hsp : s.take k ++ s.drop k = s := List.take_append_drop k s
  have hpw := h.sorted
  rw [← hsp, List.pairwise_append] at hpw
  have below : ∀ z ∈ s.take k, z < a := fun z hz => by
    obtain ⟨i, hi⟩ := List.getElem?_of_mem hz
    rw [List.getElem?_take] at hi
    split at hi
    · rename_i hik; exact hlt i z hik hi
    · cases hi
  have above : ∀ z ∈ s.drop k, a < z := fun z hz => by
    have hz' : z ∈ s := List.mem_of_mem_drop hz
    have hza : z ≠ a := fun e => hn (e ▸ hz')
    cases hd : s.drop k with
    | nil => rw [hd] at hz; simp at hz
    | cons y r =>
      have hy : s[k]? = some y := by
        have := congrArg (fun l => l[0]?) hd
        simpa using this
      have h2 := hge y hy
      rw [hd] at hz
      rcases List.mem_cons.1 hz with h3 | h3
      · subst h3; omega
      · have h4 := hpw.2.1
        rw [hd, List.pairwise_cons] at h4
        have := h4.1 z h3
        omega
  refine ⟨?_, fun z => ?_⟩
  · unfold ins
    rw [List.append_assoc, List.pairwise_append]
    refine ⟨hpw.1, ?_, fun x hx y hy => ?_⟩
    · rw [List.singleton_append, List.pairwise_cons]
      exact ⟨above, hpw.2.1⟩
    · rcases List.mem_append.1 hy with h2 | h2
      · simp at h2; subst h2; exact below x hx
      · exact hpw.2.2 x hx y h2
  · have hm : z ∈ ins s k a ↔ z = a ∨ z ∈ s := by
      unfold ins
      rw [List.mem_append, List.mem_append, List.mem_singleton]
      conv => rhs; rw [← hsp, List.mem_append]
      constructor
      · rintro ((h | h) | h)
        · exact .inr (.inl h)
        · exact .inl h
        · exact .inr (.inr h)
      · rintro (h | h | h)
        · exact .inl (.inr h)
        · exact .inl (.inl h)
        · exact .inr h
    rw [hm, List.take_add_one, ha, h.mem z]
    simp only [Option.toList_some, List.mem_append, List.mem_singleton]
    constructor
    · rintro (rfl | ⟨h2, h3⟩)
      · exact ⟨.inr rfl, h1⟩
      · exact ⟨.inl h2, h3⟩
    · rintro ⟨h2 | h2, h3⟩
      · exact .inr ⟨h2, h3⟩
      · exact .inl h2

def minusL (l m : List Int) : List Int := l.filter fun z => !decide (z ∈ m)
def maj (l r : List Int) : Bool := decide ((l.length : Int) < 2 * ((l.filter fun z => decide (z ∈ r)).length : Nat))
def quor (o n r : List Int) : Bool := maj o r && (decide (n.length = 0) || maj n r)
theorem minus_count (l m : List Int) : (minusL l m).length + (l.filter fun z => decide (z ∈ m)).length = l.length := by
  unfold minusL
  induction l with
  | nil => rfl
  | cons a l ih =>
    simp only [List.filter_cons]
    by_cases h : a ∈ m <;> simp [h] at ih ⊢ <;> omega

/-! ### deleting in place -/
theorem del_start {l : List Int} {q : Int → Bool} {n : Nat} (hn : n < l.length) (hq : ∀ z, l[n]? = some z → q z = true) (hb : ∀ (i : Nat) z, i < n → l[i]? = some z → q z = false) : l.take n = (l.take (n + 1)).filter fun z => !q z := by
  rw [List.take_add_one, List.getElem?_eq_getElem hn, List.filter_append]
  have h1 : (l.take n).filter (fun z => !q z) = l.take n := List.filter_eq_self.2 fun z hz => by
    obtain ⟨i, hi⟩ := List.getElem?_of_mem hz
    rw [List.getElem?_take] at hi
    split at hi
    · rename_i h; simp [hb i z h hi]
    · cases hi
  have h2 := hq l[n] (List.getElem?_eq_getElem hn)
  simp [h1, h2]
theorem del_none {l : List Int} {q : Int → Bool} (h : ∀ z ∈ l, q z = false) : l.filter (fun z => !q z) = l := List.filter_eq_self.2 fun z hz => by simp [h z hz]
theorem del_keep {l ls : List Int} {q : Int → Bool} {i j : Nat} {v : Int} (hl : ls.length = l.length) (hij : i ≤ j) (h1 : ls.take i = (l.take j).filter fun z => !q z) (h2 : ls.drop j = l.drop j) (hv : l[j]? = some v) (hq : q v = false) :
    (ls.set i v).take (i + 1) = (l.take (j + 1)).filter (fun z => !q z) ∧ (ls.set i v).drop (j + 1) = l.drop (j + 1) := by
  have hj := (List.getElem?_eq_some_iff.1 hv).1
  constructor
  · rw [List.take_add_one, List.take_set, List.set_eq_of_length_le (by simp; omega), List.getElem?_set_self (by omega), h1, List.take_add_one, hv, List.filter_append]
    simp [hq]
  · rw [List.drop_set_of_lt (by omega), ← List.drop_drop, h2, List.drop_drop]
theorem del_skip {l ls : List Int} {q : Int → Bool} {i j : Nat} {v : Int} (h1 : ls.take i = (l.take j).filter fun z => !q z) (h2 : ls.drop j = l.drop j) (hv : l[j]? = some v) (hq : q v = true) :
    ls.take i = (l.take (j + 1)).filter (fun z => !q z) ∧ ls.drop (j + 1) = l.drop (j + 1) := by
  constructor
  · rw [h1, List.take_add_one, hv, List.filter_append]; simp [hq]
  · rw [← List.drop_drop, h2, List.drop_drop]
theorem drop_get {l ls : List Int} {j k : Nat} (h : ls.drop j = l.drop j) (hk : j ≤ k) : ls[k]? = l[k]? := by
  have := congrArg (fun l => l[k - j]?) h
  simpa [List.getElem?_drop, show j + (k - j) = k by omega] using this

/-! ### compaction in place -/
theorem cpt_id {l : List Int} {i : Nat} (hi : i ≤ l.length) (h : ∀ m z y, m + 1 < i → l[m]? = some y → l[m + 1]? = some z → z ≠ y) : cpt (l.take i) = l.take i := by
  induction i with
  | zero => rfl
  | succ i ih =>
    have hlt : i < l.length := by omega
    rw [cpt_take (List.getElem?_eq_getElem hlt), ih (by omega) (fun m z y hm => h m z y (by omega)), List.take_add_one, List.getElem?_eq_getElem hlt]
    rw [if_neg]
    · rfl
    · cases i with
      | zero => simp
      | succ i =>
        rw [List.take_add_one, List.getElem?_eq_getElem (by omega : i < l.length)]
        simp only [Option.toList_some, List.getLast?_append, List.getLast?_singleton, Option.some_or, Option.some.injEq]
        exact fun e => h i _ _ (by omega) (List.getElem?_eq_getElem (by omega)) (List.getElem?_eq_getElem hlt) e.symm
theorem last_take {l : List Int} {j : Nat} {y : Int} (h : l[j]? = some y) : (l.take (j + 1)).getLast? = some y := by
  rw [List.take_add_one, h]; simp
theorem cpt_eq {l : List Int} {j : Nat} {y : Int} (h1 : l[j]? = some y) (h2 : l[j + 1]? = some y) : cpt (l.take (j + 2)) = cpt (l.take (j + 1)) := by
  rw [cpt_take h2, if_pos (last_take h1)]
theorem cpt_ne {l : List Int} {j : Nat} {y z : Int} (h1 : l[j]? = some y) (h2 : l[j + 1]? = some z) (hne : z ≠ y) : cpt (l.take (j + 2)) = cpt (l.take (j + 1)) ++ [z] := by
  rw [cpt_take h2, last_take h1, if_neg (by simpa using fun e => hne e.symm)]
theorem cp_keep {l ls : List Int} {w j : Nat} {y z : Int} (hl : ls.length = l.length) (hw : w ≤ j) (h1 : ls.take w = cpt (l.take (j + 1))) (h2 : ls.drop j = l.drop j) (hy : l[j]? = some y) (hz : l[j + 1]? = some z) (hne : z ≠ y) :
    (ls.set w z).take (w + 1) = cpt (l.take (j + 2)) ∧ (ls.set w z).drop (j + 1) = l.drop (j + 1) := by
  have hj := (List.getElem?_eq_some_iff.1 hy).1
  constructor
  · rw [List.take_add_one, List.take_set, List.set_eq_of_length_le (by simp; omega), List.getElem?_set_self (by omega), h1, cpt_ne hy hz hne]
    rfl
  · rw [List.drop_set_of_lt (by omega), ← List.drop_drop, h2, List.drop_drop]
theorem cp_skip {l ls : List Int} {w j : Nat} {y : Int} (h1 : ls.take w = cpt (l.take (j + 1))) (h2 : ls.drop j = l.drop j) (hy : l[j]? = some y) (hz : l[j + 1]? = some y) :
    ls.take w = cpt (l.take (j + 2)) ∧ ls.drop (j + 1) = l.drop (j + 1) := by
  constructor
  · rw [h1, cpt_eq hy hz]
  · rw [← List.drop_drop, h2, List.drop_drop]

theorem minus_take {l m : List Int} {j : Nat} {a : Int} (h : l[j]? = some a) : minusL (l.take (j + 1)) m = if a ∈ m then minusL (l.take j) m else minusL (l.take j) m ++ [a] := by
  unfold minusL
  rw [List.take_add_one, h, List.filter_append]
  by_cases e : a ∈ m <;> simp [e]
theorem filter_take {q : Int → Bool} {l : List Int} {j : Nat} {a : Int} (h : l[j]? = some a) : (l.take (j + 1)).filter q = if q a = true then (l.take j).filter q ++ [a] else (l.take j).filter q := by
  rw [List.take_add_one, h, List.filter_append]
  by_cases e : q a = true <;> simp [e]
theorem mem_take {l : List Int} {j : Nat} {a z : Int} (h : l[j]? = some a) : z ∈ l.take (j + 1) ↔ z ∈ l.take j ∨ a = z := by
  rw [List.take_add_one, h]; simp [eq_comm]
theorem IsSet.len {l s : List Int} (h : IsSet l s) : s.length ≤ l.length := by rw [h.eq]; exact setL_len l
theorem IsSet.nil : IsSet [] [] := ⟨.nil, by simp⟩
theorem ins_len {s : List Int} {k : Nat} {a : Int} (h : k ≤ s.length) : (ins s k a).length = s.length + 1 := by simp [ins]; omega
theorem minus_len {l m : List Int} : (minusL l m).length ≤ l.length := List.length_filter_le _ _
theorem maj_of {l r : List Int} : decide ((l.length : Int) < 2 * ((l.length : Int) - ((minusL l r).length : Nat))) = maj l r := by
  have := minus_count l r
  unfold maj
  rw [Bool.eq_iff_iff, decide_eq_true_eq, decide_eq_true_eq]
  omega

/-! ### two quorums meet -/
theorem count_two (l : List Int) (p q : Int → Bool) (h : ∀ z ∈ l, ¬ (p z = true ∧ q z = true)) : (l.filter p).length + (l.filter q).length ≤ l.length := by
  induction l with
  | nil => exact Nat.le_refl _
  | cons a l ih =>
    have := ih fun z hz => h z (List.mem_cons_of_mem _ hz)
    have ha := h a (by simp)
    simp only [List.filter_cons]
    by_cases h1 : p a = true <;> by_cases h2 : q a = true <;> simp_all <;> omega
theorem maj_meet {l r s : List Int} (h1 : maj l r = true) (h2 : maj l s = true) : ∃ z ∈ l, z ∈ r ∧ z ∈ s := by
  apply Classical.byContradiction
  intro hn
  have := count_two l (fun z => decide (z ∈ r)) (fun z => decide (z ∈ s)) fun z hz ⟨a, b⟩ => hn ⟨z, hz, by simpa using a, by simpa using b⟩
  simp only [maj, decide_eq_true_eq] at h1 h2
  omega
theorem maj_all {l r : List Int} (h : ∀ z ∈ l, z ∈ r) (h0 : 0 < l.length) : maj l r = true := by
  have : l.filter (fun z => decide (z ∈ r)) = l := List.filter_eq_self.2 fun z hz => by simp [h z hz]
  simp only [maj, this, decide_eq_true_eq]
  omega
theorem maj_none {l : List Int} : maj l [] = false := by
  have : l.filter (fun z => decide (z ∈ ([] : List Int))) = [] := by simp
  unfold maj
  rw [decide_eq_false_iff_not, this]
  show ¬ (l.length : Int) < 2 * ((0 : Nat) : Int)
  omega
theorem setL_self {l : List Int} (h : setL l = l) : ∀ z ∈ l, 1 ≤ z := fun z hz => setL_pos (l := l) (by rw [h]; exact hz)
theorem mem_voters {o n : List Int} {z : Int} (ho : setL o = o) (hn : setL n = n) : z ∈ setL (o ++ n) ↔ z ∈ o ∨ z ∈ n := by
  rw [(setL_is _).mem, List.mem_append]
  constructor
  · exact fun h => h.1
  · rintro (h | h)
    · exact ⟨.inl h, setL_self ho z h⟩
    · exact ⟨.inr h, setL_self hn z h⟩
theorem quor_meet {o n : List Int} {p q : Int → Bool} (ho : setL o = o) (hn : setL n = n) (h1 : quor o n ((setL (o ++ n)).filter p) = true) (h2 : quor o n ((setL (o ++ n)).filter q) = true) : (setL (o ++ n)).any (fun z => p z && q z) = true := by
  simp only [quor, Bool.and_eq_true] at h1 h2
  obtain ⟨z, hz, h3, h4⟩ := maj_meet h1.1 h2.1
  rw [List.mem_filter] at h3 h4
  exact List.any_eq_true.2 ⟨z, h3.1, by simp [h3.2, h4.2]⟩
theorem quor_all {o n : List Int} (ho : setL o = o) (hn : setL n = n) (h0 : 0 < o.length) : quor o n ((setL (o ++ n)).filter fun _ => true) = true := by
  have hall : ∀ z, z ∈ o ∨ z ∈ n → z ∈ (setL (o ++ n)).filter fun _ => true := fun z hz => by rw [List.mem_filter]; exact ⟨(mem_voters ho hn).2 hz, rfl⟩
  unfold quor
  rw [maj_all (fun z hz => hall z (.inl hz)) h0]
  by_cases hl : n.length = 0
  · simp [hl]
  · rw [maj_all (fun z hz => hall z (.inr hz)) (by omega)]; simp
theorem quor_none {o n : List Int} : quor o n ((setL (o ++ n)).filter fun _ => false) = false := by
  have : (setL (o ++ n)).filter (fun _ => false) = [] := by simp
  rw [this]; unfold quor; rw [maj_none]; rfl
theorem any_take {p : Int → Bool} {l : List Int} {j : Nat} {a : Int} (h : l[j]? = some a) : (l.take (j + 1)).any p = ((l.take j).any p || p a) := by
  rw [List.take_add_one, h, List.any_append]; simp

/-! ### the words of the walks -/
def IxF (q : Int → Bool) (l : List Int) (r : Int) : Prop := (r = -1 ∧ ∀ z ∈ l, q z = false) ∨ ∃ n : Nat, r = n ∧ (∃ z, l[n]? = some z ∧ q z = true) ∧ ∀ (i : Nat) z, i < n → l[i]? = some z → q z = false
theorem allOf {q : Int → Bool} {l : List Int} {j : Nat} (hj : l.length ≤ j) (h : ∀ (i : Nat) z, i < j → l[i]? = some z → q z = false) : ∀ z ∈ l, q z = false := fun z hz => by
  obtain ⟨i, hi⟩ := List.getElem?_of_mem hz
  exact h i z (by have := (List.getElem?_eq_some_iff.1 hi).1; omega) hi
theorem upto {P : Nat → Int → Prop} {l : List Int} {j : Nat} {z : Int} (h : ∀ (i : Nat) z, i < j → l[i]? = some z → P i z) (hz : l[j]? = some z) (hp : P j z) : ∀ (i : Nat) z, i < j + 1 → l[i]? = some z → P i z := fun i y hi hy => by
  by_cases e : i = j
  · subst e; rw [hz] at hy; cases hy; exact hp
  · exact h i y (by omega) hy
theorem upto0 {P : Nat → Int → Prop} {l : List Int} : ∀ (i : Nat) z, i < 0 → l[i]? = some z → P i z := fun _ _ h => absurd h (Nat.not_lt_zero _)
def catL {α : Type} (ss : List (α × Nat × List Int)) : List Int := ss.flatMap fun s => s.2.2
theorem cat_take {α : Type} {ss : List (α × Nat × List Int)} {j : Nat} {s : α × Nat × List Int} (h : ss[j]? = some s) : catL (ss.take (j + 1)) = catL (ss.take j) ++ s.2.2 := by
  unfold catL
  rw [List.take_add_one, h, List.flatMap_append]; simp
theorem cat_le {α : Type} (ss : List (α × Nat × List Int)) (j : Nat) : (catL (ss.take j)).length ≤ (catL ss).length := by
  unfold catL
  conv => rhs; rw [← List.take_append_drop j ss, List.flatMap_append, List.length_append]
  omega
theorem eq_of_get {l m : List Int} (hl : l.length = m.length) (h : ∀ i : Nat, i < l.length → l[i]? = m[i]?) : l = m := List.ext_getElem? fun i => by
  rcases Nat.lt_or_ge i l.length with h1 | h1
  · exact h i h1
  · rw [List.getElem?_eq_none h1, List.getElem?_eq_none (by omega)]
end Go.Proofs.Ytbgppnkccbhbpaa.Cfg
