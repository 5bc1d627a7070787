/- Keys of operations, as sorted lists: in plain Lean. -/
import Derived.Test.YtbgppnkccbhbpaaHPure
import Derived.Sort.Walk0
namespace Go.Proofs.Ytbgppnkccbhbpaa.HistLaw
set_option linter.unusedVariables false
set_option linter.unusedSectionVars false

section
variable {α : Type} [DecidableEq α]
def gcpt (l : List α) : List α := l.foldl (fun acc a => if acc.getLast? = some a then acc else acc ++ [a]) []

theorem gcpt_snoc (l : List α) (a : α) : gcpt (l ++ [a]) = if (gcpt l).getLast? = some a then gcpt l else gcpt l ++ [a] := by unfold gcpt; rw [List.foldl_append]; rfl

theorem gsnoc_ind {P : List α → Prop} (h0 : P []) (h1 : ∀ l a, P l → P (l ++ [a])) (l : List α) : P l := by
  have : ∀ n (l : List α), l.length = n → P l := by
    intro n
    induction n with
    | zero => intro l hl; rw [List.length_eq_zero_iff.1 hl]; exact h0
    | succ n ih =>
      intro l hl
      have hne : l ≠ [] := fun e => by rw [e] at hl; simp at hl
      rw [← List.dropLast_concat_getLast hne]
      exact h1 _ _ (ih _ (by rw [List.length_dropLast]; omega))
  exact this _ l rfl

theorem gcpt_last (l : List α) : (gcpt l).getLast? = l.getLast? := by
  refine gsnoc_ind (P := fun l => (gcpt l).getLast? = l.getLast?) rfl (fun l a ih => ?_) l
  rw [gcpt_snoc]
  split
  · rename_i h; rw [h]; simp
  · simp

theorem gcpt_mem (l : List α) (z : α) : z ∈ gcpt l ↔ z ∈ l := by
  refine gsnoc_ind (P := fun l => z ∈ gcpt l ↔ z ∈ l) Iff.rfl (fun l a ih => ?_) l
  rw [gcpt_snoc]
  split
  · rename_i h
    rw [ih, List.mem_append]
    constructor
    · exact .inl
    · rintro (h1 | h1)
      · exact h1
      · simp at h1; subst h1
        rw [gcpt_last] at h
        exact List.mem_of_getLast? h
  · rw [List.mem_append, List.mem_append, ih]

theorem gcpt_len (l : List α) : (gcpt l).length ≤ l.length := by
  refine gsnoc_ind (P := fun l => (gcpt l).length ≤ l.length) (Nat.le_refl _) (fun l a ih => ?_) l
  rw [gcpt_snoc]
  split <;> simp <;> omega

theorem gcpt_take {l : List α} {j : Nat} {a : α} (h : l[j]? = some a) : gcpt (l.take (j + 1)) = if (l.take j).getLast? = some a then gcpt (l.take j) else gcpt (l.take j) ++ [a] := by
  rw [List.take_add_one, h]
  simp only [Option.toList_some, gcpt_snoc, gcpt_last]


theorem gcpt_id {l : List α} {i : Nat} (hi : i ≤ l.length) (h : ∀ m z y, m + 1 < i → l[m]? = some y → l[m + 1]? = some z → z ≠ y) : gcpt (l.take i) = l.take i := by
  induction i with
  | zero => rfl
  | succ i ih =>
    have hlt : i < l.length := by omega
    rw [gcpt_take (List.getElem?_eq_getElem hlt), ih (by omega) (fun m z y hm => h m z y (by omega)), List.take_add_one, List.getElem?_eq_getElem hlt]
    rw [if_neg]
    · rfl
    · cases i with
      | zero => simp
      | succ i =>
        rw [List.take_add_one, List.getElem?_eq_getElem (by omega : i < l.length)]
        simp only [Option.toList_some, List.getLast?_append, List.getLast?_singleton, Option.some_or, Option.some.injEq]
        exact fun e => h i _ _ (by omega) (List.getElem?_eq_getElem (by omega)) (List.getElem?_eq_getElem hlt) e.symm

theorem glast_take {l : List α} {j : Nat} {y : α} (h : l[j]? = some y) : (l.take (j + 1)).getLast? = some y := by
  rw [List.take_add_one, h]; simp

theorem gcpt_eq {l : List α} {j : Nat} {y : α} (h1 : l[j]? = some y) (h2 : l[j + 1]? = some y) : gcpt (l.take (j + 2)) = gcpt (l.take (j + 1)) := by
  rw [gcpt_take h2, if_pos (glast_take h1)]

theorem gcpt_ne {l : List α} {j : Nat} {y z : α} (h1 : l[j]? = some y) (h2 : l[j + 1]? = some z) (hne : z ≠ y) : gcpt (l.take (j + 2)) = gcpt (l.take (j + 1)) ++ [z] := by
  rw [gcpt_take h2, glast_take h1, if_neg (by simpa using fun e => hne e.symm)]

theorem gcp_keep {l ls : List α} {w j : Nat} {y z : α} (hl : ls.length = l.length) (hw : w ≤ j) (h1 : ls.take w = gcpt (l.take (j + 1))) (h2 : ls.drop j = l.drop j) (hy : l[j]? = some y) (hz : l[j + 1]? = some z) (hne : z ≠ y) :
    (ls.set w z).take (w + 1) = gcpt (l.take (j + 2)) ∧ (ls.set w z).drop (j + 1) = l.drop (j + 1) := by
  have hj := (List.getElem?_eq_some_iff.1 hy).1
  constructor
  · rw [List.take_add_one, List.take_set, List.set_eq_of_length_le (by simp; omega), List.getElem?_set_self (by omega), h1, gcpt_ne hy hz hne]
    rfl
  · rw [List.drop_set_of_lt (by omega), ← List.drop_drop, h2, List.drop_drop]

theorem gcp_skip {l ls : List α} {w j : Nat} {y : α} (h1 : ls.take w = gcpt (l.take (j + 1))) (h2 : ls.drop j = l.drop j) (hy : l[j]? = some y) (hz : l[j + 1]? = some y) :
    ls.take w = gcpt (l.take (j + 2)) ∧ ls.drop (j + 1) = l.drop (j + 1) := by
  constructor
  · rw [h1, gcpt_eq hy hz]
  · rw [← List.drop_drop, h2, List.drop_drop]


theorem gdrop_get {l ls : List α} {j k : Nat} (h : ls.drop j = l.drop j) (hk : j ≤ k) : ls[k]? = l[k]? := by
  have := congrArg (fun l => l[k - j]?) h
  simpa [List.getElem?_drop, show j + (k - j) = k by omega] using this

theorem nodup_len : ∀ {s l : List α}, s.Nodup → (∀ z ∈ s, z ∈ l) → s.length ≤ l.length
  | [], l, _, _ => Nat.zero_le _
  | a :: s, l, h, hm => by
    rw [List.nodup_cons] at h
    have ha := hm a (by simp)
    have ih := nodup_len (s := s) (l := l.erase a) h.2 fun z hz => (List.mem_erase_of_ne (fun e => by subst e; exact h.1 hz)).2 (hm z (List.mem_cons_of_mem _ hz))
    rw [List.length_erase_of_mem ha] at ih
    have := List.length_pos_of_mem ha
    rw [List.length_cons]; omega
end
/-! ### keys -/
abbrev Ky := ByteArray
def kl (a : Ky) : List UInt8 := a.data.toList
def klt (a b : Ky) : Prop := kl a < kl b
instance (a b : Ky) : Decidable (klt a b) := inferInstanceAs (Decidable (_ < _))
theorem kl_inj {a b : Ky} (h : kl a = kl b) : a = b := by
  cases a with | mk d => cases b with | mk e =>
  unfold kl at h
  congr 1
  exact Array.toList_inj.1 h
theorem klt_irrefl (a : Ky) : ¬ klt a a := List.lt_irrefl _
theorem klt_trans {a b c : Ky} (h : klt a b) (h2 : klt b c) : klt a c := List.lt_trans h h2
theorem klt_tri (a b : Ky) : klt a b ∨ a = b ∨ klt b a := by
  by_cases h : klt a b
  · exact .inl h
  · by_cases h2 : klt b a
    · exact .inr (.inr h2)
    · exact .inr (.inl (kl_inj (List.le_antisymm (List.not_lt.1 h2) (List.not_lt.1 h))))
def ofK (l : List UInt8) : Ky := ⟨l.toArray⟩
theorem ofK_kl (a : Ky) : ofK (kl a) = a := by cases a; simp [ofK, kl]
theorem kl_ofK (l : List UInt8) : kl (ofK l) = l := by simp [ofK, kl]
def srtK (l : List Ky) : List Ky := ((l.map kl).mergeSort fun x y => decide (x ≤ y)).map ofK
theorem srtK_len (l : List Ky) : (srtK l).length = l.length := by simp [srtK]
theorem srtK_mem (l : List Ky) (z : Ky) : z ∈ srtK l ↔ z ∈ l := by
  unfold srtK
  rw [List.mem_map]
  constructor
  · rintro ⟨a, h, rfl⟩
    rw [List.mem_mergeSort, List.mem_map] at h
    obtain ⟨b, hb, rfl⟩ := h
    rw [ofK_kl]; exact hb
  · intro h
    exact ⟨kl z, by rw [List.mem_mergeSort]; exact List.mem_map.2 ⟨z, h, rfl⟩, ofK_kl z⟩
theorem srtK_sorted (l : List Ky) : (srtK l).Pairwise fun a b => ¬ klt b a := by
  unfold srtK
  rw [List.pairwise_map]
  have := List.pairwise_mergeSort (le := fun (x y : List UInt8) => decide (x ≤ y)) (fun a b c h1 h2 => by simp at *; exact List.le_trans h1 h2) (fun a b => by simp; exact List.le_total a b) (l.map kl)
  refine this.imp fun {a b} h => ?_
  unfold klt
  rw [kl_ofK, kl_ofK]
  exact List.not_lt.2 (by simpa using h)
theorem gcpt_sorted {l : List Ky} (h : l.Pairwise fun a b => ¬ klt b a) : (gcpt l).Pairwise klt := by
  refine gsnoc_ind (P := fun l => l.Pairwise (fun a b => ¬ klt b a) → (gcpt l).Pairwise klt) (fun _ => .nil) (fun l a ih h => ?_) l h
  rw [List.pairwise_append] at h
  rw [gcpt_snoc]
  split
  · exact ih h.1
  · rename_i hne
    rw [List.pairwise_append]
    refine ⟨ih h.1, by simp, fun x hx y hy => ?_⟩
    simp at hy; subst hy
    have hxl := (gcpt_mem l x).1 hx
    have h1 := h.2.2 x hxl y (by simp)
    rcases klt_tri x y with h2 | h2 | h2
    · exact h2
    · exfalso
      subst h2
      apply hne
      rw [gcpt_last]
      have hl : l ≠ [] := fun e => by rw [e] at hxl; cases hxl
      rw [List.getLast?_eq_some_getLast hl]
      congr 1
      have ha := h.2.2 (l.getLast hl) (List.getLast_mem hl) x (by simp)
      have hb : ¬ klt (l.getLast hl) x := by
        have h3 := h.1
        rw [← List.dropLast_concat_getLast hl] at h3 hxl
        rw [List.pairwise_append] at h3
        rcases List.mem_append.1 hxl with h4 | h4
        · exact h3.2.2 x h4 _ (by simp)
        · simp at h4; rw [← h4]; exact klt_irrefl _
      rcases klt_tri (l.getLast hl) x with h5 | h5 | h5
      · exact absurd h5 hb
      · exact h5
      · exact absurd h5 ha
    · exact absurd h2 h1
def keysK (l : List Ky) : List Ky := gcpt (srtK l)
structure IsK (l s : List Ky) : Prop where
  sorted : s.Pairwise klt
  mem : ∀ z, z ∈ s ↔ z ∈ l
theorem keysK_is (l : List Ky) : IsK l (keysK l) := ⟨gcpt_sorted (srtK_sorted l), fun z => by unfold keysK; rw [gcpt_mem, srtK_mem]⟩
theorem sortedK_eq : ∀ {s t : List Ky}, s.Pairwise klt → t.Pairwise klt → (∀ z, z ∈ s ↔ z ∈ t) → s = t
  | [], [], _, _, _ => rfl
  | [], b :: t, _, _, h => by have := (h b).2 (by simp); simp at this
  | a :: s, [], _, _, h => by have := (h a).1 (by simp); simp at this
  | a :: s, b :: t, hs, ht, h => by
    rw [List.pairwise_cons] at hs ht
    have hab : a = b := by
      rcases klt_tri a b with h1 | h1 | h1
      · rcases List.mem_cons.1 ((h a).1 (by simp)) with h2 | h2
        · exact h2
        · exact absurd (klt_trans h1 (ht.1 a h2)) (klt_irrefl _)
      · exact h1
      · rcases List.mem_cons.1 ((h b).2 (by simp)) with h2 | h2
        · exact h2.symm
        · exact absurd (klt_trans h1 (hs.1 b h2)) (klt_irrefl _)
    subst hab
    congr 1
    refine sortedK_eq hs.2 ht.2 fun z => ⟨fun hz => ?_, fun hz => ?_⟩
    · rcases List.mem_cons.1 ((h z).1 (List.mem_cons_of_mem _ hz)) with h2 | h2
      · subst h2; exact absurd (hs.1 z hz) (klt_irrefl _)
      · exact h2
    · rcases List.mem_cons.1 ((h z).2 (List.mem_cons_of_mem _ hz)) with h2 | h2
      · subst h2; exact absurd (ht.1 z hz) (klt_irrefl _)
      · exact h2
theorem IsK.eq {l s : List Ky} (h : IsK l s) : s = keysK l := sortedK_eq h.sorted (keysK_is l).sorted fun z => (h.mem z).trans ((keysK_is l).mem z).symm
theorem IsK.nil : IsK [] [] := ⟨.nil, by simp⟩
theorem keysK_len (l : List Ky) : (keysK l).length ≤ l.length := by
  unfold keysK
  exact Nat.le_trans (gcpt_len _) (by rw [srtK_len]; exact Nat.le_refl _)
theorem keysK_nodup (l : List Ky) : (keysK l).Nodup := (keysK_is l).sorted.imp fun {a b} h e => by subst e; exact klt_irrefl _ h
/-- one key put in its place -/
theorem IsK.skip {l s : List Ky} {j : Nat} {a : Ky} (h : IsK (l.take j) s) (ha : l[j]? = some a) (hs : a ∈ s) : IsK (l.take (j + 1)) s := by
  refine ⟨h.sorted, fun z => ?_⟩
  rw [List.take_add_one, ha, h.mem z]
  simp only [Option.toList_some, List.mem_append, List.mem_singleton]
  exact ⟨.inl, fun hh => hh.elim id fun e => by subst e; exact (h.mem z).1 hs⟩
theorem IsK.put {l s : List Ky} {j k : Nat} {a : Ky} (h : IsK (l.take j) s) (ha : l[j]? = some a) (hk : k ≤ s.length) (hlt : ∀ (i : Nat) z, i < k → s[i]? = some z → klt z a) (hge : ∀ z, s[k]? = some z → klt a z) : IsK (l.take (j + 1)) (s.take k ++ [a] ++ s.drop k) := by
  have hsp : s.take k ++ s.drop k = s := List.take_append_drop k s
  have hpw := h.sorted
  rw [← hsp, List.pairwise_append] at hpw
  have below : ∀ z ∈ s.take k, klt z a := fun z hz => by
    obtain ⟨i, hi⟩ := List.getElem?_of_mem hz
    rw [List.getElem?_take] at hi
    split at hi
    · rename_i hik; exact hlt i z hik hi
    · cases hi
  have above : ∀ z ∈ s.drop k, klt a z := fun z hz => by
    cases hd : s.drop k with
    | nil => rw [hd] at hz; cases hz
    | cons y r =>
      have hy : s[k]? = some y := by
        have := congrArg (fun l => l[0]?) hd
        simpa using this
      have h2 := hge y hy
      rw [hd] at hz
      rcases List.mem_cons.1 hz with h3 | h3
      · subst h3; exact h2
      · have h4 := hpw.2.1
        rw [hd, List.pairwise_cons] at h4
        exact klt_trans h2 (h4.1 z h3)
  refine ⟨?_, fun z => ?_⟩
  · rw [List.append_assoc, List.pairwise_append]
    refine ⟨hpw.1, ?_, fun x hx y hy => ?_⟩
    · rw [List.singleton_append, List.pairwise_cons]
      exact ⟨above, hpw.2.1⟩
    · rcases List.mem_append.1 hy with h2 | h2
      · simp at h2; subst h2; exact below x hx
      · exact hpw.2.2 x hx y h2
  · have hm : z ∈ s.take k ++ [a] ++ s.drop k ↔ z = a ∨ z ∈ s := by
      rw [List.mem_append, List.mem_append, List.mem_singleton]
      conv => rhs; rw [← hsp, List.mem_append]
      constructor
      · rintro ((h | h) | h)
        · exact .inr (.inl h)
        · exact .inl h
        · exact .inr (.inr h)
      · rintro (h | h | h)
        · exact .inl (.inr h)
        · exact .inl (.inl h)
        · exact .inr h
    rw [hm, List.take_add_one, ha, h.mem z]
    simp only [Option.toList_some, List.mem_append, List.mem_singleton]
    exact ⟨fun hh => hh.elim .inr .inl, fun hh => hh.elim .inr .inl⟩
theorem IsK.len {l s : List Ky} (h : IsK l s) : s.length ≤ l.length := nodup_len (h.sorted.imp fun {a b} h e => by subst e; exact klt_irrefl _ h) fun z hz => (h.mem z).1 hz
theorem kupto {s : List Ky} {k : Nat} {y a : Ky} (h : ∀ (i : Nat) z, i < k → s[i]? = some z → klt z a) (hy : s[k]? = some y) (hl : klt y a) : ∀ (i : Nat) z, i < k + 1 → s[i]? = some z → klt z a := by
  intro i z hi hz
  rcases Nat.lt_succ_iff_lt_or_eq.1 hi with h1 | h1
  · exact h i z h1 hz
  · subst h1; rw [hy] at hz; cases hz; exact hl
/-! ### operations on keys -/
def byKey (k : Ky) (l : List O) : List O := l.filter fun o => decide (o.key = k)
def keysO (l : List O) : List Ky := keysK (l.map (·.key))
theorem filt_at {p : O → Bool} {l : List O} {j : Nat} {a : O} (h : l[j]? = some a) (hp : p a = true) : (l.filter p)[((l.take j).filter p).length]? = some a := by
  have hlt := (List.getElem?_eq_some_iff.1 h).1
  have hs : l = l.take j ++ (a :: l.drop (j + 1)) := by
    have h1 := (List.take_append_drop j l).symm
    rw [List.drop_eq_getElem_cons hlt, (List.getElem?_eq_some_iff.1 h).2] at h1
    exact h1
  conv => lhs; rw [hs]
  rw [List.take_append_of_le_length (by rw [List.length_take]; omega), List.take_take, Nat.min_self, List.filter_append, List.getElem?_append_right (Nat.le_refl _), Nat.sub_self, List.filter_cons_of_pos hp]
  rfl
theorem filt_get {p : O → Bool} : ∀ {l : List O} {i : Nat} {a : O}, (l.filter p)[i]? = some a → ∃ j, l[j]? = some a ∧ ((l.take j).filter p).length = i
  | [], i, a, h => by simp at h
  | x :: l, i, a, h => by
    by_cases hx : p x = true
    · rw [List.filter_cons_of_pos hx] at h
      cases i with
      | zero => exact ⟨0, h, rfl⟩
      | succ i =>
        obtain ⟨j, h1, h2⟩ := filt_get (l := l) (i := i) (a := a) (by simpa using h)
        exact ⟨j + 1, by simpa using h1, by rw [List.take_succ_cons, List.filter_cons_of_pos hx, List.length_cons, h2]⟩
    · rw [List.filter_cons_of_neg hx] at h
      obtain ⟨j, h1, h2⟩ := filt_get h
      exact ⟨j + 1, by simpa using h1, by rw [List.take_succ_cons, List.filter_cons_of_neg hx, h2]⟩
theorem filt_mono {p : O → Bool} {l : List O} {j k : Nat} (h : j ≤ k) : ((l.take j).filter p).length ≤ ((l.take k).filter p).length := by
  have : l.take j = (l.take k).take j := by rw [List.take_take, Nat.min_eq_left h]
  rw [this]
  exact (List.Sublist.filter p (List.take_sublist j _)).length_le
theorem Valid.byKey {l : List O} (hv : Valid l) (k : Ky) : Valid (byKey k l) := by
  intro i a ha
  obtain ⟨j, hj, hji⟩ := filt_get ha
  obtain ⟨h1, h2, h3, h4⟩ := hv j a hj
  refine ⟨h1, fun z hz => ?_, fun m b hm hb => ?_, fun m b hb => ?_⟩
  · obtain ⟨n, hn, _⟩ := filt_get hz
    obtain ⟨z0, hz0⟩ : ∃ z0, l[0]? = some z0 := ⟨_, List.getElem?_eq_getElem (by have := (List.getElem?_eq_some_iff.1 hj).1; omega)⟩
    rw [h2 z0 hz0, (hv n z hn).2.1 z0 hz0]
  · obtain ⟨n, hn, hnm⟩ := filt_get hb
    refine h3 n b ?_ hn
    apply Classical.byContradiction
    intro hh
    have := filt_mono (p := fun o => decide (o.key = k)) (l := l) (show j ≤ n by omega)
    omega
  · obtain ⟨n, hn, _⟩ := filt_get hb
    exact h4 n b hn
theorem byKey_len (k : Ky) (l : List O) : (byKey k l).length ≤ l.length := List.length_filter_le _ _
def nOf (l : List O) (K : List Ky) : Nat := (K.map fun k => (byKey k l).length).sum
theorem nOf_succ {l : List O} {K : List Ky} {j : Nat} {k : Ky} (h : K[j]? = some k) : nOf l (K.take (j + 1)) = nOf l (K.take j) + (byKey k l).length := by
  unfold nOf
  rw [List.take_add_one, h]
  simp
theorem nOf_nil : ∀ K, nOf [] K = 0
  | [] => rfl
  | k :: K => by have := nOf_nil K; unfold nOf byKey at *; simpa using this
def cntK (x : Ky) (K : List Ky) : Nat := (K.filter fun k => decide (x = k)).length
theorem nOf_cons (a : O) (l : List O) : ∀ K, nOf (a :: l) K = cntK a.key K + nOf l K
  | [] => rfl
  | k :: K => by
    have ih := nOf_cons a l K
    unfold nOf cntK byKey at *
    simp only [List.map_cons, List.sum_cons, List.filter_cons] at *
    rw [ih]
    by_cases e : a.key = k
    · simp [e]; omega
    · simp [e]; omega
theorem cntK_le {x : Ky} : ∀ {K : List Ky}, K.Nodup → cntK x K ≤ 1
  | [], _ => Nat.zero_le _
  | k :: K, h => by
    rw [List.nodup_cons] at h
    have ih := cntK_le (x := x) h.2
    unfold cntK at *
    rw [List.filter_cons]
    by_cases e : x = k
    · subst e
      rw [if_pos (by simp), List.length_cons, List.filter_eq_nil_iff.2 fun y hy => by
        simp; intro e2; subst e2; exact h.1 hy]
      exact Nat.le_refl _
    · rw [if_neg (by simpa using e)]; exact ih
theorem cntK_mem {x : Ky} {K : List Ky} (h : x ∈ K) : 1 ≤ cntK x K :=
  List.length_pos_of_mem (List.mem_filter.2 ⟨h, by simp⟩)
theorem nOf_le {K : List Ky} (hK : K.Nodup) : ∀ l, nOf l K ≤ l.length
  | [] => by rw [nOf_nil]; exact Nat.zero_le _
  | a :: l => by rw [nOf_cons, List.length_cons]; have := nOf_le hK l; have := cntK_le (x := a.key) hK; omega
theorem nOf_all {K : List Ky} (hK : K.Nodup) : ∀ {l : List O}, (∀ a ∈ l, a.key ∈ K) → nOf l K = l.length
  | [], _ => nOf_nil K
  | a :: l, h => by
    rw [nOf_cons, List.length_cons, nOf_all hK fun b hb => h b (List.mem_cons_of_mem _ hb)]
    have := cntK_le (x := a.key) hK; have := cntK_mem (h a (by simp)); omega
theorem keysO_nodup (l : List O) : (keysO l).Nodup := keysK_nodup _
theorem keysO_mem {l : List O} {a : O} (h : a ∈ l) : a.key ∈ keysO l := ((keysK_is _).mem _).2 (List.mem_map.2 ⟨a, h, rfl⟩)
theorem keysO_nall (l : List O) : nOf l (keysO l) = l.length := nOf_all (keysO_nodup l) fun _ h => keysO_mem h
theorem keysO_nle (l : List O) (j : Nat) : nOf l ((keysO l).take j) ≤ l.length := nOf_le ((keysO_nodup l).sublist (List.take_sublist _ _)) l
theorem keysO_len (l : List O) : (keysO l).length ≤ l.length := Nat.le_trans (keysK_len _) (by simp)
/-- how often a key occurs among the first i -/
def cK (l : List O) (i : Nat) (k : Ky) : Nat := (byKey k (l.take i)).length
theorem cK_zero (l : List O) (k : Ky) : cK l 0 k = 0 := rfl
theorem cK_succ {l : List O} {i : Nat} {a : O} (h : l[i]? = some a) (k : Ky) : cK l (i + 1) k = cK l i k + if a.key = k then 1 else 0 := by
  unfold cK byKey
  rw [List.take_add_one, h, List.filter_append, List.length_append]
  congr 1
  by_cases e : a.key = k <;> simp [e]
theorem cK_at {l : List O} {i : Nat} {a : O} (h : l[i]? = some a) : (byKey a.key l)[cK l i a.key]? = some a := filt_at h (by simp)
theorem byKey_take {k : Ky} {l : List O} {i : Nat} {a : O} (h : l[i]? = some a) : byKey k (l.take (i + 1)) = if a.key = k then byKey k (l.take i) ++ [a] else byKey k (l.take i) := by
  unfold byKey
  rw [List.take_add_one, h, List.filter_append]
  by_cases e : a.key = k <;> simp [e]
end Go.Proofs.Ytbgppnkccbhbpaa.HistLaw
