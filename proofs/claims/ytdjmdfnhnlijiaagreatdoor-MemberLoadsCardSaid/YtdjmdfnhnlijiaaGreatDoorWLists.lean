/- Lists of integers as bytes: in plain Lean. -/
import Derived.Test.YtdjmdfnhnlijiaaGreatDoorWPure
namespace Go.Proofs.YtdjmdfnhnlijiaaGreatDoor.Cfg
set_option linter.unusedVariables false
def rdZs : Nat → RS → List Int × RS
  | 0, s => ([], s)
  | k + 1, s => ((rdZs k s).1 ++ [(rdZ (rdZs k s).2).1], (rdZ (rdZs k s).2).2)
def rdL (s : RS) : List Int × RS := rdZs (rdC s s.1.length).1.toNat (rdC s s.1.length).2
def AllI (l : List Int) : Prop := ∀ z ∈ l, I64 z
theorem rdZs_len (k : Nat) (s : RS) : (rdZs k s).1.length = k := by
  induction k with
  | zero => rfl
  | succ k ih => simp [rdZs, ih]
theorem rdZ_byt {s : RS} (h : Byt s.1) : Byt (rdZ s).2.1 := (rdN_byt h).1
theorem rdZs_byt {s : RS} (h : Byt s.1) (k : Nat) : Byt (rdZs k s).2.1 := by
  induction k with
  | zero => exact h
  | succ k ih => exact rdZ_byt ih
theorem rdZ_i64 {s : RS} (h : Byt s.1) : I64 (rdZ s).1 := unzig_i64 (rdN_byt h).2
theorem rdZs_i64 {s : RS} (h : Byt s.1) (k : Nat) : AllI (rdZs k s).1 := by
  induction k with
  | zero => intro z hz; cases hz
  | succ k ih =>
    intro z hz
    rcases List.mem_append.1 hz with hz | hz
    · exact ih z hz
    · simp only [List.mem_singleton] at hz; subst hz; exact rdZ_i64 (rdZs_byt h k)
theorem rdL_byt {s : RS} (h : Byt s.1) : Byt (rdL s).2.1 := rdZs_byt (rdC_byt h) _
theorem rdL_i64 {s : RS} (h : Byt s.1) : AllI (rdL s).1 := rdZs_i64 (rdC_byt h) _
theorem rdC_le {s : RS} {most : Int} (h0 : 0 ≤ most) : (rdC s most).1 ≤ most := by
  unfold rdC
  split
  · exact h0
  · split
    · split
      · exact h0
      · rename_i h; dsimp only; omega
    · exact h0
theorem rdL_len {s : RS} : (rdL s).1.length ≤ s.1.length := by
  unfold rdL
  rw [rdZs_len]
  have := rdC_le (s := s) (most := s.1.length) (by omega)
  omega
theorem rdN_keep {s : RS} {r : List Int} (h : (rdN s).2 = (r, 0)) (hb : Byt s.1) : s.2 = 0 ∧ s.1 = encN (rdN s).1 ++ r ∧ U64 (rdN s).1 := by
  obtain ⟨l, e⟩ := s
  by_cases he : e = 0
  · subst he
    cases hd : decN l with
    | none => rw [rdN_none hd] at h; simp at h
    | some x =>
      obtain ⟨n, q⟩ := x
      rw [rdN_some hd] at h ⊢
      simp at h; subst h
      have := enc_dec hb hd
      exact ⟨rfl, this.1, this.2.1⟩
  · rw [rdN_err he] at h; simp at h; exact absurd h.2 he
theorem rdZ_keep {s : RS} {r : List Int} (h : (rdZ s).2 = (r, 0)) (hb : Byt s.1) : s.2 = 0 ∧ s.1 = encZ (rdZ s).1 ++ r := by
  obtain ⟨h1, h2, h3⟩ := rdN_keep h hb
  refine ⟨h1, ?_⟩
  unfold encZ rdZ
  rw [zig_unzig h3.1]; exact h2
theorem rdZs_keep {k : Nat} : ∀ {s : RS} {r : List Int}, (rdZs k s).2 = (r, 0) → Byt s.1 → s.2 = 0 ∧ s.1 = (rdZs k s).1.flatMap encZ ++ r := by
  induction k with
  | zero => intro s r h hb; simp only [rdZs] at h ⊢; rw [h]; exact ⟨rfl, rfl⟩
  | succ k ih =>
    intro s r h hb
    obtain ⟨h1, h2⟩ := rdZ_keep (s := (rdZs k s).2) h (rdZs_byt hb k)
    obtain ⟨h3, h4⟩ := ih (r := (rdZs k s).2.1) (by rw [← h1]) hb
    refine ⟨h3, ?_⟩
    simp only [rdZs, List.flatMap_append, List.flatMap_singleton, List.append_assoc]
    rw [← h2]; exact h4
theorem rdC_keep {s : RS} {most : Int} {r : List Int} (h : (rdC s most).2 = (r, 0)) (hb : Byt s.1) : s.2 = 0 ∧ s.1 = encN (rdC s most).1 ++ r ∧ 0 ≤ (rdC s most).1 := by
  obtain ⟨l, e⟩ := s
  by_cases he : e = 0
  · subst he
    cases hd : decN l with
    | none => rw [rdC_none hd] at h; simp at h
    | some x =>
      obtain ⟨n, q⟩ := x
      rw [rdC_some hd] at h ⊢
      by_cases hm : most < 0 ∨ most < n
      · rw [if_pos hm] at h; simp at h
      · rw [if_neg hm] at h ⊢
        simp at h; subst h
        have := enc_dec hb hd
        exact ⟨rfl, this.1, this.2.1.1⟩
  · rw [rdC_err he] at h; simp at h; exact absurd h.2 he
theorem rdL_keep {s : RS} {r : List Int} (h : (rdL s).2 = (r, 0)) (hb : Byt s.1) : s.2 = 0 ∧ s.1 = encL (rdL s).1 ++ r := by
  unfold rdL at h ⊢
  obtain ⟨h1, h2⟩ := rdZs_keep h (rdC_byt hb)
  obtain ⟨h3, h4, h5⟩ := rdC_keep (s := s) (r := (rdC s s.1.length).2.1) (by rw [← h1]) hb
  refine ⟨h3, ?_⟩
  unfold encL
  rw [rdZs_len, List.append_assoc, ← h2, Int.toNat_of_nonneg h5]; exact h4
theorem rdZ_enc {z : Int} (h : I64 z) (r : List Int) : rdZ (encZ z ++ r, 0) = (z, (r, 0)) := by
  unfold rdZ encZ
  rw [rdN_some (dec_enc (zig_u64 h) r)]
  dsimp only; rw [unzig_zig]
theorem rdZs_enc : ∀ (xs : List Int) (r : List Int), AllI xs → rdZs xs.length (xs.flatMap encZ ++ r, 0) = (xs, (r, 0)) := fun xs => by
  induction xs using snoc_ind with
  | h0 => intro r _; rfl
  | h1 xs a ih =>
    intro r h
    have e := ih (encZ a ++ r) fun z hz => h z (List.mem_append_left _ hz)
    rw [List.length_append, List.length_singleton]
    simp only [rdZs, List.flatMap_append, List.flatMap_singleton, List.append_assoc]
    rw [e]
    dsimp only
    rw [rdZ_enc (h a (by simp))]
theorem encN_pos (n : Int) : 1 ≤ (encN n).length := by unfold encN; simp
theorem encZs_len (xs : List Int) : xs.length ≤ (xs.flatMap encZ).length := by
  induction xs with
  | nil => simp
  | cons a xs ih =>
    have := encN_pos (zig a)
    simp only [List.flatMap_cons, List.length_append, List.length_cons, encZ]
    omega
theorem rdL_enc {xs : List Int} (h : AllI xs) (hl : xs.length < 9223372036854775808) (r : List Int) : rdL (encL xs ++ r, 0) = (xs, (r, 0)) := by
  have hd : decN (encL xs ++ r) = some ((xs.length : Int), xs.flatMap encZ ++ r) := by
    unfold encL; rw [List.append_assoc]; exact dec_enc ⟨by omega, by omega⟩ _
  have hc : rdC (encL xs ++ r, 0) (encL xs ++ r).length = ((xs.length : Int), (xs.flatMap encZ ++ r, 0)) := by
    rw [rdC_some hd, if_neg]
    have h2 := encZs_len xs
    unfold encL
    simp only [List.length_append]
    omega
  unfold rdL
  dsimp only
  rw [hc]
  dsimp only
  rw [Int.toNat_natCast]
  exact rdZs_enc xs r h
def encC (o n l : List Int) : List Int := encL o ++ encL n ++ encL l
def decRaw (l : List Int) : (List Int × List Int × List Int) × RS := (((rdL (l, 0)).1, (rdL (rdL (l, 0)).2).1, (rdL (rdL (rdL (l, 0)).2).2).1), (rdL (rdL (rdL (l, 0)).2).2).2)
theorem rdE_zero {s : RS} (h : rdE s = 0) : s = ([], 0) := by
  obtain ⟨l, e⟩ := s
  by_cases hc : e = 0 ∧ 0 < l.length
  · rw [rdE_pos hc] at h; cases h
  · rw [rdE_neg hc] at h
    subst h
    have : l = [] := List.eq_nil_of_length_eq_zero (by omega)
    rw [this]
theorem decRaw_enc {o n l : List Int} (ho : AllI o) (hn : AllI n) (hl : AllI l) (h1 : o.length < 9223372036854775808) (h2 : n.length < 9223372036854775808) (h3 : l.length < 9223372036854775808) : decRaw (encC o n l) = ((o, n, l), ([], 0)) := by
  have e1 : rdL (encC o n l, 0) = (o, (encL n ++ encL l, 0)) := by unfold encC; rw [List.append_assoc]; exact rdL_enc ho h1 _
  have e2 : rdL (encL n ++ encL l, 0) = (n, (encL l, 0)) := rdL_enc hn h2 _
  have e3 : rdL (encL l, 0) = (l, ([], 0)) := by have := rdL_enc hl h3 []; rwa [List.append_nil] at this
  unfold decRaw
  rw [e1]; dsimp only; rw [e2]; dsimp only; rw [e3]
theorem decRaw_dec {b : List Int} (hb : Byt b) (h : rdE (decRaw b).2 = 0) : b = encC (decRaw b).1.1 (decRaw b).1.2.1 (decRaw b).1.2.2 := by
  have h0 := rdE_zero h
  unfold decRaw at h0 ⊢
  dsimp only at h0 ⊢
  have b1 := rdL_byt (s := (b, 0)) hb
  have b2 := rdL_byt b1
  obtain ⟨h1, h2⟩ := rdL_keep h0 b2
  obtain ⟨h3, h4⟩ := rdL_keep (r := (rdL (rdL (b, 0)).2).2.1) (Prod.ext rfl h1) b1
  obtain ⟨h5, h6⟩ := rdL_keep (s := (b, 0)) (r := (rdL (b, 0)).2.1) (Prod.ext rfl h3) hb
  unfold encC
  rw [List.append_nil] at h2
  rw [← h2, List.append_assoc, ← h4]; exact h6
theorem encZ_byt {z : Int} (h : I64 z) : Byt (encZ z) := encN_byt (zig_u64 h)
theorem encZ_len {z : Int} (h : I64 z) : (encZ z).length ≤ 9 := encN_len (zig_u64 h)
theorem encZs_byt {l : List Int} (h : AllI l) : Byt (l.flatMap encZ) := fun z hz => by
  obtain ⟨a, ha, hz⟩ := List.mem_flatMap.1 hz
  exact encZ_byt (h a ha) z hz
theorem encL_byt {l : List Int} (h : AllI l) (hl : l.length < 9223372036854775808) : Byt (encL l) := (encN_byt ⟨by omega, by omega⟩).app (encZs_byt h)
theorem encZs_le : ∀ {l : List Int}, AllI l → (l.flatMap encZ).length ≤ 9 * l.length
  | [], _ => by simp
  | a :: l, h => by
    have h1 := encZ_len (h a (by simp))
    have h2 := encZs_le (l := l) fun z hz => h z (List.mem_cons_of_mem _ hz)
    simp only [List.flatMap_cons, List.length_append, List.length_cons]
    omega
theorem encL_le {l : List Int} (h : AllI l) (hl : l.length < 9223372036854775808) : (encL l).length ≤ 9 + 9 * l.length := by
  have h1 := encN_len (n := (l.length : Int)) ⟨by omega, by omega⟩
  have h2 := encZs_le h
  unfold encL
  rw [List.length_append]; omega
theorem AllI.take {l : List Int} (h : AllI l) (k : Nat) : AllI (l.take k) := fun z hz => h z (List.mem_of_mem_take hz)
/-! ### texts -/
theorem rdT_enc {s : List Int} (hl : s.length < 9223372036854775808) (r : List Int) : rdT (encT s ++ r, 0) = (s, (r, 0)) := by
  have hd : decN (encT s ++ r) = some ((s.length : Int), s ++ r) := by
    unfold encT; rw [List.append_assoc]; exact dec_enc ⟨by omega, by omega⟩ _
  rw [rdT_some hd, if_neg (by rw [List.length_append]; omega), Int.toNat_natCast, List.take_left, List.drop_left]
theorem rdT_keep {s : RS} {r : List Int} (h : (rdT s).2 = (r, 0)) (hb : Byt s.1) : s.2 = 0 ∧ s.1 = encT (rdT s).1 ++ r := by
  obtain ⟨l, e⟩ := s
  by_cases he : e = 0
  · subst he
    cases hd : decN l with
    | none => rw [rdT_none hd] at h; simp at h
    | some x =>
      obtain ⟨n, q⟩ := x
      rw [rdT_some hd] at h ⊢
      obtain ⟨h1, h2, h3⟩ := enc_dec hb hd
      by_cases hm : (q.length : Int) < n
      · rw [if_pos hm] at h; simp at h
      · rw [if_neg hm] at h ⊢
        simp at h; subst h
        refine ⟨rfl, ?_⟩
        unfold encT
        have h4 := h2.1
        rw [List.length_take, show ((min n.toNat q.length : Nat) : Int) = n by omega, List.append_assoc, List.take_append_drop]; exact h1
  · rw [rdT_err he] at h; simp at h; exact absurd h.2 he
theorem encT_byt {s : List Int} (h : Byt s) (hl : s.length < 9223372036854775808) : Byt (encT s) := (encN_byt ⟨by omega, by omega⟩).app h
end Go.Proofs.YtdjmdfnhnlijiaaGreatDoor.Cfg
