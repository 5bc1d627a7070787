/- Operations out of events, as the reference finds them: the plain law of HistoryOf. -/
import Derived.Test.YtbgppnkccbhbpaaDoorHPureV
import Derived.Test.YtbgppnkccbhbpaaDoorCPure
namespace Go.Proofs.YtbgppnkccbhbpaaDoor.HistLaw
set_option linter.unusedVariables false

/-- the last operation of a client and a number -/
def LastM (l : List O) (c n : Int) (k : Nat) : Prop := (∃ a, l[k]? = some a ∧ a.cl = c ∧ a.nu = n) ∧ ∀ (i : Nat) b, k < i → l[i]? = some b → ¬ (b.cl = c ∧ b.nu = n)
theorem LastM.uniq {l : List O} {c n : Int} {k k' : Nat} (h : LastM l c n k) (h' : LastM l c n k') : k = k' := by
  obtain ⟨⟨a, a1, a2⟩, a3⟩ := h
  obtain ⟨⟨b, b1, b2⟩, b3⟩ := h'
  rcases Nat.lt_trichotomy k k' with h | h | h
  · exact absurd b2 (a3 k' b h b1)
  · exact h
  · exact absurd a2 (b3 k a h a1)

def IxS (l : List O) (c n r : Int) : Prop := (r = -1 ∧ ((∀ k, ¬ LastM l c n k) ∨ ∃ k a, LastM l c n k ∧ l[k]? = some a ∧ 0 ≤ a.rsp)) ∨ ∃ k : Nat, r = k ∧ LastM l c n k ∧ ∃ a, l[k]? = some a ∧ a.rsp < 0

structure OInv (s : OS) : Prop where
  opn : ∀ c n k, s.opn (c, n) = some k → LastM s.out c n k ∧ ∃ a, s.out[k]? = some a ∧ a.rsp < 0
  non : ∀ c n k, s.opn (c, n) = none → LastM s.out c n k → ∃ a, s.out[k]? = some a ∧ 0 ≤ a.rsp

theorem OInv.ix {s : OS} (h : OInv s) {c n r : Int} (hr : IxS s.out c n r) : (r = -1 ∧ s.opn (c, n) = none) ∨ ∃ k : Nat, r = k ∧ s.opn (c, n) = some k := by
  rcases hr with ⟨rfl, hr⟩ | ⟨k, rfl, hk, a, ha, hneg⟩
  · left
    refine ⟨rfl, ?_⟩
    cases ho : s.opn (c, n) with
    | none => rfl
    | some k =>
      obtain ⟨h1, a, ha, h2⟩ := h.opn c n k ho
      rcases hr with hr | ⟨k', b, hk', hb, h3⟩
      · exact absurd h1 (hr k)
      · have := h1.uniq hk'; subst this
        rw [ha] at hb; cases hb; omega
  · right
    refine ⟨k, rfl, ?_⟩
    cases ho : s.opn (c, n) with
    | none =>
      obtain ⟨b, hb, h3⟩ := h.non c n k ho hk
      rw [ha] at hb; cases hb; omega
    | some k' => rw [(h.opn c n k' ho).1.uniq hk]

theorem OInv.nil : OInv ⟨[], fun _ => none⟩ := ⟨fun c n k h => (by cases h), fun c n k _ h => by obtain ⟨⟨a, ha, _⟩, _⟩ := h; simp at ha⟩

theorem lastM_snoc {l : List O} {o : O} {c n : Int} (hne : ¬ (o.cl = c ∧ o.nu = n)) (k : Nat) : LastM (l ++ [o]) c n k ↔ LastM l c n k := by
  have get : ∀ (i : Nat) b, (l ++ [o])[i]? = some b → l[i]? = some b ∨ b = o := fun i b hb => by
    rcases Nat.lt_or_ge i l.length with h | h
    · rw [List.getElem?_append_left h] at hb; exact .inl hb
    · rw [List.getElem?_append_right h] at hb
      cases hk : i - l.length with
      | zero => rw [hk] at hb; simp at hb; exact .inr hb.symm
      | succ m => rw [hk] at hb; simp at hb
  constructor
  · rintro ⟨⟨a, h1, h2⟩, h3⟩
    refine ⟨⟨a, ?_, h2⟩, fun i b hi hb => h3 i b hi (by rw [List.getElem?_append_left (List.getElem?_eq_some_iff.1 hb).1]; exact hb)⟩
    rcases get k a h1 with h | h
    · exact h
    · subst h; exact absurd h2 hne
  · rintro ⟨⟨a, h1, h2⟩, h3⟩
    refine ⟨⟨a, by rw [List.getElem?_append_left (List.getElem?_eq_some_iff.1 h1).1]; exact h1, h2⟩, fun i b hi hb => ?_⟩
    rcases get i b hb with h | h
    · exact h3 i b hi h
    · subst h; exact hne
theorem lastM_last {l : List O} {o : O} : LastM (l ++ [o]) o.cl o.nu l.length := ⟨⟨o, by simp, rfl, rfl⟩, fun i b hi hb => by
  have := (List.getElem?_eq_some_iff.1 hb).1
  simp at this; omega⟩
theorem lastM_modify {l : List O} {k0 : Nat} {f : O → O} (hf : ∀ o, (f o).cl = o.cl ∧ (f o).nu = o.nu) {c n : Int} (k : Nat) : LastM (l.modify k0 f) c n k ↔ LastM l c n k := by
  have fwd : ∀ (i : Nat) b, (l.modify k0 f)[i]? = some b → ∃ b0, l[i]? = some b0 ∧ b.cl = b0.cl ∧ b.nu = b0.nu := fun i b hb => by
    obtain ⟨b0, h1, h2⟩ := get_modify hb
    refine ⟨b0, h1, ?_⟩
    rw [h2]; split
    · exact hf b0
    · exact ⟨rfl, rfl⟩
  have bwd : ∀ (i : Nat) b, l[i]? = some b → ∃ b', (l.modify k0 f)[i]? = some b' ∧ b'.cl = b.cl ∧ b'.nu = b.nu := fun i b hb => by
    rw [List.getElem?_modify, hb]
    refine ⟨_, rfl, ?_⟩
    simp only [id]
    split
    · exact hf b
    · exact ⟨rfl, rfl⟩
  constructor
  · rintro ⟨⟨a, h1, h2⟩, h3⟩
    obtain ⟨a0, g1, g2, g3⟩ := fwd k a h1
    refine ⟨⟨a0, g1, by rw [← g2, ← g3]; exact h2⟩, fun i b hi hb hm => ?_⟩
    obtain ⟨b', g4, g5, g6⟩ := bwd i b hb
    exact h3 i b' hi g4 (by rw [g5, g6]; exact hm)
  · rintro ⟨⟨a, h1, h2⟩, h3⟩
    obtain ⟨a0, g1, g2, g3⟩ := bwd k a h1
    refine ⟨⟨a0, g1, by rw [g2, g3]; exact h2⟩, fun i b hi hb hm => ?_⟩
    obtain ⟨b', g4, g5, g6⟩ := fwd i b hb
    exact h3 i b' hi g4 (by rw [← g5, ← g6]; exact hm)

theorem OInv.step {s : OS} (h : OInv s) (g : Int) (i : Nat) (e : Ev) : OInv (ofStep g i e s) := by
  unfold ofStep
  split
  · split
    · -- an invocation
      have hkey : ∀ c n, ¬ (c = e.cl ∧ n = e.nu) → ¬ ((opOf g i e).cl = c ∧ (opOf g i e).nu = n) := fun c n hn hh => hn ⟨hh.1.symm, hh.2.symm⟩
      refine ⟨fun c n k hk => ?_, fun c n k hk hl => ?_⟩
      · by_cases hc : c = e.cl ∧ n = e.nu
        · obtain ⟨rfl, rfl⟩ := hc
          simp only [if_true, Option.some.injEq] at hk
          subst hk
          exact ⟨lastM_last (o := opOf g i e), opOf g i e, by simp, by simp [opOf]⟩
        · have hk' : s.opn (c, n) = some k := by simpa [hc] using hk
          obtain ⟨h1, a, h2, h3⟩ := h.opn c n k hk'
          exact ⟨(lastM_snoc (hkey c n hc) k).2 h1, a, by rw [List.getElem?_append_left (List.getElem?_eq_some_iff.1 h2).1]; exact h2, h3⟩
      · by_cases hc : c = e.cl ∧ n = e.nu
        · obtain ⟨rfl, rfl⟩ := hc
          simp at hk
        · have hk' : s.opn (c, n) = none := by simpa [hc] using hk
          obtain ⟨a, h2, h3⟩ := h.non c n k hk' ((lastM_snoc (hkey c n hc) k).1 hl)
          exact ⟨a, by show (s.out ++ [_])[k]? = _; rw [List.getElem?_append_left (List.getElem?_eq_some_iff.1 h2).1]; exact h2, h3⟩
    · split
      · cases ho : s.opn (e.cl, e.nu) with
        | none => exact h
        | some k0 =>
          obtain ⟨l0, a0, ha0, hn0⟩ := h.opn _ _ _ ho
          have hf : ∀ o, (respond i e o).cl = o.cl ∧ (respond i e o).nu = o.nu := fun o => ⟨rfl, rfl⟩
          refine ⟨fun c n k hk => ?_, fun c n k hk hl => ?_⟩
          · by_cases hc : c = e.cl ∧ n = e.nu
            · obtain ⟨rfl, rfl⟩ := hc; simp at hk
            · have hk' : s.opn (c, n) = some k := by simpa [hc] using hk
              obtain ⟨h1, a, h2, h3⟩ := h.opn c n k hk'
              have hne : k0 ≠ k := fun e' => by
                subst e'
                obtain ⟨b, b1, b2, b3⟩ := l0.1
                obtain ⟨d, d1, d2, d3⟩ := h1.1
                rw [b1] at d1; cases d1
                exact hc ⟨d2.symm.trans b2, d3.symm.trans b3⟩
              exact ⟨(lastM_modify hf k).2 h1, a, by rw [List.getElem?_modify, h2]; simp [hne], h3⟩
          · have hl' := (lastM_modify hf k).1 hl
            by_cases hc : c = e.cl ∧ n = e.nu
            · obtain ⟨rfl, rfl⟩ := hc
              have := hl'.uniq l0
              subst this
              exact ⟨respond i e a0, by show (s.out.modify k (respond i e))[k]? = _; rw [List.getElem?_modify, ha0]; simp, by show (0 : Int) ≤ (i : Int); omega⟩
            · have hk' : s.opn (c, n) = none := by simpa [hc] using hk
              obtain ⟨a, h2, h3⟩ := h.non c n k hk' hl'
              by_cases hkk : k0 = k
              · exact ⟨respond i e a, by show (s.out.modify k0 (respond i e))[k]? = _; rw [List.getElem?_modify, h2]; simp [hkk], by show (0 : Int) ≤ (i : Int); omega⟩
              · exact ⟨a, by show (s.out.modify k0 (respond i e))[k]? = _; rw [List.getElem?_modify, h2]; simp [hkk], h3⟩
      · exact h
  · exact h

theorem ofN_inv {g : Int} {l : List Ev} : ∀ n, OInv (ofN g l n)
  | 0 => OInv.nil
  | n + 1 => by
    unfold ofN
    cases l[n]? with
    | none => exact ofN_inv n
    | some e => exact (ofN_inv n).step g n e

/-! ### groups -/
open Cfg
/-- the groups of the first i invocations -/
def gps (l : List Ev) (i : Nat) : List Int := ((l.take i).filter fun e => decide (e.ek = 0)).map (·.gr)
theorem gps_succ {l : List Ev} {i : Nat} {e : Ev} (h : l[i]? = some e) : gps l (i + 1) = if e.ek = 0 then gps l i ++ [e.gr] else gps l i := by
  unfold gps
  rw [List.take_add_one, h, List.filter_append, List.map_append]
  by_cases he : e.ek = 0 <;> simp [he]
theorem gps_len {l : List Ev} (i : Nat) : (gps l i).length ≤ i := by
  unfold gps
  rw [List.length_map]
  exact Nat.le_trans (List.length_filter_le _ _) (by rw [List.length_take]; omega)
/-- s is the increasing list of the elements of l -/
structure IsAll (l s : List Int) : Prop where
  sorted : s.Pairwise (· < ·)
  mem : ∀ z, z ∈ s ↔ z ∈ l
def allL (l : List Int) : List Int := cpt (srt l)
theorem allL_is (l : List Int) : IsAll l (allL l) := by
  refine ⟨cpt_sorted ?_, fun z => ?_⟩
  · have := List.pairwise_mergeSort (le := fun (x y : Int) => decide (x ≤ y)) (fun a b c h1 h2 => by simp at *; omega) (fun a b => by simp; omega) l
    exact this.imp (by simp)
  · unfold allL srt
    rw [cpt_mem, List.mem_mergeSort]
theorem IsAll.eq {l s : List Int} (h : IsAll l s) : s = allL l := sorted_eq h.sorted (allL_is l).sorted fun z => (h.mem z).trans ((allL_is l).mem z).symm
theorem IsAll.nil : IsAll [] [] := ⟨.nil, by simp⟩
theorem IsAll.len {l s : List Int} (h : IsAll l s) : s.length ≤ l.length := by
  rw [h.eq]; exact Nat.le_trans (cpt_len _) (by rw [srt_len]; exact Nat.le_refl _)
theorem IsAll.skip {l s : List Int} {a : Int} (h : IsAll l s) (ha : a ∈ s) : IsAll (l ++ [a]) s := ⟨h.sorted, fun z => by
  rw [List.mem_append, List.mem_singleton, h.mem z]
  constructor
  · exact .inl
  · rintro (h1 | h1)
    · exact h1
    · subst h1; exact (h.mem z).1 ha⟩
theorem IsAll.put {l s : List Int} {k : Nat} {a : Int} (h : IsAll l s) (hn : a ∉ s) (hk : k ≤ s.length) (hlt : ∀ (i : Nat) z, i < k → s[i]? = some z → z < a) (hge : ∀ z, s[k]? = some z → ¬ z < a) : IsAll (l ++ [a]) (ins s k a) := by
  -- shift all by a bound, so that the law for positive numbers serves
  have hsp : s.take k ++ s.drop k = s := List.take_append_drop k s
  have hpw := h.sorted
  rw [← hsp, List.pairwise_append] at hpw
  have below : ∀ z ∈ s.take k, z < a := fun z hz => by
    obtain ⟨i, hi⟩ := List.getElem?_of_mem hz
    rw [List.getElem?_take] at hi
    split at hi
    · rename_i hik; exact hlt i z hik hi
    · cases hi
  have above : ∀ z ∈ s.drop k, a < z := fun z hz => by
    have hz' : z ∈ s := List.mem_of_mem_drop hz
    have hza : z ≠ a := fun e => hn (e ▸ hz')
    cases hd : s.drop k with
    | nil => rw [hd] at hz; simp at hz
    | cons y r =>
      have hy : s[k]? = some y := by
        have := congrArg (fun l => l[0]?) hd
        simpa using this
      have h2 := hge y hy
      rw [hd] at hz
      rcases List.mem_cons.1 hz with h3 | h3
      · subst h3; omega
      · have h4 := hpw.2.1
        rw [hd, List.pairwise_cons] at h4
        have := h4.1 z h3
        omega
  refine ⟨?_, fun z => ?_⟩
  · unfold ins
    rw [List.append_assoc, List.pairwise_append]
    refine ⟨hpw.1, ?_, fun x hx y hy => ?_⟩
    · rw [List.singleton_append, List.pairwise_cons]
      exact ⟨above, hpw.2.1⟩
    · rcases List.mem_append.1 hy with h2 | h2
      · simp at h2; subst h2; exact below x hx
      · exact hpw.2.2 x hx y h2
  · have hm : z ∈ ins s k a ↔ z = a ∨ z ∈ s := by
      unfold ins
      rw [List.mem_append, List.mem_append, List.mem_singleton]
      conv => rhs; rw [← hsp, List.mem_append]
      constructor
      · rintro ((h | h) | h)
        · exact .inr (.inl h)
        · exact .inl h
        · exact .inr (.inr h)
      · rintro (h | h | h)
        · exact .inl (.inr h)
        · exact .inl (.inl h)
        · exact .inr h
    rw [hm, List.mem_append, List.mem_singleton, h.mem z]
    constructor
    · rintro (h1 | h1)
      · exact .inr h1
      · exact .inl h1
    · rintro (h1 | h1)
      · exact .inr h1
      · exact .inl h1
theorem sorted_notin {s : List Int} (h : s.Pairwise (· < ·)) {k : Nat} {a : Int} (hlt : ∀ (i : Nat) z, i < k → s[i]? = some z → z < a) (hge : ∀ z, s[k]? = some z → ¬ z < a ∧ z ≠ a) : a ∉ s := fun ha => by
  obtain ⟨j, hj⟩ := List.getElem?_of_mem ha
  rcases Nat.lt_trichotomy j k with h1 | h1 | h1
  · have := hlt j a h1 hj; omega
  · subst h1; exact (hge a hj).2 rfl
  · obtain ⟨y, hy⟩ : ∃ y, s[k]? = some y := ⟨_, List.getElem?_eq_getElem (by have := (List.getElem?_eq_some_iff.1 hj).1; omega)⟩
    have h2 := hge y hy
    have h3 := List.pairwise_iff_getElem.1 h k j (List.getElem?_eq_some_iff.1 hy).1 (List.getElem?_eq_some_iff.1 hj).1 h1
    rw [(List.getElem?_eq_some_iff.1 hy).2, (List.getElem?_eq_some_iff.1 hj).2] at h3
    omega
end Go.Proofs.YtbgppnkccbhbpaaDoor.HistLaw
