/- What a goal is and what a change does to it: in plain Lean. -/
import Derived.Test.YtdjmdfnhnlijiaaGreatDoorCPure
import Derived.Test.YtdjmdfnhnlijiaaGreatDoorSlSrt
namespace Go.Proofs.YtdjmdfnhnlijiaaGreatDoor.Memb
set_option linter.unusedVariables false
open SL Cfg

structure Gl where
  o : List Int
  n : List Int
  l : List Int
structure Ch where
  k : Int
  m : Int
  f : List Int
  t : List Int
  pf : Option Addr
  cf : Nat
  pt : Option Addr
  ct : Nat
def Ch.In (x : Ch) (H : PH) : Prop := Sl H x.pf x.cf 1 (iz x.f) ∧ Sl H x.pt x.ct 1 (iz x.t)
def Ch.cells (x : Ch) : List Value := [.int .i64 x.k, .int .i64 x.m, .slice x.pf x.f.length x.cf, .slice x.pt x.t.length x.ct]
def Ch.Ri (x : Ch) : Prop := (-9223372036854775808 ≤ x.m ∧ x.m ≤ 9223372036854775807) ∧ (∀ z ∈ x.f, -9223372036854775808 ≤ z ∧ z ≤ 9223372036854775807) ∧ (∀ z ∈ x.t, -9223372036854775808 ≤ z ∧ z ≤ 9223372036854775807)

def Ch.Sm (x : Ch) : Prop := x.f.length ≤ 8 ∧ x.t.length ≤ 8 ∧ x.Ri

/-- the error of a change -/
def err (g : Gl) (c : Ch) : Int :=
  if c.k = 0 then (if c.m < 1 then 1 else if c.m ∈ g.l then 5 else 0)
  else if c.k = 1 then (if c.m ∈ g.n then 0 else 6)
  else if c.k = 2 then (if setL c.f ≠ g.o then 9 else if c.t.length < 1 ∨ 7 < c.t.length ∨ setL c.t ≠ c.t then 1 else if 0 < (minusL (minusL c.t g.o) g.n).length then 6 else 0)
  else 1
/-- the change, made -/
def mkG (g : Gl) (c : Ch) : Gl :=
  if c.k = 0 then ⟨g.o, setL (g.n ++ [c.m]), setL (g.l ++ [c.m])⟩
  else if c.k = 1 then ⟨g.o, minusL g.n [c.m], g.l⟩
  else ⟨c.t, minusL g.n c.t, g.l⟩
def adm (g : Gl) (c : Ch) : Gl := if err g c = 0 then mkG g c else g
def runG (v : List Int) (l : List Ch) : Gl := l.foldl adm ⟨setL v, [], setL v⟩

/-- what every goal is -/
structure GOK (k : Nat) (g : Gl) : Prop where
  o : setL g.o = g.o
  n : setL g.n = g.n
  l : setL g.l = g.l
  ol : ∀ z ∈ g.o, z ∈ g.l
  nl : ∀ z ∈ g.n, z ∈ g.l
  no : ∀ z ∈ g.n, z ∉ g.o
  bo : g.o.length ≤ 8
  bn : g.n.length ≤ k
  bl : g.l.length ≤ 8 + k
  io : ∀ z ∈ g.o, -9223372036854775808 ≤ z ∧ z ≤ 9223372036854775807
  iN : ∀ z ∈ g.n, -9223372036854775808 ≤ z ∧ z ≤ 9223372036854775807
  il : ∀ z ∈ g.l, -9223372036854775808 ≤ z ∧ z ≤ 9223372036854775807

theorem set_minus {l : List Int} (h : setL l = l) (m : List Int) : setL (minusL l m) = minusL l m := by
  have hs : l.Pairwise (· < ·) := h ▸ (setL_is l).sorted
  exact (IsSet.eq ⟨hs.sublist List.filter_sublist, fun z => ⟨fun hz => ⟨hz, setL_self h z (List.mem_filter.1 hz).1⟩, fun hz => hz.1⟩⟩).symm
theorem set_idem (l : List Int) : setL (setL l) = setL l := (IsSet.eq ⟨(setL_is l).sorted, fun z => ⟨fun h => ⟨h, setL_pos h⟩, fun h => h.1⟩⟩).symm
theorem mem_minus {l m : List Int} {z : Int} : z ∈ minusL l m ↔ z ∈ l ∧ z ∉ m := by unfold minusL; rw [List.mem_filter]; simp
theorem minus_empty {l m : List Int} : (minusL l m).length = 0 ↔ ∀ z ∈ l, z ∈ m := by
  rw [List.length_eq_zero_iff]
  constructor
  · intro h z hz
    apply Classical.byContradiction
    intro hn
    have := mem_minus.2 ⟨hz, hn⟩
    rw [h] at this; cases this
  · intro h
    rw [List.eq_nil_iff_forall_not_mem]
    intro z hz
    exact (mem_minus.1 hz).2 (h z (mem_minus.1 hz).1)
theorem minus_full {l m : List Int} : (minusL l m).length = l.length ↔ ∀ z ∈ l, z ∉ m := by
  unfold minusL
  rw [List.length_filter_eq_length_iff]
  exact ⟨fun h z hz => by simpa using h z hz, fun h z hz => by simpa using h z hz⟩
theorem mem_set1 {l : List Int} {m z : Int} (hl : setL l = l) : z ∈ setL (l ++ [m]) ↔ z ∈ l ∨ (z = m ∧ 1 ≤ m) := by
  rw [(setL_is _).mem, List.mem_append, List.mem_singleton]
  constructor
  · rintro ⟨h | h, h1⟩
    · exact .inl h
    · subst h; exact .inr ⟨rfl, h1⟩
  · rintro (h | ⟨h, h1⟩)
    · exact ⟨.inl h, setL_self hl z h⟩
    · subst h; exact ⟨.inr rfl, h1⟩
theorem nodup_le : ∀ {s l : List Int}, s.Nodup → (∀ z ∈ s, z ∈ l) → s.length ≤ l.length
  | [], _, _, _ => Nat.zero_le _
  | a :: s, l, hn, hs => by
    have ha := hs a (by simp)
    have hn' := List.nodup_cons.1 hn
    have := nodup_le (s := s) (l := l.erase a) hn'.2 (fun z hz => (List.mem_erase_of_ne (fun e : z = a => hn'.1 (e ▸ hz))).2 (hs z (by simp [hz])))
    rw [List.length_erase_of_mem ha] at this
    have := List.length_pos_of_mem ha
    simp; omega
theorem nodup_of {l : List Int} (h : setL l = l) : l.Nodup := h ▸ setL_nodup l
theorem len_eq {s l : List Int} (hs : s.Nodup) (hl : l.Nodup) (h : ∀ z, z ∈ s ↔ z ∈ l) : s.length = l.length :=
  Nat.le_antisymm (nodup_le hs fun z => (h z).1) (nodup_le hl fun z => (h z).2)
theorem set1_len {l : List Int} {m : Int} (hl : setL l = l) (h1 : 1 ≤ m) (hm : m ∉ l) : (setL (l ++ [m])).length = l.length + 1 := by
  have := len_eq (s := setL (l ++ [m])) (l := m :: l) (setL_nodup _) (List.nodup_cons.2 ⟨hm, nodup_of hl⟩) (fun z => by rw [mem_set1 hl, List.mem_cons]; constructor; rintro (h | h); exact .inr h; exact .inl h.1; rintro (h | h); exact .inr ⟨h, h1⟩; exact .inl h)
  simpa using this
theorem minus1_len {l : List Int} {m : Int} (hl : setL l = l) (hm : m ∈ l) : (minusL l [m]).length + 1 = l.length := by
  have := len_eq (s := m :: minusL l [m]) (l := l) (List.nodup_cons.2 ⟨by rw [mem_minus]; simp, (nodup_of hl).sublist List.filter_sublist⟩) (nodup_of hl) (fun z => by
    rw [List.mem_cons, mem_minus, List.mem_singleton]
    constructor
    · rintro (h | h)
      · subst h; exact hm
      · exact h.1
    · intro h
      by_cases e : z = m
      · exact .inl e
      · exact .inr ⟨h, e⟩)
  simpa using this

theorem err_vals (g : Gl) (c : Ch) : err g c = 0 ∨ err g c = 1 ∨ err g c = 5 ∨ err g c = 6 ∨ err g c = 9 := by
  unfold err
  repeat' split
  all_goals simp
theorem err_k {g : Gl} {c : Ch} (h : err g c = 0) : c.k = 0 ∨ c.k = 1 ∨ c.k = 2 := by
  unfold err at h
  split at h
  · exact .inl (by assumption)
  · split at h
    · exact .inr (.inl (by assumption))
    · split at h
      · exact .inr (.inr (by assumption))
      · simp at h
theorem err0 {g : Gl} {c : Ch} (hk : c.k = 0) : err g c = 0 ↔ 1 ≤ c.m ∧ c.m ∉ g.l := by
  unfold err
  rw [if_pos hk]
  split
  · constructor
    · simp
    · omega
  · split
    · constructor
      · simp
      · rintro ⟨_, h⟩; exact absurd (by assumption) h
    · exact ⟨fun _ => ⟨by omega, by assumption⟩, fun _ => rfl⟩
theorem err1 {g : Gl} {c : Ch} (hk : c.k = 1) : err g c = 0 ↔ c.m ∈ g.n := by
  unfold err
  rw [if_neg (by omega), if_pos hk]
  split
  · exact ⟨fun _ => by assumption, fun _ => rfl⟩
  · exact ⟨fun h => by simp at h, fun h => absurd h (by assumption)⟩
theorem err2 {g : Gl} {c : Ch} (hk : c.k = 2) : err g c = 0 ↔ setL c.f = g.o ∧ 1 ≤ c.t.length ∧ c.t.length ≤ 7 ∧ setL c.t = c.t ∧ ∀ z ∈ c.t, z ∈ g.o ∨ z ∈ g.n := by
  have hm : (minusL (minusL c.t g.o) g.n).length = 0 ↔ ∀ z ∈ c.t, z ∈ g.o ∨ z ∈ g.n := by
    rw [minus_empty]
    constructor
    · intro h z hz
      by_cases e : z ∈ g.o
      · exact .inl e
      · exact .inr (h z (mem_minus.2 ⟨hz, e⟩))
    · intro h z hz
      exact (h z (mem_minus.1 hz).1).resolve_left (mem_minus.1 hz).2
  unfold err
  rw [if_neg (by omega), if_neg (by omega), if_pos hk]
  split
  · constructor
    · simp
    · rintro ⟨h, _⟩; exact absurd h (by assumption)
  · rename_i h1
    split
    · rename_i h2
      constructor
      · simp
      · rintro ⟨_, a, b, d, _⟩
        rcases h2 with h | h | h
        · omega
        · omega
        · exact absurd d h
    · rename_i h2
      split
      · rename_i h3
        constructor
        · simp
        · rintro ⟨_, _, _, _, e⟩
          have := hm.2 e
          omega
      · rename_i h3
        refine ⟨fun _ => ⟨Classical.not_not.1 h1, by omega, by omega, Classical.not_not.1 fun h => h2 (.inr (.inr h)), hm.1 (by omega)⟩, fun _ => rfl⟩
theorem GOK.mono {k k' : Nat} {g : Gl} (h : GOK k g) (hk : k ≤ k') : GOK k' g := ⟨h.o, h.n, h.l, h.ol, h.nl, h.no, h.bo, by have := h.bn; omega, by have := h.bl; omega, h.io, h.iN, h.il⟩
theorem GOK.new {v : List Int} (hv : v.length ≤ 8) (hi : ∀ z ∈ v, -9223372036854775808 ≤ z ∧ z ≤ 9223372036854775807) : GOK 0 ⟨setL v, [], setL v⟩ := by
  have := setL_len v
  have hi' : ∀ z ∈ setL v, -9223372036854775808 ≤ z ∧ z ≤ 9223372036854775807 := fun z hz => hi z (((setL_is v).mem z).1 hz).1
  exact ⟨set_idem v, (IsSet.eq IsSet.nil).symm, set_idem v, fun z h => h, fun z h => (by cases h), fun z h => (by cases h), by show (setL v).length ≤ 8; omega, by simp, by show (setL v).length ≤ 8 + 0; omega, hi', fun z h => (by cases h), hi'⟩
theorem GOK.adm {k : Nat} {g : Gl} (h : GOK k g) {c : Ch} (hc : c.Sm) : GOK (k + 1) (adm g c) := by
  unfold Memb.adm
  split
  · rename_i he
    obtain ⟨hf, ht, hm, hif, hit⟩ := hc
    have hbo := h.bo
    have hbn := h.bn
    have hbl := h.bl
    rcases err_k he with hk | hk | hk
    · rw [err0 hk] at he
      unfold mkG
      rw [if_pos hk]
      have hnn : c.m ∉ g.n := fun hh => he.2 (h.nl _ hh)
      refine ⟨h.o, set_idem _, set_idem _, fun z hz => ?_, fun z hz => ?_, fun z hz => ?_, hbo, ?_, ?_, h.io, fun z hz => ?_, fun z hz => ?_⟩
      · exact (mem_set1 h.l).2 (.inl (h.ol z hz))
      · rcases (mem_set1 h.n).1 hz with h1 | h1
        · exact (mem_set1 h.l).2 (.inl (h.nl z h1))
        · exact (mem_set1 h.l).2 (.inr h1)
      · rcases (mem_set1 h.n).1 hz with h1 | h1
        · exact h.no z h1
        · intro hzo; exact he.2 (h1.1 ▸ h.ol z hzo)
      · show (setL (g.n ++ [c.m])).length ≤ k + 1
        rw [set1_len h.n he.1 hnn]; omega
      · show (setL (g.l ++ [c.m])).length ≤ 8 + (k + 1)
        rw [set1_len h.l he.1 he.2]; omega
      · rcases (mem_set1 h.n).1 hz with h1 | h1
        · exact h.iN z h1
        · rw [h1.1]; exact hm
      · rcases (mem_set1 h.l).1 hz with h1 | h1
        · exact h.il z h1
        · rw [h1.1]; exact hm
    · unfold mkG
      rw [if_neg (by omega), if_pos hk]
      refine ⟨h.o, set_minus h.n _, h.l, h.ol, fun z hz => h.nl z (mem_minus.1 hz).1, fun z hz => h.no z (mem_minus.1 hz).1, hbo, ?_, by show g.l.length ≤ _; omega, h.io, fun z hz => h.iN z (mem_minus.1 hz).1, h.il⟩
      have := minus_len (l := g.n) (m := [c.m])
      show (minusL g.n [c.m]).length ≤ k + 1
      omega
    · rw [err2 hk] at he
      unfold mkG
      rw [if_neg (by omega), if_neg (by omega)]
      refine ⟨he.2.2.2.1, set_minus h.n _, h.l, fun z hz => (he.2.2.2.2 z hz).elim (h.ol z) (h.nl z), fun z hz => h.nl z (mem_minus.1 hz).1, fun z hz => (mem_minus.1 hz).2, by show c.t.length ≤ 8; omega, ?_, by show g.l.length ≤ _; omega, hit, fun z hz => h.iN z (mem_minus.1 hz).1, h.il⟩
      have := minus_len (l := g.n) (m := c.t)
      show (minusL g.n c.t).length ≤ k + 1
      omega
  · exact h.mono (by omega)
theorem runG_take {v : List Int} {l : List Ch} {i : Nat} {c : Ch} (h : l[i]? = some c) : runG v (l.take (i + 1)) = adm (runG v (l.take i)) c := by
  unfold runG
  rw [List.take_add_one, h, List.foldl_append]; rfl
theorem runG_ok {v : List Int} (hv : v.length ≤ 8) (hi : ∀ z ∈ v, -9223372036854775808 ≤ z ∧ z ≤ 9223372036854775807) {l : List Ch} (hl : ∀ c ∈ l, c.Sm) : ∀ i, i ≤ l.length → GOK i (runG v (l.take i))
  | 0, _ => by rw [List.take_zero]; exact GOK.new hv hi
  | i + 1, h => by
    have hc := List.getElem?_eq_getElem (show i < l.length by omega)
    rw [runG_take hc]
    exact (runG_ok hv hi hl i (by omega)).adm (hl _ (List.mem_of_getElem? hc))
theorem runG_OK {v : List Int} (hv : v.length ≤ 8) (hi : ∀ z ∈ v, -9223372036854775808 ≤ z ∧ z ≤ 9223372036854775807) {l : List Ch} (hl : ∀ c ∈ l, c.Sm) : GOK l.length (runG v l) := by
  have := runG_ok hv hi hl l.length (Nat.le_refl _)
  rwa [List.take_length] at this
/-- what a change that is made does -/
theorem adm_ref {g : Gl} {c : Ch} (h : err g c ≠ 0) : adm g c = g := if_neg h
theorem adm_ok {g : Gl} {c : Ch} (h : err g c = 0) : adm g c = mkG g c := if_pos h
theorem adm_known {g : Gl} {c : Ch} {k : Nat} (h : GOK k g) : ∀ z ∈ g.l, z ∈ (adm g c).l := by
  intro z hz
  unfold adm
  split
  · unfold mkG
    split
    · exact (mem_set1 h.l).2 (.inl hz)
    · split <;> exact hz
  · exact hz
theorem minus_of_sub {l m : List Int} (h : ∀ z ∈ l, z ∈ m) : (minusL l m).length = 0 := minus_empty.2 h
theorem minus_of_dis {l m : List Int} (h : ∀ z ∈ l, z ∉ m) : (minusL l m).length = l.length := minus_full.2 h
end Go.Proofs.YtdjmdfnhnlijiaaGreatDoor.Memb
