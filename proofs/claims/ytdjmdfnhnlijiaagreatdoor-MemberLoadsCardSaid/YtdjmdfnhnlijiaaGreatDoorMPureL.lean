/- Goals out of bytes: in plain Lean. -/
import Derived.Test.YtdjmdfnhnlijiaaGreatDoorMPure
import Derived.Test.YtdjmdfnhnlijiaaGreatDoorWLists
namespace Go.Proofs.YtdjmdfnhnlijiaaGreatDoor.Memb
set_option linter.unusedVariables false
open SL Cfg

def GV (g : Gl) : Prop := setL g.o = g.o ∧ setL g.n = g.n ∧ setL g.l = g.l ∧ (∀ z ∈ g.n, z ∉ g.o) ∧ ∀ z ∈ g.o ++ g.n, z ∈ g.l
instance (g : Gl) : Decidable (GV g) := inferInstanceAs (Decidable (_ ∧ _ ∧ _ ∧ _ ∧ _))
def decG (l : List Int) : Gl := ⟨(decRaw l).1.1, (decRaw l).1.2.1, (decRaw l).1.2.2⟩
def good (l : List Int) : Prop := rdE (decRaw l).2 = 0 ∧ GV (decG l)
instance (l : List Int) : Decidable (good l) := inferInstanceAs (Decidable (_ ∧ _))

theorem lenU {o n : List Int} (ho : setL o = o) (hn : setL n = n) : (setL (o ++ n)).length = (o ++ n).length ↔ ∀ z ∈ n, z ∉ o := by
  constructor
  · intro h
    have h1 : (setL (o ++ n)).length ≤ (o ++ minusL n o).length := nodup_le (setL_nodup _) fun z hz => by
      have := ((setL_is (o ++ n)).mem z).1 hz
      rcases List.mem_append.1 this.1 with h2 | h2
      · exact List.mem_append_left _ h2
      · by_cases h3 : z ∈ o
        · exact List.mem_append_left _ h3
        · exact List.mem_append_right _ (mem_minus.2 ⟨h2, h3⟩)
    have h2 := minus_len (l := n) (m := o)
    rw [List.length_append] at h h1
    exact minus_full.1 (by omega)
  · intro h
    refine len_eq (setL_nodup _) (List.nodup_append.2 ⟨nodup_of ho, nodup_of hn, fun a ha b hb e => ?_⟩) fun z => ?_
    · subst e; exact h a hb ha
    · rw [(setL_is _).mem]
      exact ⟨fun h => h.1, fun h => ⟨h, (List.mem_append.1 h).elim (setL_self ho z) (setL_self hn z)⟩⟩
theorem gv_of {o n l : List Int} (ho : setL o = o) (hn : setL n = n) (hl : setL l = l) : ((setL (o ++ n)).length = (o ++ n).length ∧ (minusL (o ++ n) l).length = 0) ↔ GV ⟨o, n, l⟩ := by
  rw [lenU ho hn, minus_empty]
  exact ⟨fun h => ⟨ho, hn, hl, h.1, h.2⟩, fun h => ⟨h.2.2.2.1, h.2.2.2.2⟩⟩
theorem gv_two (g : Gl) : GV g ↔ (setL g.o = g.o ∧ setL g.n = g.n ∧ setL g.l = g.l) ∧ (minusL g.n g.o).length = g.n.length ∧ (minusL (g.o ++ g.n) g.l).length = 0 := by
  rw [minus_full, minus_empty]
  unfold GV
  exact ⟨fun ⟨a, b, c, d, e⟩ => ⟨⟨a, b, c⟩, d, e⟩, fun ⟨⟨a, b, c⟩, d, e⟩ => ⟨a, b, c, d, e⟩⟩
theorem GOK.gv {k : Nat} {g : Gl} (h : GOK k g) : GV g := ⟨h.o, h.n, h.l, h.no, fun z hz => (List.mem_append.1 hz).elim (h.ol z) (h.nl z)⟩

/-! ### reading -/
theorem rdZ_st {s : RS} (h : s.2 ≠ 0) : (rdZ s).2 = s := by
  obtain ⟨l, e⟩ := s
  show (rdN (l, e)).2 = _
  rw [rdN_err h]
theorem rdZs_st {k : Nat} {s : RS} (h : (rdZs k s).2.2 ≠ 0) : ∀ d, (rdZs (k + d) s).2 = (rdZs k s).2
  | 0 => rfl
  | d + 1 => by
    show (rdZ (rdZs (k + d) s).2).2 = _
    rw [rdZs_st h d, rdZ_st h]
theorem rdZs_bk {i n : Nat} {s : RS} (hi : i ≤ n) (h : (rdZs n s).2.2 = 0) : (rdZs i s).2.2 = 0 := by
  by_cases e : (rdZs i s).2.2 = 0
  · exact e
  · have := rdZs_st e (n - i)
    rw [show i + (n - i) = n by omega] at this
    rw [this] at h; exact h
theorem rdZs_take {s : RS} : ∀ {n i : Nat}, i ≤ n → (rdZs n s).1.take i = (rdZs i s).1
  | 0, i, h => by
    obtain rfl : i = 0 := by omega
    rfl
  | n + 1, i, h => by
    by_cases e : i = n + 1
    · subst e; exact List.take_of_length_le (by rw [rdZs_len]; exact Nat.le_refl _)
    · have h1 := rdZs_len n s
      show ((rdZs n s).1 ++ [(rdZ (rdZs n s).2).1]).take i = _
      rw [List.take_append_of_le_length (by omega)]
      exact rdZs_take (by omega)
theorem rdZs_count {n : Nat} {s : RS} (hb : Byt s.1) (h : (rdZs n s).2.2 = 0) : n ≤ s.1.length := by
  have := (rdZs_keep (k := n) (s := s) (r := (rdZs n s).2.1) (Prod.ext rfl h) hb).2
  have h1 := encZs_len (rdZs n s).1
  rw [rdZs_len] at h1
  have h2 := congrArg List.length this
  rw [List.length_append] at h2
  omega
theorem rdC_zero {s : RS} {m : Int} (h : (rdC s m).2.2 = 0) : s.2 = 0 ∧ ∃ n r, decN s.1 = some (n, r) ∧ ¬ (m < 0 ∨ m < n) ∧ rdC s m = (n, (r, 0)) := by
  obtain ⟨l, e⟩ := s
  by_cases he : e = 0
  · subst he
    refine ⟨rfl, ?_⟩
    cases hd : decN l with
    | none => rw [rdC_none hd] at h; simp at h
    | some p =>
      obtain ⟨n, r⟩ := p
      rw [rdC_some hd] at h ⊢
      split at h
      · simp at h
      · rename_i hh; exact ⟨n, r, rfl, hh, by rw [if_neg hh]⟩
  · rw [rdC_err he] at h; exact absurd h he
theorem rdC_up {s : RS} {a b : Int} (h : (rdC s a).2.2 = 0) (hab : a ≤ b) : rdC s b = rdC s a := by
  obtain ⟨h0, n, r, hd, hn, e⟩ := rdC_zero h
  obtain ⟨l, c⟩ := s
  obtain rfl : c = 0 := h0
  rw [e, rdC_some hd, if_neg (by omega)]
theorem rdC_dn {s : RS} {a b : Int} (h : (rdC s b).2.2 = 0) (ha : (rdC s b).1 ≤ a) (h0a : 0 ≤ a) : rdC s a = rdC s b := by
  obtain ⟨h0, n, r, hd, hn, e⟩ := rdC_zero h
  obtain ⟨l, c⟩ := s
  obtain rfl : c = 0 := h0
  rw [e] at ha ⊢
  dsimp only at ha
  rw [rdC_some hd, if_neg (by omega)]
theorem rdL_code {s : RS} (h : (rdL s).2.2 = 0) : (rdC s s.1.length).2.2 = 0 := rdZs_bk (i := 0) (Nat.zero_le _) h
theorem rdL_bk {s : RS} (h : (rdL s).2.2 = 0) : s.2 = 0 := (rdC_zero (rdL_code h)).1
theorem sort_set {l : List Int} (hs : l.Pairwise (· < ·)) (h1 : ∀ z ∈ l, 1 ≤ z) : setL l = l := (IsSet.eq ⟨hs, fun z => ⟨fun h => ⟨h, h1 z h⟩, fun h => h.1⟩⟩).symm
theorem set_sort {l : List Int} (h : setL l = l) : l.Pairwise (· < ·) ∧ ∀ z ∈ l, 1 ≤ z := ⟨h ▸ (setL_is l).sorted, setL_self h⟩
/-- what the reference's reading of a set gives -/
def RSet (s w : RS) (l : List Int) : Prop := (w.2 = 0 ∧ (l, w) = rdL s ∧ setL l = l) ∨ (w.2 ≠ 0 ∧ ¬ ((rdL s).2.2 = 0 ∧ setL (rdL s).1 = (rdL s).1))
section
variable {s y : RS} {n : Nat} {most : Int}
theorem rdL_as (hm : (s.1.length : Int) ≤ most) (hn : n = (rdC s most).1.toNat) (hy : y = (rdC s most).2) (h : (rdL s).2.2 = 0) : rdL s = rdZs n y := by
  have h1 := rdC_up (rdL_code h) hm
  unfold rdL
  rw [hn, hy, h1]
theorem rset_end (hb : Byt s.1) (hm : (s.1.length : Int) ≤ most) (hn : n = (rdC s most).1.toNat) (hy : y = (rdC s most).2) (h : (rdZs n y).2.2 = 0) (hp : (rdZs n y).1.Pairwise (· < ·)) (h1 : ∀ z ∈ (rdZs n y).1, 1 ≤ z) : RSet s (rdZs n y).2 (rdZs n y).1 := by
  have hyb : Byt y.1 := by rw [hy]; exact rdC_byt hb
  have hc := rdZs_count hyb h
  have h0 : (rdC s most).2.2 = 0 := by rw [← hy]; exact rdZs_bk (i := 0) (Nat.zero_le _) h
  have hz := rdC_zero h0
  obtain ⟨hs0, m, r, hd, hmm, e⟩ := hz
  have hr : r.length < s.1.length := decN_short hd
  have hyr : y.1 = r := by rw [hy, e]
  have hmn : (rdC s most).1 ≤ (s.1.length : Nat) := by
    rw [hyr] at hc
    have : n = ((rdC s most).1).toNat := hn
    omega
  refine .inl ⟨h, ?_, sort_set hp h1⟩
  unfold rdL
  rw [rdC_dn h0 hmn (by omega), ← hn, ← hy]
theorem rset_err {i : Nat} (hm : (s.1.length : Int) ≤ most) (hn : n = (rdC s most).1.toNat) (hy : y = (rdC s most).2) (hi : i ≤ n) (h : (rdZs i y).2.2 ≠ 0) (l : List Int) : RSet s (rdZs i y).2 l :=
  .inr ⟨h, fun ⟨h1, _⟩ => h (rdZs_bk hi (by rw [← rdL_as hm hn hy h1]; exact h1))⟩
theorem rset_bad {i : Nat} (hm : (s.1.length : Int) ≤ most) (hn : n = (rdC s most).1.toNat) (hy : y = (rdC s most).2) (hi : i < n) {x : Int} (hx : (rdZ (rdZs i y).2).1 = x)
    (hbad : x < 1 ∨ ∃ z, 0 < i ∧ (rdZs i y).1[i - 1]? = some z ∧ x ≤ z) {e : Int} (he : e ≠ 0) : RSet s ([], e) [] :=
  .inr ⟨he, fun ⟨h1, h2⟩ => by
    rw [rdL_as hm hn hy h1] at h2
    obtain ⟨hp, hpos⟩ := set_sort h2
    have ht := rdZs_take (s := y) (show i + 1 ≤ n by omega)
    have hl := rdZs_len i y
    have hxi : (rdZs n y).1[i]? = some x := by
      have : ((rdZs n y).1.take (i + 1))[i]? = some x := by
        rw [ht]; show ((rdZs i y).1 ++ [(rdZ (rdZs i y).2).1])[i]? = _
        rw [List.getElem?_append_right (by omega), hl, Nat.sub_self, hx]; rfl
      rwa [List.getElem?_take, if_pos (by omega)] at this
    rcases hbad with h3 | ⟨z, h3, h4, h5⟩
    · have := hpos x (List.mem_of_getElem? hxi); omega
    · have hzi : (rdZs n y).1[i - 1]? = some z := by
        rw [← rdZs_take (s := y) (show i ≤ n by omega), List.getElem?_take, if_pos (by omega)] at h4; exact h4
      obtain ⟨a1, e1⟩ := List.getElem?_eq_some_iff.1 hzi
      obtain ⟨a2, e2⟩ := List.getElem?_eq_some_iff.1 hxi
      have := List.pairwise_iff_getElem.1 hp (i - 1) i a1 a2 (by omega)
      rw [e1, e2] at this; omega⟩
theorem step_sort {i : Nat} {x : Int} (hp : (rdZs i y).1.Pairwise (· < ·)) (h1 : ∀ z ∈ (rdZs i y).1, 1 ≤ z) (hx : (rdZ (rdZs i y).2).1 = x) (hx1 : 1 ≤ x) (hlast : ∀ z, 0 < i → (rdZs i y).1[i - 1]? = some z → z < x) :
    (rdZs (i + 1) y).1.Pairwise (· < ·) ∧ ∀ z ∈ (rdZs (i + 1) y).1, 1 ≤ z := by
  show ((rdZs i y).1 ++ [(rdZ (rdZs i y).2).1]).Pairwise (· < ·) ∧ ∀ z ∈ (rdZs i y).1 ++ [(rdZ (rdZs i y).2).1], 1 ≤ z
  have hl := rdZs_len i y
  rw [hx]
  refine ⟨List.pairwise_append.2 ⟨hp, by simp, fun a ha b hb => ?_⟩, fun z hz => ?_⟩
  · simp only [List.mem_singleton] at hb; subst hb
    obtain ⟨j, hj⟩ := List.getElem?_of_mem ha
    obtain ⟨a1, e1⟩ := List.getElem?_eq_some_iff.1 hj
    have hi : 0 < i := by omega
    have h2 := hlast _ hi (List.getElem?_eq_getElem (show i - 1 < (rdZs i y).1.length by omega))
    by_cases e : j = i - 1
    · subst e; rw [e1] at h2; exact h2
    · have := List.pairwise_iff_getElem.1 hp j (i - 1) a1 (by omega) (by omega)
      rw [e1] at this; omega
  · rcases List.mem_append.1 hz with h | h
    · exact h1 z h
    · simp only [List.mem_singleton] at h; subst h; exact hx1
end
/-- three sets are a goal's bytes -/
theorem three_ok {b : List Int} {w1 w2 w3 : RS} {l1 l2 l3 : List Int} (h1 : RSet (b, 0) w1 l1) (h2 : RSet w1 w2 l2) (h3 : RSet w2 w3 l3) (he : rdE w3 = 0) : decRaw b = ((l1, l2, l3), w3) ∧ setL l1 = l1 ∧ setL l2 = l2 ∧ setL l3 = l3 := by
  have e3 : w3.2 = 0 := congrArg Prod.snd (rdE_zero he)
  rcases h3 with ⟨-, a3, s3⟩ | ⟨h, -⟩
  · have e2 : w2.2 = 0 := rdL_bk (by rw [← a3]; exact e3)
    rcases h2 with ⟨-, a2, s2⟩ | ⟨h, -⟩
    · have e1 : w1.2 = 0 := rdL_bk (by rw [← a2]; exact e2)
      rcases h1 with ⟨-, a1, s1⟩ | ⟨h, -⟩
      · refine ⟨?_, s1, s2, s3⟩
        unfold decRaw
        rw [← a1]; dsimp only
        rw [← a2]; dsimp only
        rw [← a3]
      · exact absurd e1 h
    · exact absurd e2 h
  · exact absurd e3 h
theorem three_good {b : List Int} {w1 w2 w3 : RS} {l1 l2 l3 : List Int} (h1 : RSet (b, 0) w1 l1) (h2 : RSet w1 w2 l2) (h3 : RSet w2 w3 l3) :
    (rdE w3 = 0 ∧ ((setL (l1 ++ l2)).length = (l1 ++ l2).length ∧ (minusL (l1 ++ l2) l3).length = 0)) ↔ good b := by
  constructor
  · rintro ⟨he, hv⟩
    obtain ⟨hd, s1, s2, s3⟩ := three_ok h1 h2 h3 he
    refine ⟨by rw [hd]; exact he, ?_⟩
    unfold decG
    rw [hd]
    exact (gv_of s1 s2 s3).1 hv
  · rintro ⟨he, hv⟩
    have e3 : (rdL (rdL (rdL (b, 0)).2).2).2.2 = 0 := congrArg Prod.snd (rdE_zero he)
    have e2 := rdL_bk e3
    have e1 := rdL_bk e2
    rcases h1 with ⟨-, a1, s1⟩ | ⟨-, h⟩
    · have b1 : w1 = (rdL (b, 0)).2 := congrArg Prod.snd a1
      subst b1
      rcases h2 with ⟨-, a2, s2⟩ | ⟨-, h⟩
      · have b2 : w2 = (rdL (rdL (b, 0)).2).2 := congrArg Prod.snd a2
        subst b2
        rcases h3 with ⟨-, a3, s3⟩ | ⟨-, h⟩
        · have b3 : w3 = (rdL (rdL (rdL (b, 0)).2).2).2 := congrArg Prod.snd a3
          subst b3
          have c1 : l1 = (rdL (b, 0)).1 := congrArg Prod.fst a1
          have c2 : l2 = (rdL (rdL (b, 0)).2).1 := congrArg Prod.fst a2
          have c3 : l3 = (rdL (rdL (rdL (b, 0)).2).2).1 := congrArg Prod.fst a3
          refine ⟨he, (gv_of s1 s2 s3).2 ?_⟩
          rw [c1, c2, c3]; exact hv
        · exact absurd ⟨e3, hv.2.2.1⟩ h
      · exact absurd ⟨e2, hv.2.1⟩ h
    · exact absurd ⟨e1, hv.1⟩ h
theorem three_dec {b : List Int} {w1 w2 w3 : RS} {l1 l2 l3 : List Int} (h1 : RSet (b, 0) w1 l1) (h2 : RSet w1 w2 l2) (h3 : RSet w2 w3 l3) (he : rdE w3 = 0) : decG b = ⟨l1, l2, l3⟩ := by
  unfold decG; rw [(three_ok h1 h2 h3 he).1]
theorem enc_good {o n l : List Int} {k : Nat} (hk : k ≤ 1000) (h : GOK k ⟨o, n, l⟩) : good (encC o n l) ∧ decG (encC o n l) = ⟨o, n, l⟩ := by
  have h1 := h.bo; have h2 := h.bn; have h3 := h.bl
  dsimp only at h1 h2 h3
  have hd := decRaw_enc (o := o) (n := n) (l := l) h.io h.iN h.il (by omega) (by omega) (by omega)
  have hg : decG (encC o n l) = ⟨o, n, l⟩ := by unfold decG; rw [hd]
  exact ⟨⟨by rw [hd]; rfl, by rw [hg]; exact h.gv⟩, hg⟩
theorem good_enc {b : List Int} (hb : Byt b) (h : good b) : encC (decG b).o (decG b).n (decG b).l = b := (decRaw_dec hb h.1).symm
theorem rdL_sh (s : RS) (hb : Byt s.1) (h : (rdL s).2.2 = 0) : (rdL s).2.1.length ≤ s.1.length := by
  have := congrArg List.length (rdL_keep (s := s) (r := (rdL s).2.1) (Prod.ext rfl h) hb).2
  rw [List.length_append] at this; omega
theorem good_small {b : List Int} (hb : Byt b) (h : good b) : (AllI (decG b).o ∧ AllI (decG b).n ∧ AllI (decG b).l) ∧ (decG b).o.length ≤ b.length ∧ (decG b).n.length ≤ b.length ∧ (decG b).l.length ≤ b.length := by
  have e3 : (rdL (rdL (rdL (b, 0)).2).2).2.2 = 0 := congrArg Prod.snd (rdE_zero h.1)
  have e2 := rdL_bk e3
  have e1 := rdL_bk e2
  have b1 : Byt (rdL (b, 0)).2.1 := rdL_byt (s := (b, 0)) hb
  have b2 := rdL_byt (s := (rdL (b, 0)).2) b1
  have s1 := rdL_sh (b, 0) hb e1
  have s2 := rdL_sh (rdL (b, 0)).2 b1 e2
  have l1 := rdL_len (s := (b, 0))
  have l2 := rdL_len (s := (rdL (b, 0)).2)
  have l3 := rdL_len (s := (rdL (rdL (b, 0)).2).2)
  dsimp only at s1 l1
  exact ⟨⟨rdL_i64 (s := (b, 0)) hb, rdL_i64 (s := (rdL (b, 0)).2) b1, rdL_i64 (s := (rdL (rdL (b, 0)).2).2) b2⟩, l1, Nat.le_trans l2 s1, Nat.le_trans l3 (Nat.le_trans s2 s1)⟩
end Go.Proofs.YtdjmdfnhnlijiaaGreatDoor.Memb
