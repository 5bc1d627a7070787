/- Overlaps of configurations: in plain Lean. -/
import Derived.Test.YtdjmdfnhnlijiaaGreatDoorFPure
import Derived.Laws.BitsLemmas
import Derived.Test.YtdjmdfnhnlijiaaGreatDoorSlCore
namespace Go.Proofs.YtdjmdfnhnlijiaaGreatDoor.Cfg
set_option linter.unusedVariables false

/-- the elements that a number chooses by its bits -/
def subB : List Int → Int → List Int
  | [], _ => []
  | z :: r, b => (if b % 2 = 1 then [z] else []) ++ subB r (b / 2)
theorem subB_snoc (z : Int) : ∀ (l : List Int) (b : Int), subB (l ++ [z]) b = subB l b ++ (if b / 2 ^ l.length % 2 = 1 then [z] else [])
  | [], b => by simp [subB]
  | a :: r, b => by
    have e : b / 2 / 2 ^ r.length = b / 2 ^ (a :: r).length := by
      rw [Int.ediv_ediv_of_nonneg (by omega), List.length_cons, Int.pow_succ, Int.mul_comm]
    simp only [List.cons_append, subB]
    rw [subB_snoc z r (b / 2), e, List.append_assoc]
theorem subB_take {l : List Int} {j : Nat} {z : Int} (h : l[j]? = some z) (b : Int) : subB (l.take (j + 1)) b = if b / 2 ^ j % 2 = 1 then subB (l.take j) b ++ [z] else subB (l.take j) b := by
  have hj := (List.getElem?_eq_some_iff.1 h).1
  rw [List.take_add_one, h]
  show subB (l.take j ++ [z]) b = _
  rw [subB_snoc, List.length_take, Nat.min_eq_left (by omega)]
  split <;> simp
theorem subB_mem {z : Int} : ∀ {l : List Int} {b : Int}, z ∈ subB l b → z ∈ l
  | [], _, h => by simp [subB] at h
  | a :: r, b, h => by
    simp only [subB, List.mem_append] at h
    rcases h with h | h
    · split at h
      · simp at h; subst h; simp
      · cases h
    · exact List.mem_cons_of_mem _ (subB_mem h)
theorem subB_len : ∀ (l : List Int) (b : Int), (subB l b).length ≤ l.length
  | [], _ => Nat.le_refl _
  | a :: r, b => by
    have := subB_len r (b / 2)
    simp only [subB, List.length_append, List.length_cons]
    split <;> simp <;> omega
/-- every choice is one by a number -/
theorem subB_all (p : Int → Bool) : ∀ l : List Int, ∃ b : Nat, b < 2 ^ l.length ∧ subB l b = l.filter p
  | [] => ⟨0, by simp, rfl⟩
  | a :: r => by
    obtain ⟨b, hb, e⟩ := subB_all p r
    cases hp : p a with
    | true =>
      refine ⟨2 * b + 1, by rw [List.length_cons, Nat.pow_succ]; omega, ?_⟩
      simp only [subB]
      rw [if_pos (by omega), show ((2 * b + 1 : Nat) : Int) / 2 = b by omega, e, List.filter_cons, if_pos hp]; rfl
    | false =>
      refine ⟨2 * b, by rw [List.length_cons, Nat.pow_succ]; omega, ?_⟩
      simp only [subB]
      rw [if_neg (by omega), show ((2 * b : Nat) : Int) / 2 = b by omega, e, List.filter_cons, if_neg (by rw [hp]; decide)]; rfl
/-- two disjoint sets of replicas, among those of a list, are quorums -/
def apart (ao an bo bn L M : List Int) (b : Int) : Bool := quor ao an (subB L b) && quor bo bn (minusL M (subB L b))
def ovl (ao an bo bn : List Int) : Bool := decide (∀ b : Nat, b < 2 ^ (setL (ao ++ an)).length → apart ao an bo bn (setL (ao ++ an)) (setL (bo ++ bn)) b = false)
def rovl (ao an bo bn : List Int) : Bool := decide (∀ b : Nat, b < 2 ^ (setL (setL (ao ++ an) ++ setL (bo ++ bn))).length → apart ao an bo bn (setL (setL (ao ++ an) ++ setL (bo ++ bn))) (setL (setL (ao ++ an) ++ setL (bo ++ bn))) b = false)
/-- a set that is a quorum of the first, and its complement one of the second -/
def Cut (ao an bo bn : List Int) : Prop := ∃ S : Int → Bool, quor ao an ((setL (ao ++ an)).filter S) = true ∧ quor bo bn ((setL (bo ++ bn)).filter fun z => !S z) = true
theorem in_voters {o n : List Int} (ho : setL o = o) (hn : setL n = n) {z : Int} (h : z ∈ o ∨ z ∈ n) : z ∈ setL (o ++ n) := (mem_voters ho hn).2 h
theorem ovl_cut {ao an bo bn : List Int} (h1 : setL ao = ao) (h2 : setL an = an) (h3 : setL bo = bo) (h4 : setL bn = bn) : ovl ao an bo bn = false ↔ Cut ao an bo bn := by
  unfold ovl
  rw [decide_eq_false_iff_not]
  constructor
  · intro h
    obtain ⟨b, hb⟩ := Classical.not_forall.1 h
    obtain ⟨_, hb2⟩ := Classical.not_imp.1 hb
    have hb3 : apart ao an bo bn (setL (ao ++ an)) (setL (bo ++ bn)) b = true := by simpa using hb2
    unfold apart at hb3
    rw [Bool.and_eq_true] at hb3
    refine ⟨fun z => decide (z ∈ subB (setL (ao ++ an)) b), quor_mono (fun z hz => ?_) hb3.1, ?_⟩
    · exact List.mem_filter.2 ⟨subB_mem hz, decide_eq_true hz⟩
    · exact hb3.2
  · rintro ⟨S, hs, ht⟩ h
    obtain ⟨b, hb, e⟩ := subB_all S (setL (ao ++ an))
    have := h b hb
    unfold apart at this
    rw [e, hs, Bool.true_and] at this
    rw [quor_mono (fun z hz => ?_) ht] at this
    · cases this
    · unfold minusL
      rw [List.mem_filter] at hz ⊢
      refine ⟨hz.1, ?_⟩
      rw [Bool.not_eq_true', decide_eq_false_iff_not]
      intro hm
      have h5 := (List.mem_filter.1 hm).2
      have h6 := hz.2
      rw [h5] at h6; cases h6
theorem rovl_cut {ao an bo bn : List Int} (h1 : setL ao = ao) (h2 : setL an = an) (h3 : setL bo = bo) (h4 : setL bn = bn) : rovl ao an bo bn = false ↔ Cut ao an bo bn := by
  have hA : ∀ z, z ∈ setL (ao ++ an) → z ∈ setL (setL (ao ++ an) ++ setL (bo ++ bn)) := fun z hz => ((setL_is _).mem z).2 ⟨List.mem_append.2 (.inl hz), setL_pos hz⟩
  have hB : ∀ z, z ∈ setL (bo ++ bn) → z ∈ setL (setL (ao ++ an) ++ setL (bo ++ bn)) := fun z hz => ((setL_is _).mem z).2 ⟨List.mem_append.2 (.inr hz), setL_pos hz⟩
  unfold rovl
  rw [decide_eq_false_iff_not]
  constructor
  · intro h
    obtain ⟨b, hb⟩ := Classical.not_forall.1 h
    obtain ⟨_, hb2⟩ := Classical.not_imp.1 hb
    have hb3 : apart ao an bo bn (setL (setL (ao ++ an) ++ setL (bo ++ bn))) (setL (setL (ao ++ an) ++ setL (bo ++ bn))) b = true := by simpa using hb2
    unfold apart at hb3
    rw [Bool.and_eq_true] at hb3
    refine ⟨fun z => decide (z ∈ subB (setL (setL (ao ++ an) ++ setL (bo ++ bn))) b), ?_, ?_⟩
    · rw [quor_on (s := subB (setL (setL (ao ++ an) ++ setL (bo ++ bn))) b) fun z hz => ?_]
      · exact hb3.1
      · rw [List.mem_filter]
        exact ⟨fun h => of_decide_eq_true h.2, fun h => ⟨in_voters h1 h2 hz, decide_eq_true h⟩⟩
    · rw [quor_on (s := minusL (setL (setL (ao ++ an) ++ setL (bo ++ bn))) (subB (setL (setL (ao ++ an) ++ setL (bo ++ bn))) b)) fun z hz => ?_]
      · exact hb3.2
      · unfold minusL
        rw [List.mem_filter, List.mem_filter]
        exact ⟨fun h => ⟨hB z h.1, h.2⟩, fun h => ⟨in_voters h3 h4 hz, h.2⟩⟩
  · rintro ⟨S, hs, ht⟩ h
    obtain ⟨b, hb, e⟩ := subB_all S (setL (setL (ao ++ an) ++ setL (bo ++ bn)))
    have := h b hb
    unfold apart at this
    rw [e, quor_mono (fun z hz => ?_) hs, Bool.true_and, quor_mono (fun z hz => ?_) ht] at this
    · cases this
    · unfold minusL
      rw [List.mem_filter] at hz ⊢
      refine ⟨hB z hz.1, ?_⟩
      rw [Bool.not_eq_true', decide_eq_false_iff_not]
      intro hm
      have h5 := (List.mem_filter.1 hm).2
      have h6 := hz.2
      rw [h5] at h6; cases h6
    · rw [List.mem_filter] at hz ⊢
      exact ⟨hA z hz.1, hz.2⟩
theorem ovl_eq {ao an bo bn : List Int} (h1 : setL ao = ao) (h2 : setL an = an) (h3 : setL bo = bo) (h4 : setL bn = bn) : ovl ao an bo bn = rovl ao an bo bn := by
  have := (ovl_cut h1 h2 h3 h4).trans (rovl_cut h1 h2 h3 h4).symm
  cases ho : ovl ao an bo bn <;> cases hr : rovl ao an bo bn
  · rfl
  · rw [this.1 ho] at hr; cases hr
  · rw [this.2 hr] at ho; cases ho
  · rfl
/-- what both need more than half of -/
theorem ovl_share {ao an bo bn : List Int} (h1 : setL ao = ao) (h2 : setL an = an) (h3 : setL bo = bo) (h4 : setL bn = bn) (l : List Int) (ha : ∀ r, quor ao an r = true → maj l r = true) (hb : ∀ r, quor bo bn r = true → maj l r = true) : ovl ao an bo bn = true := by
  cases ho : ovl ao an bo bn with
  | true => rfl
  | false =>
    obtain ⟨S, hs, ht⟩ := (ovl_cut h1 h2 h3 h4).1 ho
    obtain ⟨z, _, hz1, hz2⟩ := maj_meet (ha _ hs) (hb _ ht)
    have h5 := (List.mem_filter.1 hz1).2
    have h6 := (List.mem_filter.1 hz2).2
    rw [h5] at h6; cases h6
theorem quor_old {o n r : List Int} (h : quor o n r = true) : maj o r = true := by unfold quor at h; rw [Bool.and_eq_true] at h; exact h.1
theorem quor_new {o n r : List Int} (h : quor o n r = true) (hn : n.length ≠ 0) : maj n r = true := by
  unfold quor at h
  rw [Bool.and_eq_true, Bool.or_eq_true, decide_eq_true_eq] at h
  exact h.2.resolve_left hn
theorem and1 {x : Int} (h0 : 0 ≤ x) (h1 : x < 4611686018427387904) : bits .and .i64 x 1 = x % 2 := by
  have h := bits_mask .i64 62 (by decide) (fun n h0 h1 => IntWalk.i64_in n ⟨by omega, by have : (2 : Int) ^ 62 = 4611686018427387904 := by decide
                                                                                         omega⟩) 1 (by decide) x h0 (by have : (2 : Int) ^ 62 = 4611686018427387904 := by decide
                                                                                                                        omega)
  simpa using h
theorem shl1 {n : Nat} (h : n ≤ 20) : IntKind.i64.wrap (1 * 2 ^ (n : Int).toNat) = ((2 ^ n : Nat) : Int) := by
  have h1 : 2 ^ n ≤ 2 ^ 20 := Nat.pow_le_pow_right (by decide) h
  have e : (2 : Nat) ^ 20 = 1048576 := by decide
  rw [Int.toNat_natCast, Int.one_mul, show ((2 : Int) ^ n) = ((2 ^ n : Nat) : Int) by simp]
  generalize 2 ^ n = k at h1 ⊢
  exact IntWalk.i64_in _ ⟨by omega, by omega⟩
theorem shrB {b : Nat} {n j : Nat} (h : b < 2 ^ n) (hn : n ≤ 20) : 0 ≤ (b : Int) / 2 ^ j ∧ (b : Int) / 2 ^ j ≤ 1048576 := by
  have h1 : 2 ^ n ≤ 2 ^ 20 := Nat.pow_le_pow_right (by decide) hn
  have e : (2 : Nat) ^ 20 = 1048576 := by decide
  have hp : (0 : Int) < 2 ^ j := Int.pow_pos (by decide)
  refine ⟨Int.ediv_nonneg (by omega) (Int.le_of_lt hp), ?_⟩
  have := Int.ediv_le_self (a := (b : Int)) ((2 : Int) ^ j) (by omega)
  omega
end Go.Proofs.YtdjmdfnhnlijiaaGreatDoor.Cfg
