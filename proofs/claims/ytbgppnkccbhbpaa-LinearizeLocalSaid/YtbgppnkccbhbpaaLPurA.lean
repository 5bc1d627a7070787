/- Deciding on small histories, and the examples of the chapter: in plain Lean. -/
import Derived.Test.YtbgppnkccbhbpaaLPurW
import Derived.KernelRfl
namespace Go.Proofs.Ytbgppnkccbhbpaa.HistLaw
set_option linter.unusedVariables false
set_option linter.unusedSimpArgs false

def doneF (l : List O) (t : Nat) : Bool := (List.range l.length).all fun i => match l[i]? with
  | some a => !decide (0 ≤ a.rsp) || t.testBit i
  | none => true
theorem doneF_iff {l : List O} {t : Nat} : doneF l t = true ↔ doneL l t := by
  unfold doneF
  rw [List.all_eq_true]
  constructor
  · intro h i a ha h0
    have := h i (List.mem_range.2 (List.getElem?_eq_some_iff.1 ha).1)
    rw [ha] at this
    simpa [h0] using this
  · intro h i hi
    have hi' := List.mem_range.1 hi
    rw [List.getElem?_eq_getElem hi']
    by_cases h0 : 0 ≤ l[i].rsp
    · simp [h i _ (List.getElem?_eq_getElem hi') h0]
    · simp [h0]
def freeF (l : List O) (t i : Nat) : Bool := !t.testBit i && (List.range l.length).all fun k => match l[k]?, l[i]? with
  | some b, some a => !decide (Prec b a) || t.testBit k
  | _, _ => true
theorem freeF_iff {l : List O} {t i : Nat} : freeF l t i = true ↔ freeL l t i := by
  unfold freeF freeL
  rw [Bool.and_eq_true, Bool.not_eq_true', List.all_eq_true]
  refine and_congr_right fun _ => ⟨fun h k b a hb ha hp => ?_, fun h k hk => ?_⟩
  · have := h k (List.mem_range.2 (List.getElem?_eq_some_iff.1 hb).1)
    rw [hb, ha] at this
    simpa [hp] using this
  · cases hb : l[k]? with
    | none => rfl
    | some b =>
      cases ha : l[i]? with
      | none => rfl
      | some a =>
        by_cases hp : Prec b a
        · simp [h k b a hb ha hp]
        · simp [hp]
def liveF : Nat → List O → Nat → Cell → Bool
  | 0, l, t, c => doneF l t
  | f + 1, l, t, c => doneF l t || (List.range l.length).any fun i => match l[i]? with
    | some a => freeF l t i && decide (okR a (doL c a).2) && liveF f l (addB t i) (doL c a).1
    | none => false
theorem liveF_iff : ∀ (f : Nat) {l : List O} {t : Nat} {c : Cell}, cnt l.length t ≤ f → (liveF f l t c = true ↔ Live l t c)
  | 0, l, t, c, h => by
    rw [live_iff]
    unfold liveF
    rw [doneF_iff]
    refine ⟨.inl, fun h2 => h2.elim id fun ⟨i, a, ha, hf, _⟩ => ?_⟩
    have := cnt_add (List.getElem?_eq_some_iff.1 ha).1 hf.1
    omega
  | f + 1, l, t, c, h => by
    rw [live_iff]
    unfold liveF
    rw [Bool.or_eq_true, doneF_iff, List.any_eq_true]
    refine or_congr Iff.rfl ⟨fun ⟨i, hi, h2⟩ => ?_, fun ⟨i, a, ha, hf, ho, hl⟩ => ?_⟩
    · have hi' := List.mem_range.1 hi
      rw [List.getElem?_eq_getElem hi'] at h2
      simp only [Bool.and_eq_true, decide_eq_true_eq] at h2
      obtain ⟨⟨h3, h4⟩, h5⟩ := h2
      have hf := freeF_iff.1 h3
      have := cnt_add hi' hf.1
      exact ⟨i, _, List.getElem?_eq_getElem hi', hf, h4, (liveF_iff f (by omega)).1 h5⟩
    · have hlt := (List.getElem?_eq_some_iff.1 ha).1
      have := cnt_add hlt hf.1
      refine ⟨i, List.mem_range.2 hlt, ?_⟩
      rw [ha]
      simp only [Bool.and_eq_true, decide_eq_true_eq]
      exact ⟨⟨freeF_iff.2 hf, ho⟩, (liveF_iff f (by omega)).2 hl⟩
def AllLv (l : List O) : Prop := ∀ k ∈ keysO l, Live (byKey k l) 0 (false, 0)
def allLF (l : List O) : Bool := l.all fun a => liveF l.length (byKey a.key l) 0 (false, 0)
theorem allLF_iff {l : List O} : allLF l = true ↔ AllLv l := by
  unfold allLF AllLv
  rw [List.all_eq_true]
  have hc : ∀ k, cnt (byKey k l).length 0 ≤ l.length := fun k => Nat.le_trans (cnt_le _ _) (byKey_len k l)
  constructor
  · intro h k hk
    obtain ⟨a, ha, rfl⟩ := List.mem_map.1 (((keysK_is _).mem k).1 hk)
    exact (liveF_iff _ (hc a.key)).1 (h a ha)
  · intro h a ha
    exact (liveF_iff _ (hc a.key)).2 (h a.key (keysO_mem ha))
instance (b a : O) : Decidable (Pair b a) := inferInstanceAs (Decidable (_ ∧ _ ∧ (_ → _)))
def validF (l : List O) : Bool := (List.range l.length).all fun i => match l[i]? with
  | some a => decide (Formed a) && (match l[0]? with
      | some z => decide (a.gr = z.gr)
      | none => true) && (List.range i).all (fun k => match l[k]? with
      | some b => decide (Pair b a)
      | none => true) && l.all fun b => decide (b.inv ≠ a.rsp)
  | none => true
theorem validF_of {l : List O} (h : validF l = true) : Valid l := by
  unfold validF at h
  rw [List.all_eq_true] at h
  intro i a ha
  have h1 := h i (List.mem_range.2 (List.getElem?_eq_some_iff.1 ha).1)
  rw [ha] at h1
  simp only [Bool.and_eq_true, decide_eq_true_eq, List.all_eq_true] at h1
  obtain ⟨⟨⟨h2, h3⟩, h4⟩, h5⟩ := h1
  refine ⟨h2, fun z hz => ?_, fun k b hk hb => ?_, fun k b hb => h5 b (List.mem_of_getElem? hb)⟩
  · rw [hz] at h3; simpa using h3
  · have := h4 k (List.mem_range.2 hk)
    rw [hb] at this
    simpa using this
def exK : ByteArray := ⟨#[107]⟩
def exP : O := ⟨1, 1, 0, 1, exK, 5, 0, 0, true, 5, 0, 3⟩
def exQ : O := ⟨2, 1, 0, 0, exK, 0, 0, 0, false, 0, 1, 2⟩
def exR : O := ⟨2, 2, 0, 0, exK, 0, 0, 0, false, 0, 4, 5⟩
theorem ex2_valid : Valid [exP, exQ] := validF_of (by kernel_rfl)
theorem ex3_valid : Valid [exP, exQ, exR] := validF_of (by kernel_rfl)
theorem ex2_live : AllLv [exP, exQ] := allLF_iff.1 (by kernel_rfl)
theorem ex3_dead : ¬ AllLv [exP, exQ, exR] := fun h => by
  have h1 := allLF_iff.2 h
  have h2 : allLF [exP, exQ, exR] = false := by kernel_rfl
  rw [h2] at h1; cases h1
theorem ex_p3 : Valid (prefixL 3 [exP, exQ, exR]) ∧ AllLv (prefixL 3 [exP, exQ, exR]) := ⟨validF_of (by kernel_rfl), allLF_iff.1 (by kernel_rfl)⟩
theorem ex_p4 : Valid (prefixL 4 [exP, exQ, exR]) ∧ AllLv (prefixL 4 [exP, exQ, exR]) := ⟨validF_of (by kernel_rfl), allLF_iff.1 (by kernel_rfl)⟩
theorem ex_p6 : prefixL 6 [exP, exQ, exR] = [exP, exQ, exR] := by rfl
theorem ex_order {ord : List Int} (h : VerOK [exP, exQ] ord) : ord = [1, 0] := by
  have h0 := h.all 0 exP rfl (by decide)
  have h1 := h.all 1 exQ rfl (by decide)
  have hr : ∀ z ∈ ord, z = 0 ∨ z = 1 := fun z hz => by
    have := h.rng z hz
    simp at this
    omega
  have hl := nodup_len (s := ord) (l := [(0 : Int), 1]) h.nd fun z hz => by
    rcases hr z hz with e | e <;> simp [e]
  match ord, h, h0, h1, hr, hl with
  | [], _, h0, _, _, _ => simp at h0
  | [a], _, h0, h1, _, _ => simp at h0 h1; omega
  | [a, b], h, h0, h1, hr, _ =>
    have ha := hr a (by simp)
    have hb := hr b (by simp)
    have hn := h.nd
    simp at hn
    have h01 : (a = 0 ∧ b = 1) ∨ (a = 1 ∧ b = 0) := by omega
    rcases h01 with ⟨rfl, rfl⟩ | ⟨rfl, rfl⟩
    · have h2 := (repK_cons (l := [exP, exQ]) (a := exP) rfl).1 (h.rep exK)
      rw [if_pos (show exP.key = exK from rfl)] at h2
      have h3 := (repK_cons (l := [exP, exQ]) (a := exQ) rfl).1 h2.2
      rw [if_pos (show exQ.key = exK from rfl)] at h3
      have h4 := h3.1 (by decide)
      simp [doL, exP, exQ] at h4
    · rfl
  | a :: b :: c :: r, _, _, _, _, hl => simp at hl
end Go.Proofs.Ytbgppnkccbhbpaa.HistLaw
