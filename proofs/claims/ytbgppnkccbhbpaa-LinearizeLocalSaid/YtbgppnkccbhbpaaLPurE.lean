/- What a single store has executed, in any order of its operations: in plain Lean. -/
import Derived.Test.YtbgppnkccbhbpaaLPur
namespace Go.Proofs.Ytbgppnkccbhbpaa.HistLaw
set_option linter.unusedVariables false
set_option linter.unusedSimpArgs false

/-- an operation of the store -/
structure P4 where
  kd : Int
  key : ByteArray
  val : Int
  old : Int
def P4.z (o : P4) : O := ⟨0, 0, 0, o.kd, o.key, o.val, o.old, 0, false, 0, 0, 0⟩
def P4.b (o : P4) (cl inv rsp : Int) (r : Cell) : O := ⟨cl, 1, 0, o.kd, o.key, o.val, o.old, 0, r.1, r.2, inv, rsp⟩
theorem P4.do_b (o : P4) (cl inv rsp : Int) (r c : Cell) : doL c (o.b cl inv rsp r) = doL c o.z := rfl
/-- the cell after the first i operations -/
def cellAt (ops : List P4) (i : Nat) : Cell := (ops.take i).foldl (fun c o => (doL c o.z).1) (false, 0)
theorem cellAt_succ {ops : List P4} {i : Nat} {o : P4} (h : ops[i]? = some o) : cellAt ops (i + 1) = (doL (cellAt ops i) o.z).1 := by
  unfold cellAt
  rw [List.take_add_one, h, List.foldl_append]; rfl
def resAt (ops : List P4) (i : Nat) (o : P4) : Cell := (doL (cellAt ops i) o.z).2
def resL (ops : List P4) : List Cell := ops.mapIdx (resAt ops)
theorem resL_get {ops : List P4} {i : Nat} {o : P4} (h : ops[i]? = some o) : (resL ops)[i]? = some (resAt ops i o) := by
  unfold resL; rw [List.getElem?_mapIdx, h]; rfl
theorem resL_take {ops : List P4} {i : Nat} {o : P4} (h : ops[i]? = some o) : (resL ops).take (i + 1) = (resL ops).take i ++ [resAt ops i o] := by
  rw [List.take_add_one, resL_get h]; rfl
@[simp] theorem resL_len (ops : List P4) : (resL ops).length = ops.length := by simp [resL]
def invAt (w : Int) (i : Nat) : Int := max 0 (100 * ((i : Int) - w) + 2 * i)
def rspAt (w : Int) (i : Nat) : Int := 100 * ((i : Int) + w) + 51 + 2 * i
def exO (ops : List P4) (w : Nat → Int) (i : Nat) (o : P4) : O := o.b ((i : Int) + 1) (invAt (w i) i) (rspAt (w i) i) (resAt ops i o)
def exL (ops : List P4) (w : Nat → Int) : List O := ops.mapIdx (exO ops w)
theorem exL_get {ops : List P4} {w : Nat → Int} {i : Nat} {o : P4} (h : ops[i]? = some o) : (exL ops w)[i]? = some (exO ops w i o) := by
  unfold exL; rw [List.getElem?_mapIdx, h]; rfl
theorem exL_take {ops : List P4} {w : Nat → Int} {i : Nat} {o : P4} (h : ops[i]? = some o) : (exL ops w).take (i + 1) = (exL ops w).take i ++ [exO ops w i o] := by
  rw [List.take_add_one, exL_get h]; rfl
@[simp] theorem exL_len (ops : List P4) (w : Nat → Int) : (exL ops w).length = ops.length := by simp [exL]
theorem exL_at {ops : List P4} {w : Nat → Int} {i : Nat} {a : O} (h : (exL ops w)[i]? = some a) : ∃ o, ops[i]? = some o ∧ a = exO ops w i o := by
  unfold exL at h
  rw [List.getElem?_mapIdx] at h
  cases ho : ops[i]? with
  | none => rw [ho] at h; cases h
  | some o => rw [ho] at h; exact ⟨o, rfl, (Option.some.inj h).symm⟩
def pos (l : List O) (a : O) : Nat := l.findIdx fun b => decide (b.cl = a.cl)
theorem pos_of {l : List O} (hn : (l.map (·.cl)).Nodup) {i : Nat} {a : O} (h : l[i]? = some a) : pos l a = i := by
  obtain ⟨hlt, rfl⟩ := List.getElem?_eq_some_iff.1 h
  unfold pos
  rw [List.findIdx_eq hlt]
  refine ⟨by simp, fun j hj => ?_⟩
  rw [decide_eq_false_iff_not]
  intro e
  have h1 : (l.map (·.cl))[j]'(by simp; omega) = (l.map (·.cl))[i]'(by simp; exact hlt) := by simpa using e
  have := (List.getElem_inj hn).1 h1
  omega
theorem exL_cl {ops : List P4} {w : Nat → Int} : ((exL ops w).map (·.cl)).Nodup := by
  rw [List.Nodup, List.pairwise_iff_getElem]
  intro i j hi hj hij e
  rw [List.getElem_map, List.getElem_map] at e
  simp only [List.length_map, exL_len] at hi hj
  obtain ⟨o, ho, h1⟩ := exL_at (List.getElem?_eq_getElem (l := exL ops w) (i := i) (by simpa using hi))
  obtain ⟨o2, ho2, h2⟩ := exL_at (List.getElem?_eq_getElem (l := exL ops w) (i := j) (by simpa using hj))
  rw [h1, h2] at e
  simp only [exO, P4.b] at e
  omega
theorem ex_live {ops : List P4} {w : Nat → Int} (hw : ∀ i, 0 ≤ w i) {l : List O} (hp : l.Perm (exL ops w)) (hv : Valid l) : Live l 0 (false, 0) := by
  have hn : (l.map (·.cl)).Nodup := (hp.map (·.cl)).nodup_iff.2 exL_cl
  have at_ : ∀ (i : Nat) (o : P4), ops[i]? = some o → l[pos l (exO ops w i o)]? = some (exO ops w i o) := fun i o h => by
    obtain ⟨k, hk⟩ := List.getElem?_of_mem (hp.mem_iff.2 (List.mem_of_getElem? (exL_get (w := w) h)))
    rw [pos_of hn hk]; exact hk
  have rep : ∀ d j, j + d = ops.length → repL l (cellAt ops j) (((exL ops w).drop j).map (pos l)) := by
    intro d
    induction d with
    | zero =>
      intro j hj
      rw [List.drop_eq_nil_of_le (by rw [exL_len]; omega)]; trivial
    | succ d ih =>
      intro j hj
      obtain ⟨o, ho⟩ : ∃ o, ops[j]? = some o := ⟨_, List.getElem?_eq_getElem (by omega)⟩
      have hx := exL_get (w := w) ho
      obtain ⟨hlt, he⟩ := List.getElem?_eq_some_iff.1 hx
      rw [List.drop_eq_getElem_cons hlt, he, List.map_cons]
      refine ⟨_, at_ j o ho, fun _ => ?_, ?_⟩
      · show (0 : Int) = 0 ∧ _
        exact ⟨rfl, rfl, rfl⟩
      · have h2 := ih (j + 1) (by omega)
        rw [cellAt_succ ho] at h2
        exact h2
  refine ⟨(exL ops w).map (pos l), Run.of (fun i a ha hpr => ?_) (rep ops.length 0 (by omega)) ?_ ?_ (fun _ _ => Nat.zero_testBit _) fun i a ha _ => .inr ?_⟩
  · have := hv.resp ha hpr.1
    have := hpr.2
    omega
  · unfold Ordd
    rw [List.pairwise_map, List.pairwise_iff_getElem]
    intro i j hi hj hij a b ha hb hpr
    obtain ⟨o, ho, h1⟩ := exL_at (List.getElem?_eq_getElem hi)
    obtain ⟨o2, ho2, h2⟩ := exL_at (List.getElem?_eq_getElem hj)
    rw [h1, at_ i o ho] at ha
    rw [h2, at_ j o2 ho2] at hb
    cases ha; cases hb
    obtain ⟨p1, p2⟩ := hpr
    simp only [exO, P4.b, rspAt, invAt] at p1 p2
    have := hw i; have := hw j
    omega
  · rw [List.Nodup, List.pairwise_map, List.pairwise_iff_getElem]
    intro i j hi hj hij e
    obtain ⟨o, ho, h1⟩ := exL_at (List.getElem?_eq_getElem hi)
    obtain ⟨o2, ho2, h2⟩ := exL_at (List.getElem?_eq_getElem hj)
    have q1 := at_ i o ho
    have q2 := at_ j o2 ho2
    rw [← h1] at q1; rw [← h2, ← e, q1] at q2
    have q3 := Option.some.inj q2
    rw [h1, h2] at q3
    have q4 := congrArg O.cl q3
    simp only [exO, P4.b] at q4
    omega
  · refine List.mem_map.2 ⟨a, hp.mem_iff.1 (List.mem_of_getElem? ha), pos_of hn ha⟩
theorem ex_all {ops : List P4} {w : Nat → Int} (hw : ∀ i, 0 ≤ w i) {l : List O} (hp : l.Perm (exL ops w)) (hv : Valid l) (hk : ∀ a ∈ ops, ∀ b ∈ ops, a.key = b.key) : ∀ k ∈ keysO l, Live (byKey k l) 0 (false, 0) := by
  intro k hkm
  obtain ⟨a, ha, rfl⟩ := List.mem_map.1 (((keysK_is _).mem k).1 hkm)
  have key_of : ∀ b ∈ l, ∃ o ∈ ops, b.key = o.key := fun b hb => by
    obtain ⟨i, hi⟩ := List.getElem?_of_mem (hp.mem_iff.1 hb)
    obtain ⟨o, ho, rfl⟩ := exL_at hi
    exact ⟨o, List.mem_of_getElem? ho, rfl⟩
  have e : byKey a.key l = l := by
    unfold byKey
    refine List.filter_eq_self.2 fun b hb => ?_
    obtain ⟨o, ho, h1⟩ := key_of a ha
    obtain ⟨o2, ho2, h2⟩ := key_of b hb
    simp [h1, h2, hk o2 ho2 o ho]
  rw [e]
  exact ex_live hw hp hv
end Go.Proofs.Ytbgppnkccbhbpaa.HistLaw
