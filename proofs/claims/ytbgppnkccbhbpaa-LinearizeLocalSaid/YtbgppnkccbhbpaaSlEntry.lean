/-
  From a row's reading of its arguments to the small separation logic, and back: what the cells of a type hold, a slice argument as rows of cells, the frame behind a call that keeps all old memory.
-/
import Derived.Test.YtbgppnkccbhbpaaSlPart
import Derived.ProofKit
import Derived.Deep.Slices
import Derived.OpenShut
namespace Go.Proofs.Ytbgppnkccbhbpaa.SL
open Go Go.ChangeShapes Go.WideShapes Go.RowKit
set_option linter.unusedVariables false

/-- all blocks of a world, as one piece -/
def oldH (W : World) : PH := fun b => W.heap[b]?

theorem mem_old (W : World) : Mem (W.os, W.output) ((0, emp) :: lab 1 [oldH W]) W where
  os := rfl
  out := rfl
  sub c H h := by
    match c, h with
    | 0, h => cases h; intro b o hb; cases hb
    | 1, h => cases h; intro b o hb; exact hb
    | n + 2, h => cases (show none = some H from h)
  dis c d G H hne hc hd := by
    match c, d, hc, hd with
    | 0, _, hc, _ => cases hc; intro b x y hx; cases hx
    | 1, 0, _, hd => cases hd; intro b x y _ hy; cases hy
    | 1, 1, _, _ => exact absurd rfl hne
    | 1, n + 2, _, hd => cases (show none = some H from hd)
    | n + 2, _, hc, _ => cases (show none = some G from hc)

theorem old_block {E : Env} {L : Sh} {W W' : World} {c : Nat} (hm : Mem E L W') (hc : lk L c = some (oldH W)) {i : Nat} (hi : i < W.heap.size) : W'.heap[i]? = W.heap[i]? := by
  have h2 : W.heap[i]? = some W.heap[i] := Array.getElem?_eq_getElem hi
  rw [h2]
  exact hm.sub c _ hc i _ h2

theorem old_frame {L : Sh} {W W' : World} {c : Nat} (hm : Mem (W.os, W.output) L W') (hc : lk L c = some (oldH W)) (may : MemPlace → Prop) : W.keptBut W' may :=
  ⟨hm.os, hm.out, fun i hi => by rw [old_block hm hc hi]; split <;> simp_all⟩

theorem old_same {E : Env} {L : Sh} {W W' : World} {c : Nat} (hm : Mem E L W') (hc : lk L c = some (oldH W)) {p : MemPlace} (hp : p.block < W.heap.size) : W.sameAt W' p := by
  cases p with
  | cell b o => exact World.cell?_of_block (w := W) (old_block hm hc hp)
  | map b => exact old_block hm hc hp

section
variable {H : Type} {enc : TypeId × Value → H} {P : Program}

/-- every type of the list can be read again -/
def readsB (P : Program) : List TypeId → Bool
  | [] => true
  | t :: r => P.readableRec t && Nat.blt t P.types.size && readsB P r

theorem trodAll_stays (hl : laidOutB P = true) {L : Sh} {W W' : World} {c : Nat} {E : Env} (hm : Mem E L W') (hc : lk L c = some (oldH W)) :
    ∀ (ts : List TypeId) (vs : List Value) (ds : List (DataW H)) (ps : List MemPlace), readsB P ts = true → DataW.TrodAll enc P W 0 (fun _ => true) true ts vs ds ps → (∀ p ∈ ps, p.block < W.heap.size) →
      DataW.TrodAll enc P W' 0 (fun b => decide (b < W.heap.size)) true ts vs ds ps
  | [], [], [], ps, _, h, _ => h
  | t :: ts, v :: vs, d :: ds, ps, hr, h, hp => by
    obtain ⟨p, q, h1, h2, rfl⟩ := h
    simp only [readsB, Bool.and_eq_true] at hr
    refine ⟨p, q, ?_, trodAll_stays hl hm hc ts vs ds q hr.2 h2 (fun x hx => hp x (List.mem_append_right _ hx)), rfl⟩
    exact WideElems.Trod_stays hl hr.1.1 (Nat.le_of_ble_eq_true hr.1.2) h1 (fun x hx => old_same hm hc (hp x (List.mem_append_left _ hx))) (fun x hx => by simpa using hp x (List.mem_append_left _ hx))
  | [], _ :: _, _, _, _, h, _ => by cases h
  | [], [], _ :: _, _, _, h, _ => by cases h
  | _ :: _, [], _, _, _, h, _ => by cases h
  | _ :: _, _ :: _, [], _, _, h, _ => by cases h

/-- what a law's row asks behind the call -/
theorem law_post {f : Func} {s : ChangeSpec} {apart : Bool} {tb : TypeId} {W W' : World} {args : Array Value} {ds gs : List (DataW H)} {before : List MemPlace} (hl : laidOutB P = true) (hrd : readsB P f.params.toList = true)
    (hW : DataW.Whole enc P f.params.toList s.vars apart W args.toList ds gs before) (hv : s.vars = []) (hr : f.resultTypes = #[tb]) (htb : P.underlying tb = some .bool)
    (hs : s.fn H ds = { results := [.lit (.bool true)], args := ds }) {L : Sh} {c : Nat} (hm : Mem (W.os, W.output) L W') (hc : lk L c = some (oldH W)) :
    s.post enc P f apart true false false W args (.bool true) W' := by
  have hW' := hW
  obtain ⟨p, q, hA, hV, rfl, hfz, hnd⟩ := hW
  rw [hv] at hV
  obtain ⟨rfl, rfl⟩ := trodVars_none hV
  have hlt : ∀ x ∈ p, x.block < W.heap.size := fun x hx => hW'.lt x (by simpa using hx)
  refine ⟨ds, [], p ++ [], [], p, [], hW', ?_, ?_, ?_, old_frame hm hc _, fun h => by cases h⟩
  · rw [List.append_nil, hs, hr]
    exact trodAll_mk1 (shut_bool htb true)
  · rw [List.append_nil, hs]
    exact trodAll_stays hl hm hc _ _ _ _ hrd hA hlt
  · rw [List.append_nil, hs, hv]
    rfl

/-! ### what the cells of a type hold -/
inductive Kd where
  | int (k : IntKind)
  | bool
  | string
  | at (t : TypeId)

/-- '.at t': a cell of another type: it reads as t -/
def Kd.ok (enc : TypeId × Value → H) (P : Program) (w : World) : Kd → Value → Prop
  | .int k, v => ∃ n, v = .int k n ∧ (Lit.int k n).wf = true
  | .bool, v => ∃ b, v = .bool b
  | .string, v => ∃ s : ByteArray, v = .string s ∧ s.size ≤ maxLen
  | .at t, v => ∃ n x, DataW.trod enc P w 0 (fun _ => true) true n t [v] = some x

def kdsF (P : Program) (k : TypeId → Option (List Kd)) : List Field → Nat → Option (List Kd)
  | [], _ => some []
  | f :: r, off => if Nat.beq f.offset off then (k f.type).bind fun a => if Nat.beq a.length (P.cellsOf f.type) then (kdsF P k r (off + a.length)).map (a ++ ·) else none else none

def kds (P : Program) : Nat → TypeId → Option (List Kd)
  | 0, _ => none
  | m + 1, t =>
    match P.underlying t with
    | some .bool => some [.bool]
    | some (.int k) => some [.int k]
    | some .string => some [.string]
    | some (.struct fs) => (kdsF P (kds P m) fs.toList 0).bind fun l => if Nat.beq l.length (P.cellsOf t) then some l else none
    | some (.array n e) => (kds P m e).bind fun a => if Nat.beq a.length (P.cellsOf e) && Nat.beq (n * P.cellsOf e) (P.cellsOf t) then some (List.replicate n a).flatten else none
    | some (.slice _) => some [.at t]
    | some (.map _ _) => some [.at t]
    | some (.pointer _) => some [.at t]
    | some (.func ..) => some [.at t]
    | some (.interface _) => some [.at t]
    | _ => none

def Fit (enc : TypeId × Value → H) (P : Program) (w : World) : List Kd → List Value → Prop
  | [], [] => True
  | k :: ks, v :: vs => k.ok enc P w v ∧ Fit enc P w ks vs
  | _, _ => False

theorem Fit.len {w : World} : ∀ {ks : List Kd} {vs : List Value}, Fit enc P w ks vs → vs.length = ks.length
  | [], [], _ => rfl
  | _ :: _, _ :: _, h => by simp [h.2.len]
  | [], _ :: _, h => h.elim
  | _ :: _, [], h => h.elim

theorem Fit.append {w : World} : ∀ {ks : List Kd} {vs : List Value} {ks' : List Kd} {vs' : List Value}, Fit enc P w ks vs → Fit enc P w ks' vs' → Fit enc P w (ks ++ ks') (vs ++ vs')
  | [], [], _, _, _, h' => h'
  | _ :: _, _ :: _, _, _, h, h' => ⟨h.1, h.2.append h'⟩
  | [], _ :: _, _, _, h, _ => h.elim
  | _ :: _, [], _, _, h, _ => h.elim

variable {w : World}

theorem trod_array_elems {t e : TypeId} {n m : Nat} {cs : List Value} {x : DataW H × List MemPlace} (ht : P.underlying t = some (.array n e)) (h : DataW.trod enc P w 0 (fun _ => true) true m t cs = some x) :
    cs.length = P.cellsOf t ∧ ∀ i, i < n → ∃ m' y, DataW.trod enc P w 0 (fun _ => true) true m' e ((cs.drop (i * P.cellsOf e)).take (P.cellsOf e)) = some y := by
  cases m with
  | zero => simp [DataW.trod] at h
  | succ m =>
    unfold DataW.trod at h
    rw [ht] at h
    simp only at h
    split at h
    · rename_i hl
      refine ⟨hl, fun i hi => ?_⟩
      obtain ⟨xs, hxs, _⟩ := Option.map_eq_some_iff.1 h
      have h1 := mapM_some_get hxs i i (by simp [hi])
      have h2 := mapM_some_length hxs
      rw [List.length_range] at h2
      rw [List.getElem?_eq_getElem (by omega)] at h1
      exact ⟨m, _, h1⟩
    · cases h

theorem trod_one {t : TypeId} {n : Nat} {cs : List Value} {x : DataW H × List MemPlace} (hs : ∀ fs, P.underlying t ≠ some (.struct fs)) (ha : ∀ k e, P.underlying t ≠ some (.array k e)) (h : DataW.trod enc P w 0 (fun _ => true) true n t cs = some x) : ∃ v, cs = [v] := by
  cases n with
  | zero => simp [DataW.trod] at h
  | succ m =>
    unfold DataW.trod at h
    split at h
    all_goals first
      | exact ⟨_, rfl⟩
      | exact absurd ‹_› (hs _)
      | exact absurd ‹_› (ha _ _)
      | cases h

theorem go_fit {m n : Nat} {cs : List Value} (ih : ∀ (t : TypeId) (ks : List Kd) (cs : List Value) (x : DataW H × List MemPlace), kds P m t = some ks → DataW.trod enc P w 0 (fun _ => true) true n t cs = some x → Fit enc P w ks cs) :
    ∀ (fs : List Field) (off : Nat) (ks : List Kd), kdsF P (kds P m) fs off = some ks → (∀ f ∈ fs, ∃ x, DataW.trod enc P w 0 (fun _ => true) true n f.type ((cs.drop f.offset).take (P.cellsOf f.type)) = some x) →
      Fit enc P w ks ((cs.drop off).take ks.length)
  | [], off, ks, h, _ => by
    unfold kdsF at h; cases h; exact trivial
  | f :: r, off, ks, h, hx => by
    unfold kdsF at h
    split at h
    · rename_i ho
      obtain ⟨a, ha, h⟩ := Option.bind_eq_some_iff.1 h
      split at h
      · rename_i hl
        obtain ⟨b, hb, rfl⟩ := Option.map_eq_some_iff.1 h
        have ho := Nat.eq_of_beq_eq_true ho
        have hl := Nat.eq_of_beq_eq_true hl
        obtain ⟨x, hx0⟩ := hx f (.head _)
        rw [ho, ← hl] at hx0
        have h1 := ih _ _ _ _ ha hx0
        have h2 := go_fit ih r (off + a.length) b hb (fun g hg => hx g (.tail _ hg))
        have := h1.append h2
        rw [List.length_append, List.take_add, List.drop_drop]
        exact this
      · cases h
    · cases h

theorem rep_fit {m n c : Nat} {cs : List Value} {e : TypeId} {a : List Kd} (ha : a.length = c) (ih : ∀ i, i < n → Fit enc P w a ((cs.drop (i * c)).take c)) : ∀ k, k ≤ n → Fit enc P w (List.replicate k a).flatten ((cs.drop ((n - k) * c)).take (k * c))
  | 0, _ => by simp [Fit]
  | k + 1, hk => by
    have h1 := ih (n - (k + 1)) (by omega)
    have h2 := rep_fit (m := m) (e := e) ha ih k (by omega)
    rw [List.replicate_succ, List.flatten_cons, show (k + 1) * c = c + k * c by rw [Nat.add_mul, Nat.one_mul, Nat.add_comm], List.take_add, List.drop_drop, show (n - (k + 1)) * c + c = (n - k) * c by
      rw [show n - k = (n - (k + 1)) + 1 by omega, Nat.add_mul, Nat.one_mul]]
    exact h1.append h2

theorem kds_fit : ∀ (m : Nat) (t : TypeId) (ks : List Kd) (n : Nat) (cs : List Value) (x : DataW H × List MemPlace), kds P m t = some ks → DataW.trod enc P w 0 (fun _ => true) true n t cs = some x → Fit enc P w ks cs
  | 0, _, _, _, _, _, h, _ => by simp [kds] at h
  | m + 1, t, ks, n, cs, x, h, hx => by
    have one : ∀ {v : Value}, cs = [v] → Fit enc P w [.at t] cs := fun {v} e => by subst e; exact ⟨⟨n, x, hx⟩, trivial⟩
    unfold kds at h
    split at h
    · rename_i e; cases h
      obtain ⟨b, rfl, _⟩ := DataW.trod_bool e hx
      exact ⟨⟨b, rfl⟩, trivial⟩
    · rename_i k e; cases h
      obtain ⟨i, rfl, _, hw⟩ := DataW.trod_int e hx
      exact ⟨⟨i, rfl, hw⟩, trivial⟩
    · rename_i e; cases h
      obtain ⟨s, rfl, _, hs⟩ := DataW.trod_string e hx
      exact ⟨⟨s, rfl, hs⟩, trivial⟩
    · rename_i fs e
      obtain ⟨l, hl, h⟩ := Option.bind_eq_some_iff.1 h
      split at h
      · rename_i hc; cases h
        have hc := Nat.eq_of_beq_eq_true hc
        obtain ⟨xs, n', rfl, _, hlen, hxs, hf⟩ := DataW.trod_struct e hx
        have := go_fit (enc := enc) (w := w) (n := n') (cs := cs) (fun t ks cs x => kds_fit m t ks n' cs x) fs.toList 0 ks hl (fun f hf' => by
          obtain ⟨i, hi⟩ := List.getElem?_of_mem hf'
          rw [Array.getElem?_toList] at hi
          have := hf i f hi
          have hlt : i < xs.length := by rw [hxs]; exact (Array.getElem?_eq_some_iff.1 hi).1
          rw [List.getElem?_eq_getElem hlt] at this
          exact ⟨_, this⟩)
        rw [List.drop_zero, List.take_of_length_le (by omega)] at this
        exact this
      · cases h
    · rename_i k e he
      obtain ⟨a, ha, h⟩ := Option.bind_eq_some_iff.1 h
      split at h
      · rename_i hc; cases h
        rw [Bool.and_eq_true] at hc
        have hc1 := Nat.eq_of_beq_eq_true hc.1
        have hc2 := Nat.eq_of_beq_eq_true hc.2
        obtain ⟨hl, hy⟩ := trod_array_elems he hx
        have := rep_fit (enc := enc) (P := P) (w := w) (m := 0) (n := k) (e := e) (cs := cs) hc1 (fun i hi => by
          obtain ⟨m', y, hy⟩ := hy i hi
          exact kds_fit m e a m' _ y ha hy) k (Nat.le_refl k)
        rw [Nat.sub_self, Nat.zero_mul, List.drop_zero, List.take_of_length_le (by omega)] at this
        exact this
      · cases h
    all_goals first
      | (cases h; done)
      | (rename_i e; cases h; obtain ⟨v, hv⟩ := trod_one (fun _ h => by rw [e] at h; cases h) (fun _ _ h => by rw [e] at h; cases h) hx; exact one hv)

theorem drop_take_of {w : World} {b o n : Nat} {cs : Array Value} {e : TypeId} {fr : Nat × Nat} (hb : w.heap[b]? = some (.cells cs e fr)) {l : List Value} (h : w.cells? 0 ⟨b, o, none⟩ n = some l) : l.length = n ∧ (cs.toList.drop o).take n = l := by
  obtain ⟨_, h2, h3⟩ := World.cells?_some h
  refine ⟨h2, ?_⟩
  apply List.ext_getElem?
  intro i
  rw [List.getElem?_take]
  split
  · rename_i hi
    rw [List.getElem?_drop]
    have := h3 i hi
    unfold World.cell? at this
    have e1 : ((⟨b, o, none⟩ : Addr).add i).block = b := by unfold Addr.add; split <;> rfl
    have e2 : ((⟨b, o, none⟩ : Addr).add i).off = o + i := by unfold Addr.add; split <;> simp_all
    have e3 : ((⟨b, o, none⟩ : Addr).add i).spot = none := by unfold Addr.add; split <;> rfl
    rw [e1, hb] at this
    simp only [e2, e3] at this
    simpa using this
  · rw [List.getElem?_eq_none (by omega)]

/-- a slice argument as rows of cells -/
theorem slice_arg {base m : Nat} {t e : TypeId} {ks : List Kd} {v : Value} {d : DataW H} {ps : List MemPlace} (ht : P.underlying t = some (.slice e)) (hk : kds P m e = some ks) (hc : P.cellsOf e = ks.length)
    (hok : Value.okWide P w .any base t v) (h : DataW.Trod enc P w 0 (fun _ => true) true t v d ps) :
    ∃ p c ls, v = .slice p ls.length c ∧ Sl (oldH w) p c ks.length ls ∧ ∀ l ∈ ls, Fit enc P w ks l := by
  obtain ⟨a0, len, cap, rfl⟩ := okWide_slice ht hok
  obtain ⟨n, h⟩ := h
  have h' : DataW.trod enc P w 0 (fun _ => true) true n t [.slice a0 len cap] = some (d, ps) := by simpa [Value.cells] using h
  rcases Go.Deep.open_slice ht h' with ⟨h0, _⟩ | ⟨a, len', cap', m', n', D, Pl, h0, _, hl, hm, rfl, _, hx⟩
  · cases h0
    exact ⟨none, 0, [], rfl, ⟨rfl, rfl⟩, fun l hl => by cases hl⟩
  · cases h0
    simp only [Value.okWide, ht, Cell.okWide, Cell.ok] at hok
    obtain ⟨_, _, _, hsp, row, cells, hsh, _⟩ := hok
    obtain ⟨b, o, spot⟩ := a
    simp only at hsp
    subst hsp
    unfold World.shape? at hsh
    simp only at hsh
    split at hsh
    · rename_i cs el fr hb
      have hx' : ∀ i, i < len → ∃ l : List Value, w.cells? 0 ⟨b, o + i * ks.length, none⟩ ks.length = some l ∧ Fit enc P w ks l := by
        intro i hi
        obtain ⟨l, h1, h2⟩ := hx i (by show i < (if true = true then cap else len); rw [if_pos rfl]; omega)
        rw [hc] at h1
        refine ⟨l, ?_, kds_fit m e ks n' l _ hk h2⟩
        have e1 : ((⟨b, o, none⟩ : Addr).add (i * ks.length)) = ⟨b, o + i * ks.length, none⟩ := by unfold Addr.add; split <;> simp_all
        rw [← e1]; exact h1
      obtain ⟨f, hf⟩ := Go.Deep.choose_lt hx'
      refine ⟨some ⟨b, o, none⟩, cap, (List.range len).map f, by simp, ⟨by simpa using hl, hm, fun _ => ⟨rfl, cs.toList, el, fr, hb, ?_⟩⟩, ?_⟩
      · intro i l hi
        rw [List.getElem?_map] at hi
        obtain ⟨j, hj, rfl⟩ := Option.map_eq_some_iff.1 hi
        have hlt : i < len := by have := (List.getElem?_eq_some_iff.1 hj).1; simpa using this
        rw [List.getElem?_range hlt] at hj
        cases hj
        exact drop_take_of hb (hf i hlt).1
      · intro l hl'
        obtain ⟨i, hi, rfl⟩ := List.mem_map.1 hl'
        exact (hf i (List.mem_range.1 hi)).2
    · cases hsh

theorem exists_map {α β : Type} {f : α → β} {p : α → Prop} : ∀ {ls : List β}, (∀ l ∈ ls, ∃ a, f a = l ∧ p a) → ∃ as : List α, as.map f = ls ∧ ∀ a ∈ as, p a
  | [], _ => ⟨[], rfl, fun _ h => by cases h⟩
  | l :: r, h => by
    obtain ⟨a, ha, pa⟩ := h l (.head _)
    obtain ⟨as, has, pas⟩ := exists_map fun l hl => h l (.tail _ hl)
    exact ⟨a :: as, by rw [List.map_cons, ha, has], fun x hx => by cases hx with
      | head => exact pa
      | tail _ hx => exact pas x hx⟩

theorem Fit.uncons {k : Kd} {ks : List Kd} {l : List Value} (h : Fit enc P w (k :: ks) l) : ∃ v r, l = v :: r ∧ k.ok enc P w v ∧ Fit enc P w ks r := by
  cases l with
  | nil => exact h.elim
  | cons v r => exact ⟨v, r, rfl, h.1, h.2⟩
theorem Fit.nil' {l : List Value} (h : Fit enc P w [] l) : l = [] := by
  cases l with
  | nil => rfl
  | cons v r => exact h.elim
end
end Go.Proofs.Ytbgppnkccbhbpaa.SL
