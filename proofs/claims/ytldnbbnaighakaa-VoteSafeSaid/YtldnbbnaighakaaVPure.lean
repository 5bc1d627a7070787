/- A voter: in plain Lean. -/
import Derived.Test.YtldnbbnaighakaaCPure
namespace Go.Proofs.Ytldnbbnaighakaa.Vote
set_option linter.unusedVariables false
open Cfg

/-- a voter; its votes in the order in which they came, where it is a candidate -/
structure Vt where
  me : Int
  tm : Int
  vd : Int
  vs : Option (List Int)
def nw (me t vd : Int) : Vt := ⟨me, max t 0, max vd 0, none⟩
def obs (v : Vt) (t : Int) : Vt := if t ≤ v.tm then v else ⟨v.me, t, 0, none⟩
def gno (v : Vt) (c t : Int) (n : Bool) : Bool := (((decide (t ≠ v.tm) || !n) || decide (c < 1)) || (decide (v.vd ≠ 0) && decide (v.vd ≠ c))) || (v.vs.isSome && decide (c ≠ v.me))
def gr (v : Vt) (c t : Int) (n : Bool) : Vt := if gno v c t n = true then v else { v with vd := c }
def camp (v : Vt) : Vt := ⟨v.me, v.tm + 1, v.me, some [v.me]⟩
def cno (v : Vt) (f t : Int) (g : Bool) : Bool := (((!v.vs.isSome || decide (t ≠ v.tm)) || !g) || decide (f < 1)) || decide (f ∈ v.vs.getD [])
def cnt (v : Vt) (f t : Int) (g : Bool) : Vt := if cno v f t g = true then v else { v with vs := some (v.vs.getD [] ++ [f]) }
def stop (v : Vt) : Vt := { v with vs := none }
def won (v : Vt) (o n : List Int) : Bool := v.vs.isSome && quor o n (v.vs.getD [])

/-- bounds: k calls so far -/
structure VOK (k : Nat) (v : Vt) : Prop where
  me : 1 ≤ v.me
  t0 : 0 ≤ v.tm
  t1 : v.tm ≤ 1099511627776 + k
  d0 : 0 ≤ v.vd
  nd : ∀ l, v.vs = some l → l.Nodup ∧ (∀ z ∈ l, 1 ≤ z) ∧ l.length ≤ k + 1
section
variable {k : Nat} {v : Vt}
theorem VOK.nd' (h : VOK k v) : (v.vs.getD []).Nodup ∧ (∀ z ∈ v.vs.getD [], 1 ≤ z) ∧ (v.vs.getD []).length ≤ k + 1 := by
  cases hv : v.vs with
  | none => simp
  | some l => exact h.nd l hv
theorem VOK.nw {me t vd : Int} (h : 1 ≤ me) (ht : t ≤ 1099511627776 + k) : VOK k (nw me t vd) := ⟨h, by simp only [Vote.nw]; omega, by simp only [Vote.nw]; omega, by simp only [Vote.nw]; omega, by simp [Vote.nw]⟩
theorem VOK.up (h : VOK k v) : VOK (k + 1) v := ⟨h.me, h.t0, by have := h.t1; omega, h.d0, fun l hl => by have := h.nd l hl; exact ⟨this.1, this.2.1, by omega⟩⟩
theorem VOK.obs (h : VOK k v) {t : Int} (ht : t ≤ 1099511627776 + k) : VOK k (obs v t) := by
  unfold Vote.obs
  split
  · exact h
  · have := h.t0
    exact ⟨h.me, by dsimp only; omega, ht, Int.le_refl _, by simp⟩
theorem VOK.gr (h : VOK k v) {c t : Int} {n : Bool} : VOK k (gr v c t n) := by
  unfold Vote.gr
  split
  · exact h
  · rename_i hn
    refine ⟨h.me, h.t0, h.t1, ?_, h.nd⟩
    simp only [gno, Bool.or_eq_true, decide_eq_true_eq] at hn
    show 0 ≤ c
    omega
theorem VOK.camp (h : VOK k v) : VOK (k + 1) (camp v) := by
  have h1 := h.me; have h2 := h.t0; have h3 := h.t1
  refine ⟨h.me, by simp only [Vote.camp]; omega, by simp only [Vote.camp]; omega, by simp only [Vote.camp]; omega, fun l hl => ?_⟩
  simp only [Vote.camp, Option.some.injEq] at hl
  subst hl
  simp; omega
theorem VOK.cnt (h : VOK k v) {f t : Int} {g : Bool} : VOK (k + 1) (cnt v f t g) := by
  unfold Vote.cnt
  split
  · exact h.up
  · rename_i hn
    simp only [cno, Bool.or_eq_true, decide_eq_true_eq, not_or] at hn
    have h1 := h.nd'
    refine ⟨h.me, h.t0, by have := h.t1; dsimp only; omega, h.d0, fun l hl => ?_⟩
    simp only [Option.some.injEq] at hl
    subst hl
    refine ⟨List.nodup_append.2 ⟨h1.1, by simp, fun a ha b hb => ?_⟩, fun z hz => ?_, by simp; omega⟩
    · simp only [List.mem_singleton] at hb; subst hb
      intro e; subst e; exact hn.2 ha
    · rcases List.mem_append.1 hz with hz | hz
      · exact h1.2.1 z hz
      · simp only [List.mem_singleton] at hz; subst hz; omega
theorem VOK.stop (h : VOK k v) : VOK k (stop v) := ⟨h.me, h.t0, h.t1, h.d0, by simp [Vote.stop]⟩
theorem VOK.le (h : VOK k v) {m : Nat} (hm : k ≤ m) : VOK m v := by
  induction hm with
  | refl => exact h
  | step _ ih => exact ih.up
end
/-- the sorted list of distinct numbers that are at least 1 is their set -/
theorem srt_set {l m : List Int} (hn : l.Nodup) (h1 : ∀ z ∈ l, 1 ≤ z) (hm : ∀ z, z ∈ l ↔ z ∈ m) : srt l = setL m := by
  refine IsSet.eq ⟨?_, fun z => ?_⟩
  · have hp : (srt l).Pairwise (· ≤ ·) := by
      have := List.pairwise_mergeSort (le := fun (x y : Int) => decide (x ≤ y)) (fun a b c h1 h2 => by simp at *; omega) (fun a b => by simp; omega) l
      exact this.imp (by simp)
    have hnd : (srt l).Nodup := (List.mergeSort_perm l _).nodup_iff.2 hn
    exact (hp.and hnd).imp fun ⟨a, b⟩ => by omega
  · unfold srt
    rw [List.mem_mergeSort, ← hm]
    exact ⟨fun h => ⟨h, h1 z h⟩, fun h => h.1⟩
theorem maj_congr {l r s : List Int} (h : ∀ z, z ∈ r ↔ z ∈ s) : maj l r = maj l s := by
  unfold maj
  congr 5
  apply List.filter_congr
  intro z _
  exact decide_eq_decide.2 (h z)
theorem quor_congr {o n r s : List Int} (h : ∀ z, z ∈ r ↔ z ∈ s) : quor o n r = quor o n s := by unfold quor; rw [maj_congr h, maj_congr h]
theorem quor_set {o n l : List Int} (h : ∀ z ∈ l, 1 ≤ z) : quor o n (setL l) = quor o n l := quor_congr fun z => by rw [(setL_is l).mem]; exact ⟨fun h => h.1, fun h1 => ⟨h1, h z h1⟩⟩
/-- a sorted permutation is the sorted list -/
theorem srt_of_perm {l m : List Int} (hp : m.Perm l) (hs : m.Pairwise (· ≤ ·)) : m = srt l := by
  have h1 : (srt l).Perm l := List.mergeSort_perm l _
  have h2 : (srt l).Pairwise (· ≤ ·) := by
    have := List.pairwise_mergeSort (le := fun (x y : Int) => decide (x ≤ y)) (fun a b c h1 h2 => by simp at *; omega) (fun a b => by simp; omega) l
    exact this.imp (by simp)
  exact (hp.trans h1.symm).eq_of_pairwise (fun a b _ _ h1 h2 => Int.le_antisymm h1 h2) hs h2
/-! ### timeouts -/
def pos (V : List Int) (a : Int) : Nat := (V.filter fun z => decide (z < a)).length
def tmo (V : List Int) (tm me : Int) : Int := if me ∈ V then 4 + 2 * (((pos V me : Nat) + tm % (V.length : Int)) % (V.length : Int)) else 0
theorem tmod_fix (a n : Int) : (a.tmod n + n) % n = a % n := by
  rw [Int.add_emod_right]
  conv => rhs; rw [← Int.tmod_add_mul_tdiv a n]
  rw [Int.add_mul_emod_self_left]
theorem sorted_pos {V : List Int} (hs : V.Pairwise (· < ·)) {n : Nat} {a : Int} (h : V[n]? = some a) : pos V a = n := by
  have hlt := (List.getElem?_eq_some_iff.1 h).1
  have e : V = V.take n ++ (a :: V.drop (n + 1)) := by
    have h1 : V.drop n = a :: V.drop (n + 1) := by
      rw [List.drop_eq_getElem_cons hlt]
      congr 1
      exact (List.getElem?_eq_some_iff.1 h).2
    rw [← h1, List.take_append_drop]
  have hp := hs
  rw [e, List.pairwise_append] at hp
  obtain ⟨_, h2, h3⟩ := hp
  have h2' := (List.pairwise_cons.1 h2).1
  unfold pos
  rw [e, List.filter_append, List.filter_cons]
  rw [List.filter_eq_self.2 (fun z hz => by simpa using h3 z hz a (by simp)), if_neg (by simp), List.filter_eq_nil_iff.2 (fun z hz => by have := h2' z hz; simp; omega)]
  simp
  omega
theorem emod_b (a : Int) {n : Nat} (h : 0 < n) : 0 ≤ a % (n : Int) ∧ a % (n : Int) < n := ⟨Int.emod_nonneg _ (by omega), Int.emod_lt_of_pos _ (by omega)⟩
theorem modadd {a c : Int} {n : Nat} (ha : 0 ≤ a) (ha2 : a < n) (hc : 0 ≤ c) (hc2 : c < n) : (a + c) % (n : Int) = if a + c < n then a + c else a + c - n := by
  split
  · exact Int.emod_eq_of_lt (by omega) (by omega)
  · rw [← Int.sub_emod_right]; exact Int.emod_eq_of_lt (by omega) (by omega)
theorem tmo_at {V : List Int} (hs : V.Pairwise (· < ·)) {i : Nat} {a : Int} (h : V[i]? = some a) (tm : Int) : tmo V tm a = 4 + 2 * (if (i : Int) + tm % (V.length : Int) < V.length then (i : Int) + tm % (V.length : Int) else (i : Int) + tm % (V.length : Int) - V.length) := by
  have hlt := (List.getElem?_eq_some_iff.1 h).1
  have := emod_b tm (show 0 < V.length by omega)
  unfold tmo
  rw [if_pos (List.mem_of_getElem? h), sorted_pos hs h, modadd (by omega) (by omega) this.1 this.2]
theorem addmod {tm : Int} {n k : Nat} (h : k < n) : (tm + k) % (n : Int) = if tm % (n : Int) + k < n then tm % (n : Int) + k else tm % (n : Int) + k - n := by
  have := emod_b tm (show 0 < n by omega)
  rw [← modadd this.1 this.2 (by omega) (by omega), Int.add_emod tm, Int.emod_eq_of_lt (show (0 : Int) ≤ k by omega) (by omega)]
/-- in which of the next terms a voter is the first -/
def fstK (V : List Int) (i : Nat) (tm : Int) : Nat := if (i : Int) + tm % (V.length : Int) = 0 then 0 else if (i : Int) + tm % (V.length : Int) ≤ V.length then ((V.length : Int) - i - tm % (V.length : Int)).toNat else (2 * (V.length : Int) - i - tm % (V.length : Int)).toNat
theorem fstK_lt {V : List Int} {i : Nat} (hi : i < V.length) (tm : Int) : fstK V i tm < V.length := by
  have := emod_b tm (show 0 < V.length by omega)
  unfold fstK
  split
  · omega
  · split <;> omega
theorem first_iff {V : List Int} (hs : V.Pairwise (· < ·)) {i : Nat} {a : Int} (h : V[i]? = some a) {tm : Int} {k : Nat} (hk : k < V.length) : tmo V (tm + k) a = 4 ↔ k = fstK V i tm := by
  have hlt := (List.getElem?_eq_some_iff.1 h).1
  have := emod_b tm (show 0 < V.length by omega)
  rw [tmo_at hs h, addmod hk]
  unfold fstK
  split <;> split <;> split <;> (try split) <;> omega
theorem tmo_rng {V : List Int} (hs : V.Pairwise (· < ·)) {i : Nat} {a : Int} (h : V[i]? = some a) (tm : Int) : 4 ≤ tmo V tm a ∧ tmo V tm a ≤ 2 + 2 * V.length := by
  have hlt := (List.getElem?_eq_some_iff.1 h).1
  have := emod_b tm (show 0 < V.length by omega)
  rw [tmo_at hs h]
  split <;> omega
theorem tmo_inj {V : List Int} (hs : V.Pairwise (· < ·)) {i j : Nat} {a b : Int} (h : V[i]? = some a) (h' : V[j]? = some b) (tm : Int) (e : tmo V tm a = tmo V tm b) : i = j := by
  have hlt := (List.getElem?_eq_some_iff.1 h).1
  have hlt' := (List.getElem?_eq_some_iff.1 h').1
  have := emod_b tm (show 0 < V.length by omega)
  rw [tmo_at hs h, tmo_at hs h'] at e
  split at e <;> split at e <;> omega
/-- an operation of the laws -/
structure OpV where
  kd : Int
  a : Int
  b : Int
  y : Bool
  n : Bool
def OpV.ok (o : OpV) : Prop := o.a ≤ 1099511627776 ∧ o.b ≤ 1099511627776
instance (o : OpV) : Decidable o.ok := inferInstanceAs (Decidable (_ ∧ _))
def bOf (v : Vt) (o : OpV) : Int := if o.n = true then v.tm else o.b
def stp (v : Vt) (o : OpV) : Vt := if o.kd = 0 then obs v o.a else if o.kd = 1 then gr v o.a (bOf v o) o.y else if o.kd = 2 then camp v else if o.kd = 3 then cnt v o.a (bOf v o) o.y else if o.kd = 4 then stop v else if o.kd = 5 then nw v.me v.tm v.vd else v
theorem VOK.stp {k : Nat} {v : Vt} (h : VOK k v) {o : OpV} (ho : o.ok) : VOK (k + 1) (stp v o) := by
  have h1 := h.t1
  unfold Vote.stp
  split
  · exact (h.obs (by have := ho.1; omega)).up
  · split
    · exact h.gr.up
    · split
      · exact h.camp
      · split
        · exact h.cnt
        · split
          · exact h.stop.up
          · split
            · exact (VOK.nw h.me (by omega)).up
            · exact h.up
def runs (v : Vt) (l : List OpV) : Vt := l.foldl stp v
theorem runs_take {v : Vt} {l : List OpV} {j : Nat} {o : OpV} (h : l[j]? = some o) : runs v (l.take (j + 1)) = stp (runs v (l.take j)) o := by
  unfold runs
  rw [List.take_add_one, h, List.foldl_append]; rfl
theorem runs_ok {l : List OpV} (h : ∀ o ∈ l, o.ok) : ∀ {v : Vt} {k : Nat}, VOK k v → VOK (k + l.length) (runs v l) := by
  induction l with
  | nil => exact fun h => h
  | cons o r ih =>
    intro v k hv
    have := ih (fun o h1 => h o (List.mem_cons_of_mem _ h1)) (hv.stp (h o (List.mem_cons_self)))
    rw [List.length_cons, show k + (r.length + 1) = k + 1 + r.length by omega]
    exact this
end Go.Proofs.Ytldnbbnaighakaa.Vote
