/- What a leader knows of its members: in plain Lean. -/
import Derived.Test.YtdkefpnebmmhlaaCPure
namespace Go.Proofs.Ytdkefpnebmmhlaa.Rep
set_option linter.unusedVariables false
open Cfg

structure Mb where
  r : Int
  nx : Int
  mt : Int

def fnd (ms : List Mb) (k : Int) : Option Mb := ms.find? fun x => decide (x.r = k)
def Sorted (ms : List Mb) : Prop := (ms.map (·.r)).Pairwise (· < ·)
/-- what a state bears -/
structure MOK (ms : List Mb) : Prop where
  sorted : Sorted ms
  pos : ∀ x ∈ ms, 1 ≤ x.r ∧ x.r ≠ 1
  mt : ∀ x ∈ ms, 0 ≤ x.mt ∧ x.mt < x.nx
  big : ∀ x ∈ ms, x.nx ≤ 1099511627778
  len : ms.length ≤ 1000

theorem fnd_some {ms : List Mb} {k : Int} {x : Mb} (h : fnd ms k = some x) : x ∈ ms ∧ x.r = k := ⟨List.mem_of_find?_eq_some h, by simpa using List.find?_some h⟩
theorem fnd_none {ms : List Mb} {k : Int} : fnd ms k = none ↔ ∀ x ∈ ms, x.r ≠ k := by simp [fnd]
theorem fnd_mem {ms : List Mb} (hs : Sorted ms) {x : Mb} (h : x ∈ ms) : fnd ms x.r = some x := by
  induction ms with
  | nil => simp at h
  | cons y ms ih =>
    unfold Sorted at hs
    rw [List.map_cons, List.pairwise_cons] at hs
    simp only [fnd, List.find?_cons]
    rcases List.mem_cons.1 h with h1 | h1
    · subst h1; simp
    · have hlt := hs.1 x.r (List.mem_map.2 ⟨x, h1, rfl⟩)
      have : decide (y.r = x.r) = false := by simp; omega
      rw [this]
      exact ih hs.2 h1

/-! ### the calls -/
def accM (b : Int) (x : Mb) : Mb := ⟨x.r, max x.nx (max x.mt b + 1), max x.mt b⟩
def rejM (h : Int) (x : Mb) : Mb := ⟨x.r, max (x.mt + 1) (min (x.nx - 1) (min h x.nx + 1)), x.mt⟩
def upd (f : Mb → Mb) (ms : List Mb) (a : Int) : List Mb := ms.map fun y => if y.r = a then f y else y
def chg (me last : Int) (ms : List Mb) (l : List Int) : List Mb := ((setL l).filter fun r => !decide (r = me)).map fun r => match fnd ms r with
  | some x => x
  | none => ⟨r, max 0 last + 1, 0⟩
def caught (me c : Int) (ms : List Mb) : List Int := setL (me :: (ms.filter fun x => decide (c ≤ x.mt)).map (·.r))

theorem fnd_upd {f : Mb → Mb} (hf : ∀ x, (f x).r = x.r) {ms : List Mb} {a : Int} (k : Int) : fnd (upd f ms a) k = (fnd ms k).map fun y => if y.r = a then f y else y := by
  induction ms with
  | nil => rfl
  | cons y ms ih =>
    simp only [upd, fnd, List.map_cons, List.find?_cons] at ih ⊢
    have hr : (if y.r = a then f y else y).r = y.r := by split; exact hf y; rfl
    rw [hr]
    by_cases hk : y.r = k
    · simp [hk]
    · simp only [hk, decide_false]
      exact ih
theorem upd_map {f : Mb → Mb} (hf : ∀ x, (f x).r = x.r) {ms : List Mb} {a : Int} : (upd f ms a).map (·.r) = ms.map (·.r) := by
  unfold upd
  rw [List.map_map]
  apply List.map_congr_left
  intro y _
  simp only [Function.comp]
  split; exact hf y; rfl
theorem MOK.upd {f : Mb → Mb} (hf : ∀ x, (f x).r = x.r) {ms : List Mb} {a : Int} (h : MOK ms) (h2 : ∀ x ∈ ms, x.r = a → 0 ≤ (f x).mt ∧ (f x).mt < (f x).nx ∧ (f x).nx ≤ 1099511627778) : MOK (upd f ms a) := by
  have mem : ∀ y ∈ Rep.upd f ms a, ∃ x ∈ ms, y = if x.r = a then f x else x := fun y hy => by
    obtain ⟨x, hx, rfl⟩ := List.mem_map.1 hy; exact ⟨x, hx, rfl⟩
  refine ⟨?_, fun y hy => ?_, fun y hy => ?_, fun y hy => ?_, by unfold Rep.upd; rw [List.length_map]; exact h.len⟩
  · unfold Sorted; rw [upd_map hf]; exact h.sorted
  · obtain ⟨x, hx, rfl⟩ := mem y hy
    have := h.pos x hx
    split
    · rw [hf]; exact this
    · exact this
  · obtain ⟨x, hx, rfl⟩ := mem y hy
    split
    · rename_i e; have := h2 x hx e; exact ⟨this.1, this.2.1⟩
    · exact h.mt x hx
  · obtain ⟨x, hx, rfl⟩ := mem y hy
    split
    · rename_i e; exact (h2 x hx e).2.2
    · exact h.big x hx
theorem MOK.acc {ms : List Mb} (h : MOK ms) {a b : Int} (hb : b ≤ 1099511627776) : MOK (Rep.upd (accM b) ms a) := h.upd (f := accM b) (fun _ => rfl) fun x hx _ => by
  have h1 := h.mt x hx
  have h2 := h.big x hx
  simp only [accM]
  omega
theorem MOK.rej {ms : List Mb} (h : MOK ms) {a b : Int} : MOK (Rep.upd (rejM b) ms a) := h.upd (f := rejM b) (fun _ => rfl) fun x hx _ => by
  have h1 := h.mt x hx
  have h2 := h.big x hx
  simp only [rejM]
  omega
theorem filter_sorted {l : List Int} {q : Int → Bool} (h : l.Pairwise (· < ·)) : (l.filter q).Pairwise (· < ·) := h.sublist List.filter_sublist
theorem chg_map {me last : Int} {ms : List Mb} {l : List Int} : (chg me last ms l).map (·.r) = (setL l).filter fun r => !decide (r = me) := by
  unfold chg
  rw [List.map_map]
  conv => rhs; rw [← List.map_id ((setL l).filter fun r => !decide (r = me))]
  apply List.map_congr_left
  intro r _
  simp only [Function.comp, id]
  cases hf : fnd ms r with
  | none => rfl
  | some x => exact (fnd_some hf).2
theorem MOK.chg {last : Int} {ms : List Mb} (h : MOK ms) (hl : last ≤ 1099511627776) {l : List Int} (hl2 : l.length ≤ 1000) : MOK (Rep.chg 1 last ms l) := by
  have mem : ∀ y ∈ Rep.chg 1 last ms l, y ∈ ms ∨ (y.nx = max 0 last + 1 ∧ y.mt = 0) := fun y hy => by
    obtain ⟨r, hr, rfl⟩ := List.mem_map.1 hy
    cases hf : fnd ms r with
    | none => exact .inr ⟨rfl, rfl⟩
    | some x => exact .inl (fnd_some hf).1
  have key : ∀ y ∈ Rep.chg 1 last ms l, y.r ∈ (setL l).filter fun r => !decide (r = 1) := fun y hy => by
    rw [← chg_map (last := last) (ms := ms)]; exact List.mem_map.2 ⟨y, hy, rfl⟩
  refine ⟨?_, fun y hy => ?_, fun y hy => ?_, fun y hy => ?_, by unfold Rep.chg; rw [List.length_map]; exact Nat.le_trans (List.length_filter_le _ _) (Nat.le_trans (setL_len l) hl2)⟩
  · unfold Sorted; rw [chg_map]; exact filter_sorted (setL_is l).sorted
  · have := List.mem_filter.1 (key y hy)
    exact ⟨setL_pos this.1, by simpa using this.2⟩
  · rcases mem y hy with h1 | h1
    · exact h.mt y h1
    · omega
  · rcases mem y hy with h1 | h1
    · exact h.big y h1
    · omega
theorem find_map {f : Int → Mb} (hf : ∀ r, (f r).r = r) (s : List Int) (k : Int) : fnd (s.map f) k = if k ∈ s then some (f k) else none := by
  induction s with
  | nil => rfl
  | cons a s ih =>
    simp only [fnd, List.map_cons, List.find?_cons, hf] at ih ⊢
    by_cases h : a = k
    · subst h; simp
    · simp only [h, decide_false, ih, List.mem_cons]
      by_cases hk : k ∈ s
      · simp [hk]
      · have : ¬ k = a := fun e => h e.symm
        simp [hk, this]
theorem fnd_chg {me last : Int} {ms : List Mb} {l : List Int} (k : Int) : fnd (chg me last ms l) k = if k ∈ l ∧ 1 ≤ k ∧ k ≠ me then some (match fnd ms k with
    | some x => x
    | none => ⟨k, max 0 last + 1, 0⟩) else none := by
  unfold chg
  rw [find_map (fun r => by cases hf : fnd ms r with
    | none => rfl
    | some x => exact (fnd_some hf).2)]
  have : k ∈ ((setL l).filter fun r => !decide (r = me)) ↔ (k ∈ l ∧ 1 ≤ k ∧ k ≠ me) := by
    rw [List.mem_filter, (setL_is l).mem]; simp [and_assoc]
  by_cases h : k ∈ l ∧ 1 ≤ k ∧ k ≠ me
  · rw [if_pos (this.2 h), if_pos h]
  · rw [if_neg (fun e => h (this.1 e)), if_neg h]
theorem MOK.nil : MOK [] := ⟨.nil, by simp, by simp, by simp, by simp⟩
theorem fnd_at {ms : List Mb} {j : Nat} {x : Mb} {k : Int} (hx : ms[j]? = some x) (hk : x.r = k) (hI : ∀ (i : Nat) y, i < j → ms[i]? = some y → y.r ≠ k) : fnd ms k = some x := by
  induction ms generalizing j with
  | nil => simp at hx
  | cons y ms ih =>
    simp only [fnd, List.find?_cons]
    cases j with
    | zero => simp at hx; subst hx; simp [hk]
    | succ j =>
      have := hI 0 y (by omega) (by simp)
      simp only [this, decide_false]
      exact ih (j := j) (by simpa using hx) (fun i z hi hz => hI (i + 1) z (by omega) (by simpa using hz))
theorem upd_none {f : Mb → Mb} {ms : List Mb} {a : Int} (h : fnd ms a = none) : upd f ms a = ms := by
  unfold upd
  conv => rhs; rw [← List.map_id ms]
  apply List.map_congr_left
  intro y hy
  rw [if_neg (fnd_none.1 h y hy)]; rfl
theorem upd_set {f : Mb → Mb} {ms : List Mb} (hs : Sorted ms) {a : Int} {i : Nat} {x : Mb} (hx : ms[i]? = some x) (ha : x.r = a) : upd f ms a = ms.set i (f x) := by
  apply List.ext_getElem?
  intro j
  unfold upd
  rw [List.getElem?_map, List.getElem?_set]
  by_cases e : i = j
  · subst e
    have hlt := (List.getElem?_eq_some_iff.1 hx).1
    rw [if_pos rfl, hx]; simp [ha, hlt]
  · rw [if_neg e]
    cases hy : ms[j]? with
    | none => rfl
    | some y =>
      have hne : y.r ≠ a := fun h => by
        have h1 : (ms.map (·.r))[i]? = some a := by simp [hx, ha]
        have h2 : (ms.map (·.r))[j]? = some a := by simp [hy, h]
        have hnd : (ms.map (·.r)).Nodup := hs.imp (fun h => by omega)
        exact e ((List.getElem?_inj (List.getElem?_eq_some_iff.1 h1).1 hnd).1 (h1.trans h2.symm))
      simp [hne]
def gM (last : Int) (ms : List Mb) (r : Int) : Mb := match fnd ms r with
  | some x => x
  | none => ⟨r, max 0 last + 1, 0⟩
def chgR (last : Int) (ms : List Mb) (s : List Int) : List Mb := (s.filter fun r => !decide (r = 1)).map (gM last ms)
theorem chgR_take {last : Int} {ms : List Mb} {s : List Int} {j : Nat} {a : Int} (h : s[j]? = some a) : chgR last ms (s.take (j + 1)) = if a = 1 then chgR last ms (s.take j) else chgR last ms (s.take j) ++ [gM last ms a] := by
  unfold chgR
  rw [List.take_add_one, h, List.filter_append, List.map_append]
  by_cases e : a = 1 <;> simp [e]
theorem chgR_len {last : Int} {ms : List Mb} {s : List Int} : (chgR last ms s).length ≤ s.length := by
  unfold chgR; rw [List.length_map]; exact List.length_filter_le _ _
theorem chgR_all {last : Int} {ms : List Mb} {l : List Int} : chgR last ms (setL l) = chg 1 last ms l := rfl
/-- what is caught, as it is collected -/
def cts (c : Int) (ms : List Mb) (j : Nat) : List Int := 1 :: ((ms.take j).filter fun x => decide (c ≤ x.mt)).map (·.r)
theorem cts_succ {c : Int} {ms : List Mb} {j : Nat} {x : Mb} (h : ms[j]? = some x) : cts c ms (j + 1) = if c ≤ x.mt then cts c ms j ++ [x.r] else cts c ms j := by
  unfold cts
  rw [List.take_add_one, h, List.filter_append, List.map_append]
  by_cases e : c ≤ x.mt <;> simp [e]
theorem cts_len {c : Int} {ms : List Mb} {j : Nat} : (cts c ms j).length ≤ j + 1 := by
  unfold cts
  rw [List.length_cons, List.length_map]
  have := List.length_filter_le (fun x : Mb => decide (c ≤ x.mt)) (ms.take j)
  rw [List.length_take] at this
  omega
theorem cts_all {c : Int} {ms : List Mb} {j : Nat} (h : j = ms.length) : setL (cts c ms j) = caught 1 c ms := by
  unfold cts caught; rw [h, List.take_length]
/-- an operation of the laws -/
structure Op where
  kd : Int
  a : Int
  b : Int
  l : List Int
  lp : Nat
def stp (kd a b : Int) (l : List Int) (ms : List Mb) : List Mb := if kd = 0 then upd (accM b) ms a else if kd = 1 then upd (rejM b) ms a else if kd = 2 then chg 1 a ms l else ms
theorem MOK.stp {ms : List Mb} (h : MOK ms) {kd a b : Int} {l : List Int} (ha : a ≤ 1099511627776) (hb : b ≤ 1099511627776) (hl : l.length ≤ 8) : MOK (Rep.stp kd a b l ms) := by
  unfold Rep.stp
  split
  · exact h.acc hb
  · split
    · exact h.rej
    · split
      · exact h.chg ha (by omega)
      · exact h
theorem mem_caught {c : Int} {ms : List Mb} (h : MOK ms) (z : Int) : z ∈ (1 :: (ms.filter fun x => decide (c ≤ x.mt)).map (·.r)) ↔ z = 1 ∨ ∃ x, fnd ms z = some x ∧ c ≤ x.mt := by
  rw [List.mem_cons, List.mem_map]
  constructor
  · rintro (h1 | ⟨x, hx, rfl⟩)
    · exact .inl h1
    · rw [List.mem_filter] at hx
      exact .inr ⟨x, fnd_mem h.sorted hx.1, by simpa using hx.2⟩
  · rintro (h1 | ⟨x, hx, h2⟩)
    · exact .inl h1
    · exact .inr ⟨x, List.mem_filter.2 ⟨(fnd_some hx).1, by simpa using h2⟩, (fnd_some hx).2⟩
/-- the sorted list of distinct numbers that are at least 1 is their set -/
theorem srt_set {l m : List Int} (hn : l.Nodup) (h1 : ∀ z ∈ l, 1 ≤ z) (hm : ∀ z, z ∈ l ↔ z ∈ m) : srt l = setL m := by
  refine IsSet.eq ⟨?_, fun z => ?_⟩
  · have hp : (srt l).Pairwise (· ≤ ·) := by
      have := List.pairwise_mergeSort (le := fun (x y : Int) => decide (x ≤ y)) (fun a b c h1 h2 => by simp at *; omega) (fun a b => by simp; omega) l
      exact this.imp (by simp)
    have hnd : (srt l).Nodup := (List.mergeSort_perm l _).nodup_iff.2 hn
    exact (hp.and hnd).imp fun ⟨a, b⟩ => by omega
  · unfold srt
    rw [List.mem_mergeSort, ← hm]
    exact ⟨fun h => ⟨h, h1 z h⟩, fun h => h.1⟩
end Go.Proofs.Ytdkefpnebmmhlaa.Rep
