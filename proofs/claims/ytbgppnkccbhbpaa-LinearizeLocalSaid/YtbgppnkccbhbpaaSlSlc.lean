/-
  More of slices that one owns: the head of one, 'clear' of its tail, 'append' of zero values to a nil slice.
-/
import Derived.Test.YtbgppnkccbhbpaaSlLoop
import Derived.Lib.AppendZeros
import Derived.Lib.SliceRun
namespace Go.Proofs.Ytbgppnkccbhbpaa.SL
set_option linter.unusedVariables false
open Go.RowKit

theorem Own.take {H : PH} {p : Option Addr} {c e n : Nat} {ls : List (List Value)} (h : Own H p c e n ls) (k : Nat) : Own H p c e n (ls.take k) := by
  obtain ⟨h1, h2, h3, h4⟩ := h
  refine ⟨fun l hl => h1 l (List.mem_of_mem_take hl), by rw [List.length_take]; omega, h3, ?_⟩
  cases p with
  | none => obtain ⟨rfl, rfl, rfl⟩ := h4; exact ⟨by simp, rfl, rfl⟩
  | some a =>
    obtain ⟨h5, h6, sp, rfl, h7⟩ := h4
    refine ⟨h5, h6, (ls.drop k).flatten ++ sp, ?_, ?_⟩
    · rw [← List.append_assoc, ← List.flatten_append, List.take_append_drop]
    · rw [← List.append_assoc, ← List.flatten_append, List.take_append_drop]; exact h7

theorem zeroCells_rep {zs : List Value} {z : Value} (hz : z.cells = zs.toArray) (k : Nat) : (Builtin.zeroCells z.cells k).toList = (List.replicate k zs).flatten := by
  have hget : ∀ (k i : Nat), i < k * zs.length → (List.replicate k zs).flatten[i]? = zs[i % zs.length]? := by
    intro k
    induction k with
    | zero => intro i hi; simp at hi
    | succ k ih =>
      intro i hi
      rw [List.replicate_succ, List.flatten_cons]
      by_cases hin : i < zs.length
      · rw [List.getElem?_append_left (by omega), Nat.mod_eq_of_lt hin]
      · rw [List.getElem?_append_right (by omega), ih (i - zs.length) (by rw [Nat.succ_mul] at hi; omega)]
        congr 1
        rw [← Nat.mod_eq_sub_mod (by omega)]
  apply List.ext_getElem?
  intro i
  unfold Builtin.zeroCells
  rw [hz]
  by_cases hi : i < k * zs.length
  · have hn0 : 0 < zs.length := by rcases Nat.eq_zero_or_pos zs.length with h | h; · rw [h] at hi; simp at hi
                                   · exact h
    rw [hget k i hi, List.getElem?_eq_getElem (Nat.mod_lt _ hn0)]
    simp [hi, Nat.mod_lt _ hn0]
  · rw [List.getElem?_eq_none (by simp; omega), List.getElem?_eq_none (by simp; omega)]

section
variable {X : Cx} {σ : Loc} {L : Sh} {ty T : TypeId} {x y : Operand}

theorem Eff.clearOwn {e n tc k : Nat} {H : PH} {p q : Option Addr} {c c' m : Nat} {ls : List (List Value)} {zs : List Value} (ht : X.P.underlying T = some (.slice e)) (hz : zc X.P e zs) (hzl : zs.length = n) (hzo : zs.all (·.oneCell') = true)
    (hx : ev σ x = some (.slice q m c')) (hL : lk L tc = some H) (hO : Own H p c e n ls) (hk : k ≤ ls.length) (hq : q = subP p c k n) (hm : m = ls.length - k) :
    Eff X (.call { callee := .builtin .clear, args := #[x], argTypes := #[T] }) ty σ L (fun v L' => v = .tuple #[] ∧ ∃ H', Own H' p c e n (ls.take k) ∧ L' = (tc, H') :: L) := fun a w ha hmm o ho hty K Q hK => by
  subst hq; subst hm
  have run : ∃ w' H', (Builtin.clear_ #[T] ty #[.slice (subP p c k n) (ls.length - k) c']).run X.P w = .ok (.tuple #[]) w' ∧ Own H' p c e n (ls.take k) ∧ Mem X.E ((tc, H') :: L) w' := by
    by_cases hkl : ls.length = k
    · refine ⟨w, H, ?_, hO.take k, hmm.weak fun i J h => ?_⟩
      · rw [show ls.length - k = 0 by omega]
        cases hs : subP p c k n <;> simp [Builtin.clear_, run_underlying ht]
      · rw [lk_cons] at h
        split at h
        · rename_i e'; cases h; rw [← e']; exact hL
        · exact h
    · have hO' := hO
      obtain ⟨h1, h2, h3, h4⟩ := hO
      cases p with
      | none => obtain ⟨rfl, _⟩ := h4; simp at hk hkl; omega
      | some pa =>
        obtain ⟨h5, h6, sp, rfl, h7⟩ := h4
        obtain ⟨b, po, ps⟩ := pa
        simp only at h5 h6 h7
        subst h5; subst h6
        have hsub : subP (some ⟨b, 0, none⟩) c k n = some ⟨b, k * n, none⟩ := by
          unfold subP
          rw [if_neg (by omega)]
          simp [Addr.add_lit]
        obtain ⟨z, hzc, hrun⟩ := hz.run
        have hfl := flatten_length (n := n) (ls := ls) fun l hl => (h1 l hl).1
        have hrl : ((List.replicate (ls.length - k) zs).flatten).length = (ls.length - k) * n := by simp [hzl]
        have hkn : k * n + (ls.length - k) * n = ls.length * n := by rw [← Nat.add_mul]; congr 1; omega
        obtain ⟨w', hr, hm'⟩ := hmm.putCells hL (b := b) (single_self _ _) (o := k * n) (vs := (List.replicate (ls.length - k) zs).flatten) (by rw [hrl, List.length_append, hfl]; omega)
          (by intro v hv; obtain ⟨l, hl, hvl⟩ := List.mem_flatten.1 hv; rw [List.eq_of_mem_replicate hl] at hvl; exact List.all_eq_true.1 hzo v hvl) X.P
        rw [pset_single] at hm'
        have hput : putAt (ls.flatten ++ sp) (k * n) (List.replicate (ls.length - k) zs).flatten = (ls.take k).flatten ++ ((List.replicate (ls.length - k) zs).flatten ++ sp) := by
          unfold putAt
          have htk : (ls.take k).flatten.length = k * n := by
            rw [flatten_length fun l hl => (h1 l (List.mem_of_mem_take hl)).1, List.length_take]; congr 1; omega
          have e1 : (ls.flatten ++ sp).take (k * n) = (ls.take k).flatten := by
            conv => lhs; rw [← List.take_append_drop k ls, List.flatten_append, List.append_assoc]
            rw [List.take_append_of_le_length (by omega), List.take_of_length_le (by omega)]
          have e2 : (ls.flatten ++ sp).drop (k * n + (List.replicate (ls.length - k) zs).flatten.length) = sp := by
            rw [hrl, hkn, ← hfl, List.drop_left]
          rw [e1, e2, List.append_assoc]
        refine ⟨w', _, ?_, ?_, hm'⟩
        · rw [hsub]
          obtain ⟨m, hm2⟩ : ∃ m, ls.length - k = m + 1 := ⟨ls.length - k - 1, by omega⟩
          have hzr := zeroCells_rep hzc (ls.length - k)
          rw [hm2] at hzr hr ⊢
          simp only [Builtin.clear_, Sem.run_bind, run_underlying ht, Result.andThen_ok, hrun w, Sem.run_pure, List.getElem?_toArray, List.getElem?_cons_zero]
          rw [hzr, hr]
          rfl
        · refine ⟨fun l hl => h1 l (List.mem_of_mem_take hl), by rw [List.length_take]; omega, h3, rfl, rfl, (List.replicate (ls.length - k) zs).flatten ++ sp, by rw [hput], ?_⟩
          rw [← hput, length_putAt (by rw [hrl, List.length_append, hfl]; omega)]
          exact h7
  obtain ⟨w', H', hr, hO', hm'⟩ := run
  unfold Oper.wp
  have : (execOp a.eval o).run X.P w = .ok (.value (.tuple #[])) w' := by
    simp only [execOp, ho, resolve, Sem.run_bind, Sem.run_pure, Result.andThen_ok, invoke, builtin, eval1 hx a ha, hty]
    rw [hr]; rfl
  rw [this]
  exact hK _ _ w' ⟨rfl, H', hO', rfl⟩ hm'

/-- 'append(nil, make([]T, n)...)' -/
theorem Eff.appendZ {e n by_ : Nat} (tc : Nat) {Tn : TypeId} {kn k : IntKind} {m : Nat} {zs : List Value} (ht : X.P.underlying T = some (.slice e)) (htn : X.P.underlying Tn = some (.int kn)) (he : el X.P e n by_) (hz : zc X.P e zs) (hzo : zs.all (·.oneCell') = true) (hx : ev σ x = some (.slice none 0 0)) (hy : ev σ y = some (.int k (m : Nat)))
    (h0 : 0 < m) (hn : 0 < n) (hb : m * by_ ≤ 281474976710656) (hmax : m ≤ maxLen) :
    Eff X (.call { callee := .builtin .append, args := #[x, y], argTypes := #[T, Tn] }) ty σ L (fun v L' => ∃ H' p' c', v = .slice p' m c' ∧ Own H' p' c' e n (List.replicate m zs) ∧ L' = (tc, H') :: L) := fun a w ha hmm o ho hty K Q hK => by
  obtain ⟨i, z, hi, hz0, hz1, hz2, hz3⟩ := he
  obtain ⟨z', hzc, hrun'⟩ := hz.run
  have hzz : z' = z := by
    have := hrun' w
    simp [zeroValue, typeInfo, hi, hz0] at this
    exact this.symm
  subst hzz
  have hzl : zs.length = n := by have := hz2; rw [hzc] at this; simpa using this
  have hr := Go.Lib.run_append_nil_zeros (P := X.P) w T Tn ty e i z' k kn ht htn hi hz0 m h0 (by omega) (by simp only [maxLen] at hmax; omega) (by rw [hz3]; exact hb)
  have hge := grownCap_ge w m 0 e
  have hle := grownCap_le_maxLen w m 0 e hmax
  unfold Oper.wp
  have : (execOp a.eval o).run X.P w = .ok (.value (.slice (some ⟨w.heap.size, 0, none⟩) m (grownCap w m 0 e))) (w.drew.alloc (.cells (Builtin.zeroCells z'.cells m ++ Builtin.zeroCells z'.cells (grownCap w m 0 e - m)) e)) := by
    simp only [execOp, ho, resolve, Sem.run_bind, Sem.run_pure, Result.andThen_ok, invoke, builtin, eval2 hx hy a ha, hty]
    rw [hr]; rfl
  rw [this]
  have hcells : (Builtin.zeroCells z'.cells m ++ Builtin.zeroCells z'.cells (grownCap w m 0 e - m)) = ((List.replicate m zs).flatten ++ (List.replicate (grownCap w m 0 e - m) zs).flatten).toArray := by
    apply Array.ext'
    rw [Array.toList_append, zeroCells_rep hzc, zeroCells_rep hzc]
  rw [hcells]
  refine hK _ _ _ ⟨_, _, _, rfl, ⟨fun l hl => ?_, by simpa using hge, hle, rfl, rfl, (List.replicate (grownCap w m 0 e - m) zs).flatten, rfl, ?_⟩, rfl⟩ (hmm.drew.alloc tc _)
  · rw [List.eq_of_mem_replicate hl]
    exact ⟨hzl, List.all_eq_true.1 hzo⟩
  · rw [← List.flatten_append, List.replicate_append_replicate, show m + (grownCap w m 0 e - m) = grownCap w m 0 e by omega]
    simp [hzl]
end

/-- 'append' at rows that are encodings -/
theorem Eff.appendE {X : Cx} {σ : Loc} {L : Sh} {ty T : TypeId} {x y : Operand} {α : Type} (enc : α → List Value) {e n by_ tc sc : Nat} {p q : Option Addr} {c d len1 len2 : Nat} {H G : PH} {ls ms : List α} (ht : X.P.underlying T = some (.slice e)) (he : el X.P e n by_) (hx : ev σ x = some (.slice p len1 c)) (hy : ev σ y = some (.slice q len2 d))
    (hL : lk L tc = some H) (hG : lk L sc = some G) (hO : Own H p c e n (ls.map enc)) (hl1 : len1 = ls.length) (hS : Sl G q d n (ms.map enc)) (hl2 : len2 = ms.length) (h1 : ∀ a ∈ ms, ∀ v ∈ enc a, v.oneCell' = true) (hn : 0 < n) (hb : (ls.length + ms.length) * by_ ≤ 140737488355328) (hmax : ls.length + ms.length ≤ maxLen) :
    Eff X (.call { callee := .builtin .append, args := #[x, y], argTypes := #[T, T] }) ty σ L (fun v L' => ∃ H' p' c', v = .slice p' (ls ++ ms).length c' ∧ Own H' p' c' e n ((ls ++ ms).map enc) ∧ L' = (tc, H') :: L) := fun a w ha hm o ho hty K Q hK =>
  Eff.append (σ := σ) (tc := tc) (sc := sc) ht he hx hy hL hG hO (by simpa using hl1) hS (by simpa using hl2) (fun l hl v hv => by obtain ⟨a, ha, rfl⟩ := List.mem_map.1 hl; exact h1 a ha v hv) hn (by simpa using hb) (by simpa using hmax) a w ha hm o ho hty K Q
    fun v L' w' ⟨H', p', c', hv, hO', hL'⟩ hm' => hK v L' w' ⟨H', p', c', by rw [hv]; simp, by rw [List.map_append]; exact hO', hL'⟩ hm'

theorem BinV.eqlSN {P : Program} {T e : TypeId} {p : Option Addr} {n c : Nat} (h : P.underlying T = some (.slice e)) : BinV P .eql T (.slice p n c) (.slice none 0 0) (.bool p.isNone) := fun w r s => by
  rw [Sem.run_bind, eqGuard_at_slice]
  cases p with
  | none => simpa using Go.Lib.run_eql_slice_nil w T e none n c 0 0 h
  | some a => simpa using Go.Lib.run_eql_slice_nil w T e (some a) n c 0 0 h

/-! ### lists of integers -/
def iz (l : List Int) : List (List Value) := l.map fun z => [.int .i64 z]
@[simp] theorem iz_len (l : List Int) : (iz l).length = l.length := by simp [iz]
theorem iz_get {l : List Int} {i : Nat} {z : Int} (h : l[i]? = some z) : (iz l)[i]? = some [.int .i64 z] := by simp [iz, h]
theorem iz_at {l : List Int} {i : Nat} (h : i < l.length) : ∃ z, l[i]? = some z ∧ (iz l)[i]? = some [.int .i64 z] := ⟨l[i], List.getElem?_eq_getElem h, iz_get (List.getElem?_eq_getElem h)⟩
theorem iz_getD {l : List Int} {i : Nat} (h : i < l.length) : (iz l)[i]? = some [.int .i64 (l.getD i 0)] := iz_get (by rw [List.getD_eq_getElem?_getD, List.getElem?_eq_getElem h]; rfl)
theorem iz_none {b e : Nat} {cs : List Value} (hcs : cs = []) : Own (single b (.cells cs.toArray e (0, 0))) (some ⟨b, 0, none⟩) 0 e 1 (iz []) := Own.none0 hcs
theorem iz_single {b e : Nat} {z : Int} {cs : List Value} (hcs : cs = [.int .i64 z]) : Sl (single b (.cells cs.toArray e (0, 0))) (some ⟨b, 0, none⟩) 1 1 (iz [z]) := (Own.one (l := [Value.int .i64 z]) rfl (by simp [Value.oneCell']) hcs).sl
theorem iz_one1 : ∀ (l : List Int), ∀ a ∈ l, ∀ v ∈ [Value.int .i64 a], v.oneCell' = true := fun l a _ v hv => by simp only [List.mem_singleton] at hv; subst hv; rfl
theorem iz_app (l m : List Int) : iz (l ++ m) = iz l ++ iz m := by simp [iz]
theorem iz_take (l : List Int) (k : Nat) : iz (l.take k) = (iz l).take k := by simp [iz, List.map_take]
theorem iz_drop (l : List Int) (k : Nat) : iz (l.drop k) = (iz l).drop k := by simp [iz, List.map_drop]
theorem iz_set (l : List Int) (k : Nat) (z : Int) : iz (l.set k z) = (iz l).set k [.int .i64 z] := by simp [iz, List.map_set]
theorem iz_one (l : List Int) : ∀ r ∈ iz l, ∀ v ∈ r, v.oneCell' = true := by
  intro r hr v hv
  obtain ⟨z, _, rfl⟩ := List.mem_map.1 hr
  simp only [List.mem_singleton] at hv
  subst hv; rfl
end Go.Proofs.Ytbgppnkccbhbpaa.SL
