/-
  Ranges over maps: the iterator is a piece of its own; what it has handed out is a list of keys.
-/
import Derived.Test.YtbgppnkccbhbpaaSlSrt
import Derived.Maps.RangeRun
namespace Go.Proofs.Ytbgppnkccbhbpaa.SL
set_option linter.unusedVariables false
set_option linter.unusedSectionVars false
open Go.RowKit

section
variable {κ : Type} [DecidableEq κ]

/-- the iterator has handed out the entries of the keys 'done' -/
structure ItP (es : Array MapEntry) (ck since last : Nat) (seen : Array Nat) (m : List (κ × Value)) (done : List κ) : Prop where
  hold : ∀ x ∈ es.toList, x.born < since
  sc : since ≤ last
  ck : since ≤ ck
  rel : ∀ (i : Nat) (e : MapEntry) (p : κ × Value), es[i]? = some e → m[i]? = some p → (seen.contains e.born = true ↔ p.1 ∈ done)

/-- the entry that was handed out last -/
def LastE (es : Array MapEntry) (seen : Array Nat) (key val : Value) : Prop := ∃ e ∈ es.toList, e.key = key ∧ e.val = val ∧ ∃ s0 : Array Nat, seen = s0.push e.born

theorem ItP.start {enc : κ → Value} {es : Array MapEntry} {ck : Nat} {m : List (κ × Value)} (h : MapP enc es ck m) : ItP es ck ck ck #[] m [] :=
  ⟨h.clock, Nat.le_refl _, Nat.le_refl _, fun i e p _ _ => by simp⟩

theorem MapP.at {enc : κ → Value} {es : Array MapEntry} {ck : Nat} {m : List (κ × Value)} (h : MapP enc es ck m) {i : Nat} {e : MapEntry} (he : es[i]? = some e) : ∃ p, m[i]? = some p ∧ e.key = enc p.1 ∧ e.val = p.2 := by
  have h1 := congrArg (fun l => l[i]?) h.eq
  simp only [List.getElem?_map] at h1
  have he' : es.toList[i]? = some e := by simpa using he
  rw [he'] at h1
  cases hp : m[i]? with
  | none => rw [hp] at h1; simp at h1
  | some p =>
    rw [hp] at h1
    simp only [Option.map_some, Option.some.injEq, Prod.mk.injEq] at h1
    exact ⟨p, rfl, h1.1, h1.2⟩
theorem MapP.at' {enc : κ → Value} {es : Array MapEntry} {ck : Nat} {m : List (κ × Value)} (h : MapP enc es ck m) {i : Nat} {p : κ × Value} (hp : m[i]? = some p) : ∃ e, es[i]? = some e ∧ e.key = enc p.1 ∧ e.val = p.2 := by
  have hlt : i < es.size := by rw [h.length]; exact (List.getElem?_eq_some_iff.1 hp).1
  obtain ⟨q, hq, h1, h2⟩ := h.at (Array.getElem?_eq_getElem hlt)
  rw [hp] at hq; cases hq
  exact ⟨_, Array.getElem?_eq_getElem hlt, h1, h2⟩

theorem mget_at {m : List (κ × Value)} (hn : (m.map (·.1)).Nodup) {i : Nat} {p : κ × Value} (hp : m[i]? = some p) : mget m p.1 = some p.2 := by
  induction m generalizing i with
  | nil => simp at hp
  | cons q m ih =>
    obtain ⟨k, v⟩ := q
    rw [List.map_cons, List.nodup_cons] at hn
    cases i with
    | zero => simp at hp; subst hp; simp [mget]
    | succ i =>
      have hp' : m[i]? = some p := by simpa using hp
      have hne : k ≠ p.1 := fun e => hn.1 (by rw [e]; exact List.mem_map.2 ⟨p, List.mem_of_getElem? hp', rfl⟩)
      simp only [mget]
      rw [if_neg (by simpa using hne)]
      exact ih hn.2 hp'

/-- what 'next' hands out -/
def nxV (enc : κ → Value) : Option (κ × Value) → List Value
  | none => [.bool false]
  | some (k, u) => [.bool true, enc k, u]
def NxS (enc : κ → Value) (es : Array MapEntry) (ck since : Nat) (m : List (κ × Value)) (done : List κ) : Option (κ × Value) → Array Nat → Nat → Prop
  | none, _, _ => ∀ p ∈ m, p.1 ∈ done
  | some (k, u), seen', last' => mget m k = some u ∧ k ∉ done ∧ ItP es ck since ck seen' m (k :: done) ∧ LastE es seen' (enc k) u ∧ last' = ck
theorem nxV_ok (enc : κ → Value) (n : Option (κ × Value)) : (nxV enc n)[0]? = some (.bool n.isSome) := by cases n <;> rfl

/-- how many entries are still to come -/
def leftN (m : List (κ × Value)) (done : List κ) : Nat := (m.filter fun p => !decide (p.1 ∈ done)).length
theorem leftN_next {m : List (κ × Value)} {k : κ} {u : Value} {done : List κ} (h : mget m k = some u) (hk : k ∉ done) : leftN m (k :: done) < leftN m done := by
  have hm := mget_mem h
  unfold leftN
  have hsub : (m.filter fun p => !decide (p.1 ∈ k :: done)) = (m.filter fun p => !decide (p.1 ∈ done)).filter fun p => !decide (p.1 = k) := by
    rw [List.filter_filter]
    apply List.filter_congr
    intro p _
    by_cases h1 : p.1 = k <;> by_cases h2 : p.1 ∈ done <;> simp [h1, h2]
  rw [hsub]
  exact List.length_filter_lt_length_iff_exists.2 ⟨(k, u), by rw [List.mem_filter]; exact ⟨hm, by simp [hk]⟩, by simp⟩
theorem mdel_sub (m : List (κ × Value)) (k : κ) : (mdel m k).Sublist m := by
  cases h : mget m k with
  | none => rw [mdel_none h]; exact List.Sublist.refl _
  | some u => rw [mdel_some h]; exact List.eraseIdx_sublist _ _
theorem leftN_del (m : List (κ × Value)) (k : κ) (done : List κ) : leftN (mdel m k) done ≤ leftN m done := ((mdel_sub m k).filter _).length_le

theorem ItP.del {es : Array MapEntry} {ck since last : Nat} {seen : Array Nat} {m : List (κ × Value)} {done : List κ} (h : ItP es ck since last seen m done) (j : Nat) (hl : es.size = m.length) : ItP (es.eraseIdxIfInBounds j) ck since last seen (m.eraseIdx j) done := by
  have hes : (es.eraseIdxIfInBounds j).toList = es.toList.eraseIdx j := by
    unfold Array.eraseIdxIfInBounds
    split
    · simp
    · rename_i hj; rw [List.eraseIdx_of_length_le (by simpa using hj)]
  refine ⟨fun x hx => ?_, h.sc, h.ck, fun i e p he hp => ?_⟩
  · rw [hes] at hx; exact h.hold x (List.mem_of_mem_eraseIdx hx)
  · have he' : (es.toList.eraseIdx j)[i]? = some e := by rw [← hes, Array.getElem?_toList]; exact he
    rw [List.getElem?_eraseIdx] at he' hp
    by_cases hij : i < j
    · rw [if_pos hij] at he' hp; exact h.rel i e p (by simpa using he') hp
    · rw [if_neg hij] at he' hp; exact h.rel (i + 1) e p (by simpa using he') hp

section
variable {X : Cx} {σ : Loc} {L : Sh} {ty T : TypeId} {x y : Operand}

/-- a field of a struct's value -/
theorem Yld.field {fs : Array Field} {f : Field} {i : Nat} {cs : List Value} {v : Value} (ht : X.P.underlying T = some (.struct fs)) (hf : fs[i]? = some f) (hx : ev σ x = some (.agg cs.toArray)) (hp : PartV X.P f.type cs f.offset v) : Yld X (.field T x i) ty σ L v :=
  Yld.of (fun ρ => Instr.field T (ρ x) i) (fun ρ o ho => by simp [execOp, ho]) fun a w ha hm => by
    rw [ha.ev hx]
    simp only [Instr.field, Sem.run_bind, run_underlying ht, Result.andThen_ok, hf, asAgg, Sem.run_pure]
    exact hp w

/-- 'delete(m, k)' while a range goes on -/
theorem Eff.deleteR {kt e c b : Nat} {enc : κ → Value} {k : κ} {es : Array MapEntry} {clock since last : Nat} {seen : Array Nat} {m : List (κ × Value)} {done : List κ} {t2 : TypeId} (ht : X.P.underlying T = some (.map kt e)) (K : KeyOK X.P kt enc) (hx : ev σ x = some (.map (some b))) (hy : ev σ y = some (enc k))
    (hL : lk L c = some (single b (.map es clock))) (hM : MapP enc es clock m) (hI : ItP es clock since last seen m done) : Eff X (.call { callee := .builtin .delete, args := #[x, y], argTypes := #[T, t2] }) ty σ L (fun v L' => v = .tuple #[] ∧ ∃ es', MapP enc es' clock (mdel m k) ∧ ItP es' clock since last seen (mdel m k) done ∧ L' = (c, single b (.map es' clock)) :: L) := fun a w ha hm o ho hty Kk Q hK => by
  have hb := hm.sub c _ hL b _ (single_self _ _)
  have hrun : ∃ w' es', (Builtin.delete_ #[T, t2] ty #[.map (some b), enc k]).run X.P w = .ok (.tuple #[]) w' ∧ MapP enc es' clock (mdel m k) ∧ ItP es' clock since last seen (mdel m k) done ∧ Mem X.E ((c, single b (.map es' clock)) :: L) w' := by
    cases h : mget m k with
    | none =>
      refine ⟨_, es, ?_, by rw [mdel_none h]; exact hM, by rw [mdel_none h]; exact hI, hm.setMap hL _⟩
      simp only [Builtin.delete_, List.getElem?_toArray, List.getElem?_cons_zero, List.getElem?_cons_succ, Sem.run_bind, run_underlying ht, Result.andThen_ok, run_getObj_map hb, K.check, K.find k es.toList m w hM.eq, h, Option.map_none, run_setObj_map hb, Sem.run_pure]
    | some u =>
      refine ⟨_, _, ?_, hM.del k h, by rw [mdel_some h]; exact hI.del _ hM.length, hm.setMap hL _⟩
      simp only [Builtin.delete_, List.getElem?_toArray, List.getElem?_cons_zero, List.getElem?_cons_succ, Sem.run_bind, run_underlying ht, Result.andThen_ok, run_getObj_map hb, K.check, K.find k es.toList m w hM.eq, h, Option.map_some, run_setObj_map hb, Sem.run_pure]
  obtain ⟨w', es', hr, hM', hI', hm'⟩ := hrun
  unfold Oper.wp
  have : (execOp a.eval o).run X.P w = .ok (.value (.tuple #[])) w' := by
    simp only [execOp, ho, resolve, Sem.run_bind, Sem.run_pure, Result.andThen_ok, invoke, builtin, eval2 hx hy a ha, hty]
    rw [hr]; rfl
  rw [this]
  exact hK _ _ w' ⟨rfl, es', hM', hI', rfl⟩ hm'

theorem Eff.range {kt e c b : Nat} {es : Array MapEntry} {ck : Nat} (c' : Nat) (ht : X.P.underlying T = some (.map kt e)) (hx : ev σ x = some (.map (some b))) (hL : lk L c = some (single b (.map es ck))) :
    Eff X (.range T x) ty σ L (fun v L' => ∃ r, v = .pointer (some ⟨r, 0, none⟩) ∧ L' = (c', single r (.mapIter (some b) ck #[] ck)) :: L) :=
  Eff.val (fun ρ => Instr.range T (ρ x)) (fun ρ o ho => by simp [execOp, ho]) fun a w ha hm => by
    rw [ha.ev hx]
    have hb := hm.sub c _ hL b _ (single_self _ _)
    refine ⟨_, _, _, ?_, ⟨w.heap.size, rfl, rfl⟩, hm.alloc c' _⟩
    simp [Instr.range, run_underlying ht, run_getObj_map hb, newObj]
    rfl

theorem Eff.next {c c2 b r : Nat} {enc : κ → Value} {es : Array MapEntry} {ck since last : Nat} {seen : Array Nat} {m : List (κ × Value)} {done : List κ} (hx : ev σ x = some (.pointer (some ⟨r, 0, none⟩))) (hL : lk L c = some (single b (.map es ck))) (hL2 : lk L c2 = some (single r (.mapIter (some b) since seen last)))
    (hM : MapP enc es ck m) (hI : ItP es ck since last seen m done) :
    Eff X (.next x false) ty σ L (fun v L' => ∃ n seen' last', v = .tuple (nxV enc n).toArray ∧ NxS enc es ck since m done n seen' last' ∧ L' = (c2, single r (.mapIter (some b) since seen' last')) :: L) := fun a w ha hm o ho hty K Q hK => by
  have hb := hm.sub c _ hL b _ (single_self _ _)
  have hr := hm.sub c2 _ hL2 r _ (single_self _ _)
  have hexec : ∀ v w', (Instr.next (.pointer (some ⟨r, 0, none⟩)) false ty).run X.P w = .ok v w' → (execOp a.eval o).run X.P w = .ok (.value v) w' := fun v w' h => by
    simp only [execOp, ho, ha.ev hx, Sem.run_bind, hty]
    rw [h]; rfl
  unfold Oper.wp
  rcases run_next_at (P := X.P) w ty r b since last seen es ck hr hb hI.hold hI.sc with ⟨h0, hrun⟩ | ⟨e, he, w1, hw1, hrun⟩
  · rw [hexec _ _ hrun]
    refine hK _ _ w ⟨none, seen, last, rfl, fun p hp => ?_, rfl⟩ (hm.weak fun i J h => by
      rw [lk_cons] at h
      split at h
      · rename_i e'; cases h; rw [← e']; exact hL2
      · exact h)
    obtain ⟨i, hi⟩ := List.getElem?_of_mem hp
    obtain ⟨e, he, h1, h2⟩ := hM.at' hi
    refine (hI.rel i e p he hi).1 ?_
    cases hc : seen.contains e.born with
    | true => rfl
    | false =>
      have : e ∈ (leftOf es seen) := by
        unfold leftOf
        rw [Array.mem_filter]
        exact ⟨Array.mem_of_getElem? he, by rw [hc]; rfl⟩
      rw [Array.eq_empty_of_size_eq_zero h0] at this
      simp at this
  · rw [hexec _ _ hrun]
    have he' : e ∈ es ∧ seen.contains e.born = false := by
      have : e ∈ (leftOf es seen) := by simpa using he
      unfold leftOf at this
      rw [Array.mem_filter] at this
      exact ⟨this.1, by simpa using this.2⟩
    obtain ⟨i, hlt, hi⟩ := Array.getElem_of_mem he'.1
    have hi' : es[i]? = some e := by rw [Array.getElem?_eq_getElem hlt, hi]
    obtain ⟨p, hp, h1, h2⟩ := hM.at hi'
    have hnot : p.1 ∉ done := fun h => by
      have := (hI.rel i e p hi' hp).2 h
      rw [this] at he'; cases he'.2
    have hm1 : Mem X.E L w1 := by rcases hw1 with rfl | rfl; exact hm; exact hm.drew
    have hr1 : w1.heap[r]? = some (.mapIter (some b) since seen last) := by rcases hw1 with rfl | rfl <;> exact hr
    rw [h1, h2]
    refine hK _ _ _ ⟨some (p.1, p.2), seen.push e.born, ck, rfl, ⟨mget_at hM.nodup hp, hnot, ⟨hI.hold, hI.ck, hI.ck, fun j e2 q hj hq => ?_⟩, ⟨e, by simpa using he'.1, h1, h2, seen, rfl⟩, rfl⟩, rfl⟩ ?_
    · rw [List.mem_cons]
      constructor
      · intro h
        simp only [Array.contains_eq_mem, Array.mem_push, decide_eq_true_eq] at h
        rcases h with h | h
        · exact .inr ((hI.rel j e2 q hj hq).1 (by simpa [Array.contains_eq_mem] using h))
        · left
          have hij : j = i := by
            have hjl : es.toList[j]? = some e2 := by simpa using hj
            have hil : es.toList[i]? = some e := by simpa using hi'
            have hb := hM.born
            have hj2 : (es.toList.map (·.born))[j]? = some e2.born := by simp [hjl]
            have hi2 : (es.toList.map (·.born))[i]? = some e.born := by simp [hil]
            have hjlt := (List.getElem?_eq_some_iff.1 hj2).1
            exact (List.getElem?_inj hjlt hb).1 (by rw [hj2, hi2, h])
          subst hij
          rw [hp] at hq; cases hq; rfl
      · rintro (h | h)
        · have hij : j = i := by
            have hn := hM.nodup
            have hj2 : (m.map (·.1))[j]? = some q.1 := by simp [hq]
            have hi2 : (m.map (·.1))[i]? = some p.1 := by simp [hp]
            have hjlt := (List.getElem?_eq_some_iff.1 hj2).1
            exact (List.getElem?_inj hjlt hn).1 (by rw [hj2, hi2, h])
          subst hij
          rw [hi'] at hj; cases hj
          simp [Array.contains_eq_mem]
        · have := (hI.rel j e2 q hj hq).2 h
          simp only [Array.contains_eq_mem, Array.mem_push, decide_eq_true_eq] at this ⊢
          exact .inl this
    · refine hm1.set c2 (.inl hL2) ⟨rfl, rfl, by simp [ChangeMaps.setBlock], fun k hk hD => ?_⟩ (fun k y hk => ?_) (fun k y hk => ?_)
      · have : k ≠ r := fun e => hD ⟨_, by rw [e]; exact single_self _ _⟩
        simp only [ChangeMaps.setBlock]
        rw [Array.getElem?_setIfInBounds_ne (Ne.symm this)]
      · obtain ⟨rfl, rfl⟩ := single_inv hk
        have hlt := (Array.getElem?_eq_some_iff.1 hr1).1
        simp [ChangeMaps.setBlock, hlt]
      · obtain ⟨rfl, rfl⟩ := single_inv hk; exact .inl ⟨_, single_self _ _⟩

/-- the round's key and value -/
theorem Yld.entry {c c2 b r : Nat} {enc : κ → Value} {es : Array MapEntry} {ck since : Nat} {seen : Array Nat} {m : List (κ × Value)} {key val : Value} (hx : ev σ x = some (.pointer (some ⟨r, 0, none⟩))) (hL : lk L c = some (single b (.map es ck))) (hL2 : lk L c2 = some (single r (.mapIter (some b) since seen ck)))
    (hM : MapP enc es ck m) (hE : LastE es seen key val) : Yld X (.entry x) ty σ L (.tuple [key, val].toArray) := fun a w ha hm o ho _ => by
  obtain ⟨e, he, rfl, rfl, s0, rfl⟩ := hE
  have h := run_entry_at (P := X.P) w r b since s0 es ck e (hm.sub c2 _ hL2 r _ (single_self _ _)) (hm.sub c _ hL b _ (single_self _ _)) he hM.born
  simp only [execOp, ho, ha.ev hx, Sem.run_bind, h]
  rfl
end
end
end Go.Proofs.Ytbgppnkccbhbpaa.SL
