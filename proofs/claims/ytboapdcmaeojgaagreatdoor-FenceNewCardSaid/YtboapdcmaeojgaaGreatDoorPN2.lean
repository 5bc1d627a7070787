/- Several texts in one, in their build order: what the proofs of this seat share. -/
import Derived.Test.YtboapdcmaeojgaaGreatDoorPN1
import Derived.Maps.RangeRun
import Derived.Below
import GoSem.Core.Utf8
import Derived.Test.YtboapdcmaeojgaaGreatDoorRows
set_option linter.unusedVariables false
set_option linter.unusedSimpArgs false
set_option linter.unusedSectionVars false
/-
  Ranges over maps: the iterator is a piece of its own; what it has handed out is a list of keys.
-/
namespace Go.Proofs.YtboapdcmaeojgaaGreatDoor.SL
set_option linter.unusedVariables false
set_option linter.unusedSectionVars false
open Go.RowKit

section
variable {κ : Type} [DecidableEq κ]

/-- the iterator has handed out the entries of the keys 'done' -/
structure ItP (es : Array MapEntry) (ck since last : Nat) (seen : Array Nat) (m : List (κ × Value)) (done : List κ) : Prop where
  hold : ∀ x ∈ es.toList, x.born < since
  sc : since ≤ last
  ck : since ≤ ck
  rel : ∀ (i : Nat) (e : MapEntry) (p : κ × Value), es[i]? = some e → m[i]? = some p → (seen.contains e.born = true ↔ p.1 ∈ done)

/-- the entry that was handed out last -/
def LastE (es : Array MapEntry) (seen : Array Nat) (key val : Value) : Prop := ∃ e ∈ es.toList, e.key = key ∧ e.val = val ∧ ∃ s0 : Array Nat, seen = s0.push e.born

theorem ItP.start {enc : κ → Value} {es : Array MapEntry} {ck : Nat} {m : List (κ × Value)} (h : MapP enc es ck m) : ItP es ck ck ck #[] m [] :=
  ⟨h.clock, Nat.le_refl _, Nat.le_refl _, fun i e p _ _ => by simp⟩

theorem MapP.at {enc : κ → Value} {es : Array MapEntry} {ck : Nat} {m : List (κ × Value)} (h : MapP enc es ck m) {i : Nat} {e : MapEntry} (he : es[i]? = some e) : ∃ p, m[i]? = some p ∧ e.key = enc p.1 ∧ e.val = p.2 := by
  have h1 := congrArg (fun l => l[i]?) h.eq
  simp only [List.getElem?_map] at h1
  have he' : es.toList[i]? = some e := by simpa using he
  rw [he'] at h1
  cases hp : m[i]? with
  | none => rw [hp] at h1; simp at h1
  | some p =>
    rw [hp] at h1
    simp only [Option.map_some, Option.some.injEq, Prod.mk.injEq] at h1
    exact ⟨p, rfl, h1.1, h1.2⟩
theorem MapP.at' {enc : κ → Value} {es : Array MapEntry} {ck : Nat} {m : List (κ × Value)} (h : MapP enc es ck m) {i : Nat} {p : κ × Value} (hp : m[i]? = some p) : ∃ e, es[i]? = some e ∧ e.key = enc p.1 ∧ e.val = p.2 := by
  have hlt : i < es.size := by rw [h.length]; exact (List.getElem?_eq_some_iff.1 hp).1
  obtain ⟨q, hq, h1, h2⟩ := h.at (Array.getElem?_eq_getElem hlt)
  rw [hp] at hq; cases hq
  exact ⟨_, Array.getElem?_eq_getElem hlt, h1, h2⟩

theorem mget_at {m : List (κ × Value)} (hn : (m.map (·.1)).Nodup) {i : Nat} {p : κ × Value} (hp : m[i]? = some p) : mget m p.1 = some p.2 := by
  induction m generalizing i with
  | nil => simp at hp
  | cons q m ih =>
    obtain ⟨k, v⟩ := q
    rw [List.map_cons, List.nodup_cons] at hn
    cases i with
    | zero => simp at hp; subst hp; simp [mget]
    | succ i =>
      have hp' : m[i]? = some p := by simpa using hp
      have hne : k ≠ p.1 := fun e => hn.1 (by rw [e]; exact List.mem_map.2 ⟨p, List.mem_of_getElem? hp', rfl⟩)
      simp only [mget]
      rw [if_neg (by simpa using hne)]
      exact ih hn.2 hp'

/-- what 'next' hands out -/
def nxV (enc : κ → Value) : Option (κ × Value) → List Value
  | none => [.bool false]
  | some (k, u) => [.bool true, enc k, u]
def NxS (enc : κ → Value) (es : Array MapEntry) (ck since : Nat) (m : List (κ × Value)) (done : List κ) : Option (κ × Value) → Array Nat → Nat → Prop
  | none, _, _ => ∀ p ∈ m, p.1 ∈ done
  | some (k, u), seen', last' => mget m k = some u ∧ k ∉ done ∧ ItP es ck since ck seen' m (k :: done) ∧ LastE es seen' (enc k) u ∧ last' = ck
theorem nxV_ok (enc : κ → Value) (n : Option (κ × Value)) : (nxV enc n)[0]? = some (.bool n.isSome) := by cases n <;> rfl

/-- how many entries are still to come -/
def leftN (m : List (κ × Value)) (done : List κ) : Nat := (m.filter fun p => !decide (p.1 ∈ done)).length
theorem leftN_next {m : List (κ × Value)} {k : κ} {u : Value} {done : List κ} (h : mget m k = some u) (hk : k ∉ done) : leftN m (k :: done) < leftN m done := by
  have hm := mget_mem h
  unfold leftN
  have hsub : (m.filter fun p => !decide (p.1 ∈ k :: done)) = (m.filter fun p => !decide (p.1 ∈ done)).filter fun p => !decide (p.1 = k) := by
    rw [List.filter_filter]
    apply List.filter_congr
    intro p _
    by_cases h1 : p.1 = k <;> by_cases h2 : p.1 ∈ done <;> simp [h1, h2]
  rw [hsub]
  exact List.length_filter_lt_length_iff_exists.2 ⟨(k, u), by rw [List.mem_filter]; exact ⟨hm, by simp [hk]⟩, by simp⟩
theorem mdel_sub (m : List (κ × Value)) (k : κ) : (mdel m k).Sublist m := by
  cases h : mget m k with
  | none => rw [mdel_none h]; exact List.Sublist.refl _
  | some u => rw [mdel_some h]; exact List.eraseIdx_sublist _ _
theorem leftN_del (m : List (κ × Value)) (k : κ) (done : List κ) : leftN (mdel m k) done ≤ leftN m done := ((mdel_sub m k).filter _).length_le

theorem ItP.del {es : Array MapEntry} {ck since last : Nat} {seen : Array Nat} {m : List (κ × Value)} {done : List κ} (h : ItP es ck since last seen m done) (j : Nat) (hl : es.size = m.length) : ItP (es.eraseIdxIfInBounds j) ck since last seen (m.eraseIdx j) done := by
  have hes : (es.eraseIdxIfInBounds j).toList = es.toList.eraseIdx j := by
    unfold Array.eraseIdxIfInBounds
    split
    · simp
    · rename_i hj; rw [List.eraseIdx_of_length_le (by simpa using hj)]
  refine ⟨fun x hx => ?_, h.sc, h.ck, fun i e p he hp => ?_⟩
  · rw [hes] at hx; exact h.hold x (List.mem_of_mem_eraseIdx hx)
  · have he' : (es.toList.eraseIdx j)[i]? = some e := by rw [← hes, Array.getElem?_toList]; exact he
    rw [List.getElem?_eraseIdx] at he' hp
    by_cases hij : i < j
    · rw [if_pos hij] at he' hp; exact h.rel i e p (by simpa using he') hp
    · rw [if_neg hij] at he' hp; exact h.rel (i + 1) e p (by simpa using he') hp

section
variable {X : Cx} {σ : Loc} {L : Sh} {ty T : TypeId} {x y : Operand}

/-- a field of a struct's value -/
theorem Yld.field {fs : Array Field} {f : Field} {i : Nat} {cs : List Value} {v : Value} (ht : X.P.underlying T = some (.struct fs)) (hf : fs[i]? = some f) (hx : ev σ x = some (.agg cs.toArray)) (hp : PartV X.P f.type cs f.offset v) : Yld X (.field T x i) ty σ L v :=
  Yld.of (fun ρ => Instr.field T (ρ x) i) (fun ρ o ho => by simp [execOp, ho]) fun a w ha hm => by
    rw [ha.ev hx]
    simp only [Instr.field, Sem.run_bind, run_underlying ht, Result.andThen_ok, hf, asAgg, Sem.run_pure]
    exact hp w

/-- 'delete(m, k)' while a range goes on -/
theorem Eff.deleteR {kt e c b : Nat} {enc : κ → Value} {k : κ} {es : Array MapEntry} {clock since last : Nat} {seen : Array Nat} {m : List (κ × Value)} {done : List κ} {t2 : TypeId} (ht : X.P.underlying T = some (.map kt e)) (K : KeyOK X.P kt enc) (hx : ev σ x = some (.map (some b))) (hy : ev σ y = some (enc k))
    (hL : lk L c = some (single b (.map es clock))) (hM : MapP enc es clock m) (hI : ItP es clock since last seen m done) : Eff X (.call { callee := .builtin .delete, args := #[x, y], argTypes := #[T, t2] }) ty σ L (fun v L' => v = .tuple #[] ∧ ∃ es', MapP enc es' clock (mdel m k) ∧ ItP es' clock since last seen (mdel m k) done ∧ L' = (c, single b (.map es' clock)) :: L) := fun a w ha hm o ho hty Kk Q hK => by
  have hb := hm.sub c _ hL b _ (single_self _ _)
  have hrun : ∃ w' es', (Builtin.delete_ #[T, t2] ty #[.map (some b), enc k]).run X.P w = .ok (.tuple #[]) w' ∧ MapP enc es' clock (mdel m k) ∧ ItP es' clock since last seen (mdel m k) done ∧ Mem X.E ((c, single b (.map es' clock)) :: L) w' := by
    cases h : mget m k with
    | none =>
      refine ⟨_, es, ?_, by rw [mdel_none h]; exact hM, by rw [mdel_none h]; exact hI, hm.setMap hL _⟩
      simp only [Builtin.delete_, List.getElem?_toArray, List.getElem?_cons_zero, List.getElem?_cons_succ, Sem.run_bind, run_underlying ht, Result.andThen_ok, run_getObj_map hb, K.check, K.find k es.toList m w hM.eq, h, Option.map_none, run_setObj_map hb, Sem.run_pure]
    | some u =>
      refine ⟨_, _, ?_, hM.del k h, by rw [mdel_some h]; exact hI.del _ hM.length, hm.setMap hL _⟩
      simp only [Builtin.delete_, List.getElem?_toArray, List.getElem?_cons_zero, List.getElem?_cons_succ, Sem.run_bind, run_underlying ht, Result.andThen_ok, run_getObj_map hb, K.check, K.find k es.toList m w hM.eq, h, Option.map_some, run_setObj_map hb, Sem.run_pure]
  obtain ⟨w', es', hr, hM', hI', hm'⟩ := hrun
  unfold Oper.wp
  have : (execOp a.eval o).run X.P w = .ok (.value (.tuple #[])) w' := by
    simp only [execOp, ho, resolve, Sem.run_bind, Sem.run_pure, Result.andThen_ok, invoke, builtin, eval2 hx hy a ha, hty]
    rw [hr]; rfl
  rw [this]
  exact hK _ _ w' ⟨rfl, es', hM', hI', rfl⟩ hm'

theorem Eff.range {kt e c b : Nat} {es : Array MapEntry} {ck : Nat} (c' : Nat) (ht : X.P.underlying T = some (.map kt e)) (hx : ev σ x = some (.map (some b))) (hL : lk L c = some (single b (.map es ck))) :
    Eff X (.range T x) ty σ L (fun v L' => ∃ r, v = .pointer (some ⟨r, 0, none⟩) ∧ L' = (c', single r (.mapIter (some b) ck #[] ck)) :: L) :=
  Eff.val (fun ρ => Instr.range T (ρ x)) (fun ρ o ho => by simp [execOp, ho]) fun a w ha hm => by
    rw [ha.ev hx]
    have hb := hm.sub c _ hL b _ (single_self _ _)
    refine ⟨_, _, _, ?_, ⟨w.heap.size, rfl, rfl⟩, hm.alloc c' _⟩
    simp [Instr.range, run_underlying ht, run_getObj_map hb, newObj]
    rfl

theorem Eff.next {c c2 b r : Nat} {enc : κ → Value} {es : Array MapEntry} {ck since last : Nat} {seen : Array Nat} {m : List (κ × Value)} {done : List κ} (hx : ev σ x = some (.pointer (some ⟨r, 0, none⟩))) (hL : lk L c = some (single b (.map es ck))) (hL2 : lk L c2 = some (single r (.mapIter (some b) since seen last)))
    (hM : MapP enc es ck m) (hI : ItP es ck since last seen m done) :
    Eff X (.next x false) ty σ L (fun v L' => ∃ n seen' last', v = .tuple (nxV enc n).toArray ∧ NxS enc es ck since m done n seen' last' ∧ L' = (c2, single r (.mapIter (some b) since seen' last')) :: L) := fun a w ha hm o ho hty K Q hK => by
  have hb := hm.sub c _ hL b _ (single_self _ _)
  have hr := hm.sub c2 _ hL2 r _ (single_self _ _)
  have hexec : ∀ v w', (Instr.next (.pointer (some ⟨r, 0, none⟩)) false ty).run X.P w = .ok v w' → (execOp a.eval o).run X.P w = .ok (.value v) w' := fun v w' h => by
    simp only [execOp, ho, ha.ev hx, Sem.run_bind, hty]
    rw [h]; rfl
  unfold Oper.wp
  rcases run_next_at (P := X.P) w ty r b since last seen es ck hr hb hI.hold hI.sc with ⟨h0, hrun⟩ | ⟨e, he, w1, hw1, hrun⟩
  · rw [hexec _ _ hrun]
    refine hK _ _ w ⟨none, seen, last, rfl, fun p hp => ?_, rfl⟩ (hm.weak fun i J h => by
      rw [lk_cons] at h
      split at h
      · rename_i e'; cases h; rw [← e']; exact hL2
      · exact h)
    obtain ⟨i, hi⟩ := List.getElem?_of_mem hp
    obtain ⟨e, he, h1, h2⟩ := hM.at' hi
    refine (hI.rel i e p he hi).1 ?_
    cases hc : seen.contains e.born with
    | true => rfl
    | false =>
      have : e ∈ (leftOf es seen) := by
        unfold leftOf
        rw [Array.mem_filter]
        exact ⟨Array.mem_of_getElem? he, by rw [hc]; rfl⟩
      rw [Array.eq_empty_of_size_eq_zero h0] at this
      simp at this
  · rw [hexec _ _ hrun]
    have he' : e ∈ es ∧ seen.contains e.born = false := by
      have : e ∈ (leftOf es seen) := by simpa using he
      unfold leftOf at this
      rw [Array.mem_filter] at this
      exact ⟨this.1, by simpa using this.2⟩
    obtain ⟨i, hlt, hi⟩ := Array.getElem_of_mem he'.1
    have hi' : es[i]? = some e := by rw [Array.getElem?_eq_getElem hlt, hi]
    obtain ⟨p, hp, h1, h2⟩ := hM.at hi'
    have hnot : p.1 ∉ done := fun h => by
      have := (hI.rel i e p hi' hp).2 h
      rw [this] at he'; cases he'.2
    have hm1 : Mem X.E L w1 := by rcases hw1 with rfl | rfl; exact hm; exact hm.drew
    have hr1 : w1.heap[r]? = some (.mapIter (some b) since seen last) := by rcases hw1 with rfl | rfl <;> exact hr
    rw [h1, h2]
    refine hK _ _ _ ⟨some (p.1, p.2), seen.push e.born, ck, rfl, ⟨mget_at hM.nodup hp, hnot, ⟨hI.hold, hI.ck, hI.ck, fun j e2 q hj hq => ?_⟩, ⟨e, by simpa using he'.1, h1, h2, seen, rfl⟩, rfl⟩, rfl⟩ ?_
    · rw [List.mem_cons]
      constructor
      · intro h
        simp only [Array.contains_eq_mem, Array.mem_push, decide_eq_true_eq] at h
        rcases h with h | h
        · exact .inr ((hI.rel j e2 q hj hq).1 (by simpa [Array.contains_eq_mem] using h))
        · left
          have hij : j = i := by
            have hjl : es.toList[j]? = some e2 := by simpa using hj
            have hil : es.toList[i]? = some e := by simpa using hi'
            have hb := hM.born
            have hj2 : (es.toList.map (·.born))[j]? = some e2.born := by simp [hjl]
            have hi2 : (es.toList.map (·.born))[i]? = some e.born := by simp [hil]
            have hjlt := (List.getElem?_eq_some_iff.1 hj2).1
            exact (List.getElem?_inj hjlt hb).1 (by rw [hj2, hi2, h])
          subst hij
          rw [hp] at hq; cases hq; rfl
      · rintro (h | h)
        · have hij : j = i := by
            have hn := hM.nodup
            have hj2 : (m.map (·.1))[j]? = some q.1 := by simp [hq]
            have hi2 : (m.map (·.1))[i]? = some p.1 := by simp [hp]
            have hjlt := (List.getElem?_eq_some_iff.1 hj2).1
            exact (List.getElem?_inj hjlt hn).1 (by rw [hj2, hi2, h])
          subst hij
          rw [hi'] at hj; cases hj
          simp [Array.contains_eq_mem]
        · have := (hI.rel j e2 q hj hq).2 h
          simp only [Array.contains_eq_mem, Array.mem_push, decide_eq_true_eq] at this ⊢
          exact .inl this
    · refine hm1.set c2 (.inl hL2) ⟨rfl, rfl, by simp [ChangeMaps.setBlock], fun k hk hD => ?_⟩ (fun k y hk => ?_) (fun k y hk => ?_)
      · have : k ≠ r := fun e => hD ⟨_, by rw [e]; exact single_self _ _⟩
        simp only [ChangeMaps.setBlock]
        rw [Array.getElem?_setIfInBounds_ne (Ne.symm this)]
      · obtain ⟨rfl, rfl⟩ := single_inv hk
        have hlt := (Array.getElem?_eq_some_iff.1 hr1).1
        simp [ChangeMaps.setBlock, hlt]
      · obtain ⟨rfl, rfl⟩ := single_inv hk; exact .inl ⟨_, single_self _ _⟩

/-- the round's key and value -/
theorem Yld.entry {c c2 b r : Nat} {enc : κ → Value} {es : Array MapEntry} {ck since : Nat} {seen : Array Nat} {m : List (κ × Value)} {key val : Value} (hx : ev σ x = some (.pointer (some ⟨r, 0, none⟩))) (hL : lk L c = some (single b (.map es ck))) (hL2 : lk L c2 = some (single r (.mapIter (some b) since seen ck)))
    (hM : MapP enc es ck m) (hE : LastE es seen key val) : Yld X (.entry x) ty σ L (.tuple [key, val].toArray) := fun a w ha hm o ho _ => by
  obtain ⟨e, he, rfl, rfl, s0, rfl⟩ := hE
  have h := run_entry_at (P := X.P) w r b since s0 es ck e (hm.sub c2 _ hL2 r _ (single_self _ _)) (hm.sub c _ hL b _ (single_self _ _)) he hM.born
  simp only [execOp, ho, ha.ev hx, Sem.run_bind, h]
  rfl
end
end
end Go.Proofs.YtboapdcmaeojgaaGreatDoor.SL
/-
  A store of what lies there already: the piece stays as it was.
-/
namespace Go.Proofs.YtboapdcmaeojgaaGreatDoor.SL
set_option linter.unusedVariables false
variable {X : Cx} {σ : Loc} {L : Sh} {ty T : TypeId} {x y : Operand}
theorem Eff.storeRowSame {p : Option Addr} {c e m j i tc k : Nat} {H : PH} {ls : List (List Value)} {l vs : List Value} {v : Value} (hn : sz X.P T k) (hx : ev σ x = some (.pointer (some ⟨(rowAt p (i * m)).block, (rowAt p (i * m)).off + j, none⟩))) (hy : ev σ y = some v) (hL : lk L tc = some H)
    (hO : Own H p c e m ls) (hl : ls[i]? = some l) (hv : v.cells = vs.toArray) (hvl : vs.length = k) (hj : Nat.ble (j + k) m = true) (h1 : vs.all (·.oneCell') = true) (hl' : putAt l j vs = l) :
    Eff X (.store T x y) ty σ L (fun _ L' => L' = L) := by
  have hjm := Nat.le_of_ble_eq_true hj
  obtain ⟨o1, o2, o3, o4⟩ := hO
  have hi := (List.getElem?_eq_some_iff.1 hl).1
  have hlen := (o1 l (List.mem_of_getElem? hl)).1
  cases p with
  | none => obtain ⟨rfl, _⟩ := o4; simp at hl
  | some a =>
    obtain ⟨a1, a2, sp, rfl, a4⟩ := o4
    have hput := flat_put (m := m) (sp := sp) (j := j) (vs := vs) (by omega) ls i l (fun l h => (o1 l h).1) hl
    have hsame : ls.set i l = ls := by
      apply List.ext_getElem?
      intro q
      rw [List.getElem?_set]
      by_cases e : i = q
      · subst e; rw [if_pos rfl, if_pos hi, hl]
      · rw [if_neg e]
    rw [hl', hsame] at hput
    have hflat := flatten_length (ls := ls) (n := m) (fun l h => (o1 l h).1)
    have hle : i * m + j + k ≤ (ls.flatten ++ sp).length := by
      rw [List.length_append, hflat]
      have : (i + 1) * m ≤ ls.length * m := Nat.mul_le_mul_right m hi
      rw [Nat.succ_mul] at this; omega
    have e0 : (rowAt (some a) (i * m)).off + j = i * m + j := by simp [a1]
    have := Eff.storeS (X := X) (σ := σ) (L := L) (ty := ty) (T := T) (x := x) (y := y) (b := a.block) (o := i * m + j) vs hn (by rw [hx]; simp [a1]) hy hL hv hvl (by rw [Nat.ble_eq]; exact hle) h1 hput
    refine fun a' w ha hm o ho ht K Q hK => this a' w ha hm o ho ht K Q ?_
    rintro u L' w' rfl hm'
    refine hK u _ w' rfl (hm'.weak fun q z hq => ?_)
    rw [lk_cons]
    split
    · rename_i e'; subst e'; rw [hL] at hq; exact hq
    · exact hq
end Go.Proofs.YtboapdcmaeojgaaGreatDoor.SL
/-
  Maps that are nil: held against nil, ranged over.
-/
namespace Go.Proofs.YtboapdcmaeojgaaGreatDoor.SL
set_option linter.unusedVariables false
section
variable {X : Cx} {σ : Loc} {L : Sh} {ty T : TypeId} {x y : Operand}
theorem BinV.eqlMN {P : Program} {T k e : TypeId} {r : Option Nat} (h : P.underlying T = some (.map k e)) : BinV P .eql T (.map r) (.map none) (.bool r.isNone) := fun w p q => by
  rw [Sem.run_bind, eqGuard_at_map]
  simpa using run_eql_map_nil w T k e r h
theorem BinV.neqMN {P : Program} {T k e : TypeId} {r : Option Nat} (h : P.underlying T = some (.map k e)) : BinV P .neq T (.map r) (.map none) (.bool r.isSome) := fun w p q => by
  rw [Sem.run_bind, eqGuard_at_map]
  cases r with
  | none => simpa using run_neq_map_nil w T k e none h
  | some b => simpa using run_neq_map_nil w T k e (some b) h
theorem Eff.rangeNil {kt e : Nat} (c' : Nat) (ht : X.P.underlying T = some (.map kt e)) (hx : ev σ x = some (.map none)) :
    Eff X (.range T x) ty σ L (fun v L' => ∃ r, v = .pointer (some ⟨r, 0, none⟩) ∧ L' = (c', single r (.mapIter none 0 #[] 0)) :: L) :=
  Eff.val (fun ρ => Instr.range T (ρ x)) (fun ρ o ho => by simp [execOp, ho]) fun a w ha hm => by
    rw [ha.ev hx]
    refine ⟨_, _, _, ?_, ⟨w.heap.size, rfl, rfl⟩, hm.alloc c' _⟩
    simp [Instr.range, run_underlying ht, newObj]
    rfl
theorem Eff.nextNil {c2 r : Nat} (hx : ev σ x = some (.pointer (some ⟨r, 0, none⟩))) (hL2 : lk L c2 = some (single r (.mapIter none 0 #[] 0))) :
    Eff X (.next x false) ty σ L (fun v L' => v = .tuple [.bool false].toArray ∧ L' = L) := fun a w ha hm o ho hty K Q hK => by
  have hr := hm.sub c2 _ hL2 r _ (single_self _ _)
  have hexec : (execOp a.eval o).run X.P w = .ok (.value (.tuple [.bool false].toArray)) w := by
    simp only [execOp, ho, ha.ev hx, Sem.run_bind]
    have : (Instr.next (.pointer (some ⟨r, 0, none⟩)) false o.type).run X.P w = .ok (.tuple #[.bool false]) w := by
      have hg : (getObj r).run X.P w = .ok (.mapIter none 0 #[] 0) w := by simp [getObj, Sem.run, hr]
      simp only [Instr.next, Sem.run_bind, hg]
      rfl
    rw [this]; rfl
  unfold Oper.wp
  rw [hexec]
  exact hK _ L w ⟨rfl, rfl⟩ hm
end
end Go.Proofs.YtboapdcmaeojgaaGreatDoor.SL
/-
  Pieces that become one, with what is known of both; contracts out of contracts on worlds.
-/
namespace Go.Proofs.YtboapdcmaeojgaaGreatDoor.SL
set_option linter.unusedVariables false
section
variable {X : Cx} {Q : Exit → Act → World → Prop} {σ : Loc} {L : Sh}
theorem Mem.apart {E : Env} {w : World} (hm : Mem E L w) {c c' : Nat} {G K : PH} (hG : lk L c = some G) (hK : lk L c' = some K) (hne : Nat.beq c' c = false) : ∀ b o, K b = some o → hjoin G K b = some o := fun b o h => by
  have hcc : c ≠ c' := fun e => by subst e; simp at hne
  unfold hjoin
  cases hg : G b with
  | none => exact h
  | some o' => exact (hm.dis c c' G K hcc hG hK b o' o hg h).elim
theorem hjoin_l {G K : PH} : ∀ b o, G b = some o → hjoin G K b = some o := fun b o h => by unfold hjoin; rw [h]
theorem N.merge {e : Exit} (c c' : Nat) {G K : PH} (hG : lk L c = some G) (hK : lk L c' = some K) (hne : Nat.beq c' c = false) (h : (∀ b o, K b = some o → hjoin G K b = some o) → N X Q e σ ((c, hjoin G K) :: (c', emp) :: L)) : N X Q e σ L :=
  fun a w ha hm => h (hm.apart hG hK hne) a w ha (Imp.merge hG hK hne _ _ hm)
theorem W.merge {y : Code} (c c' : Nat) {G K : PH} (hG : lk L c = some G) (hK : lk L c' = some K) (hne : Nat.beq c' c = false) (h : (∀ b o, K b = some o → hjoin G K b = some o) → W X y Q σ ((c, hjoin G K) :: (c', emp) :: L)) : W X y Q σ L :=
  fun a w ha hm => h (hm.apart hG hK hne) a w ha (Imp.merge hG hK hne _ _ hm)
end
/-- behind a call that turns nothing -/
theorem Mem.below {E : Env} {L : Sh} {w w' : World} (hm : Mem E L w) (h1 : w'.os = w.os) (h2 : w'.output = w.output) (h3 : w.heap.size ≤ w'.heap.size) (h4 : ∀ k, k < w.heap.size → w'.heap[k]? = w.heap[k]?) : Mem E L w' :=
  ⟨h1.trans hm.os, h2.trans hm.out, fun c H hc b o hb => by rw [h4 b (PH.sub_lt (hm.sub c H hc) hb)]; exact hm.sub c H hc b o hb, hm.dis⟩
end Go.Proofs.YtboapdcmaeojgaaGreatDoor.SL
/-
  Strings: a byte of one, and a range over one.
-/
namespace Go.Proofs.YtboapdcmaeojgaaGreatDoor.SL
set_option linter.unusedVariables false
section
variable {P : Program} {T : TypeId}
theorem equalIn_FN {ps rs : Array TypeId} {b : Bool} {f : Fn} {a c : Array Value} (d : Nat) (w : World) (h : P.underlying T = some (.func ps rs b)) : (Op.equalIn (d + 1) T (.func f a c) .nilFunc).run P w = .ok false w := by
  simp only [Op.equalIn, Sem.run_bind, run_underlying h, Result.andThen_ok]
  rfl
theorem equalIn_NN {ps rs : Array TypeId} {b : Bool} (d : Nat) (w : World) (h : P.underlying T = some (.func ps rs b)) : (Op.equalIn (d + 1) T .nilFunc .nilFunc).run P w = .ok true w := by
  simp only [Op.equalIn, Sem.run_bind, run_underlying h, Result.andThen_ok]
  rfl
theorem BinV.neqFN {ps rs : Array TypeId} {b : Bool} {f : Fn} {a c : Array Value} (h : P.underlying T = some (.func ps rs b)) : BinV P .neq T (.func f a c) .nilFunc (.bool true) := fun w p q => by
  rw [Sem.run_bind, eqGuard_at_func]
  simp only [binOp, Op.equal, Sem.run_bind, Sem.run_pure, Result.andThen_ok]
  rw [show Op.maxDepth = 9999 + 1 from rfl, equalIn_FN 9999 w h]
  rfl
theorem BinV.neqNN {ps rs : Array TypeId} {b : Bool} (h : P.underlying T = some (.func ps rs b)) : BinV P .neq T .nilFunc .nilFunc (.bool false) := fun w p q => by
  rw [Sem.run_bind, eqGuard_at_nilFunc]
  simp only [binOp, Op.equal, Sem.run_bind, Sem.run_pure, Result.andThen_ok]
  rw [show Op.maxDepth = 9999 + 1 from rfl, equalIn_NN 9999 w h]
  rfl
end
section
variable {X : Cx} {σ : Loc} {L : Sh} {ty T : TypeId} {x y : Operand}
theorem Yld.indexS {k : IntKind} {s : ByteArray} {i : Nat} {z : Int} (ht : X.P.underlying T = some .string) (hx : ev σ x = some (.string s)) (hy : ev σ y = some (.int k z)) (hz : z = (i : Int)) (hi : i < s.size) :
    Yld X (.index T x y) ty σ L (.int .u8 ((s.get! i).toNat : Int)) := fun a w ha hm o ho _ => by
  subst hz
  have hb : s[i]? = some (s.get! i) := by
    rw [getElem?_pos s i hi]
    congr 1
    simp [ByteArray.get!, ByteArray.getElem_eq_getElem_data, hi]
  simp only [execOp, ho, ha.ev hx, ha.ev hy, Instr.index, asIntOf, Sem.run_bind, Sem.run_pure, Result.andThen_ok, run_underlying ht]
  rw [if_pos (Int.natCast_nonneg _), Int.toNat_natCast, hb]
  rfl
theorem Eff.rangeS (c' : Nat) {s : ByteArray} (ht : X.P.underlying T = some .string) (hx : ev σ x = some (.string s)) :
    Eff X (.range T x) ty σ L (fun v L' => ∃ r, v = .pointer (some ⟨r, 0, none⟩) ∧ L' = (c', single r (.stringIter s 0)) :: L) :=
  Eff.val (fun ρ => Instr.range T (ρ x)) (fun ρ o ho => by simp [execOp, ho]) fun a w ha hm => by
    rw [ha.ev hx]
    refine ⟨_, _, _, ?_, ⟨w.heap.size, rfl, rfl⟩, hm.alloc c' _⟩
    simp [Instr.range, run_underlying ht, newObj]
    rfl
/-- what a round of a range over a string gives -/
def nxS (s : ByteArray) (p : Nat) : List Value := if p < s.size then [.bool true, .int .i64 (p : Int), .int .i32 ((Utf8.decode s p).1 : Int)] else [.bool false]
def nxP (s : ByteArray) (p : Nat) : Nat := if p < s.size then p + (Utf8.decode s p).2 else p
theorem nxS_ok (s : ByteArray) (p : Nat) : (nxS s p)[0]? = some (.bool (decide (p < s.size))) := by
  unfold nxS
  by_cases h : p < s.size
  · rw [if_pos h, decide_eq_true h]; rfl
  · rw [if_neg h, decide_eq_false h]; rfl
theorem nxS_at {s : ByteArray} {p : Nat} (h : p < s.size) : (nxS s p)[1]? = some (.int .i64 (p : Int)) := by unfold nxS; rw [if_pos h]; rfl
theorem nxS_rune {s : ByteArray} {p : Nat} (h : p < s.size) : (nxS s p)[2]? = some (.int .i32 ((Utf8.decode s p).1 : Int)) := by unfold nxS; rw [if_pos h]; rfl
theorem Eff.nextS {c r p : Nat} {s : ByteArray} (hx : ev σ x = some (.pointer (some ⟨r, 0, none⟩))) (hL : lk L c = some (single r (.stringIter s p))) :
    Eff X (.next x true) ty σ L (fun v L' => v = .tuple (nxS s p).toArray ∧ L' = (c, single r (.stringIter s (nxP s p))) :: L) := fun a w ha hm o ho hty K Q hK => by
  have hr := hm.sub c _ hL r _ (single_self _ _)
  have hg : (getObj r).run X.P w = .ok (.stringIter s p) w := by simp [getObj, Sem.run, hr]
  have hexec : ∀ v w', (Instr.next (.pointer (some ⟨r, 0, none⟩)) true ty).run X.P w = .ok v w' → (execOp a.eval o).run X.P w = .ok (.value v) w' := fun v w' h => by
    simp only [execOp, ho, ha.ev hx, Sem.run_bind, hty]
    rw [h]; rfl
  unfold Oper.wp
  by_cases h : p < s.size
  · have hs : (setObj r (.stringIter s (p + (Utf8.decode s p).2))).run X.P w = .ok () { w with heap := w.heap.setIfInBounds r (.stringIter s (p + (Utf8.decode s p).2)) } := by simp [setObj, Sem.run, hr]
    rw [hexec (.tuple #[.bool true, .int .i64 (p : Int), .int .i32 ((Utf8.decode s p).1 : Int)]) { w with heap := w.heap.setIfInBounds r (.stringIter s (p + (Utf8.decode s p).2)) } (by
      simp only [Instr.next, Sem.run_bind, hg, Result.andThen_ok]
      rw [if_pos h]
      simp only [Sem.run_bind, hs, Result.andThen_ok, Sem.run_pure]
      rfl)]
    refine hK _ _ _ ⟨by unfold nxS; rw [if_pos h], rfl⟩ ?_
    unfold nxP
    rw [if_pos h]
    refine hm.set c (.inl hL) ⟨rfl, rfl, by simp, fun k hk hD => ?_⟩ (fun k o hk => ?_) (fun k o hk => ?_)
    · have : k ≠ r := fun e => hD ⟨_, by rw [e]; exact single_self _ _⟩
      simp only
      rw [Array.getElem?_setIfInBounds_ne (Ne.symm this)]
    · obtain ⟨rfl, rfl⟩ := single_inv hk
      have hlt := (Array.getElem?_eq_some_iff.1 hr).1
      simp [hlt]
    · obtain ⟨rfl, rfl⟩ := single_inv hk; exact .inl ⟨_, single_self _ _⟩
  · rw [hexec (.tuple #[.bool false]) w (by
      simp only [Instr.next, Sem.run_bind, hg, Result.andThen_ok]
      rw [if_neg h]
      rfl)]
    refine hK _ _ _ ⟨by unfold nxS; rw [if_neg h], rfl⟩ ?_
    unfold nxP
    rw [if_neg h]
    exact hm.weak fun i J hh => by
      rw [lk_cons] at hh
      split at hh
      · rename_i e'; cases hh; rw [← e']; exact hL
      · exact hh
end
end Go.Proofs.YtboapdcmaeojgaaGreatDoor.SL
/- Small checks. Written by program (walk2.py). -/
namespace Go.Proofs.YtboapdcmaeojgaaGreatDoor
open SL Cat
set_option linter.unusedVariables false
set_option linter.unusedSimpArgs false

set_option maxRecDepth 100000 in
set_option maxHeartbeats 400000 in
theorem exists_ct (n m : Int) : Ct Tryz.prog 105 [.int .i64 n, .int .i64 m] [] (fun v Hs => v = .bool (decide (InR n 1 m)) ∧ Hs = []) := by
  refine Ct.body Tryz.func105 rfl Tryz.ntmps105 rfl ?_
  intro E F
  refine W.seq ?_
  refine W.region ?_
  refine RL.q (Yld.assign rfl) rfl ?_
  refine RL.nil ?_
  refine N.next ?_
  refine W.seq ?_
  refine W.region ?_
  refine RL.q (Yld.move rfl) rfl ?_
  refine RL.q (Yld.bin rfl rfl BinV.geq) rfl ?_
  refine RL.q (Yld.move rfl) rfl ?_
  refine' RL.and (t := 7) (d := 11) 4 rfl (.of [0, 1, 4, 5, 6] rfl) (.of [0] rfl) ?_ ?_ ?_
  rotate_left 1
  ·
   intro hg7
   refine RL.gq rfl rfl (Yld.move rfl) rfl ?_
   refine RL.gq rfl rfl (Yld.move rfl) rfl ?_
   refine RL.gq rfl rfl (Yld.bin rfl rfl BinV.leq) rfl ?_
   refine RL.q Yld.pk rfl ?_
   exact RL.nil (N.meet (.to rfl) (.to rfl))
  ·
   intro hg7
   refine RL.gskip rfl rfl rfl rfl ?_
   refine RL.gskip rfl rfl rfl rfl ?_
   refine RL.gskip rfl rfl rfl rfl ?_
   refine RL.q Yld.pk rfl ?_
   exact RL.nil (N.meet (.to rfl) (.to rfl))
  refine RL.q (Yld.assign rfl) rfl ?_
  refine RL.nil ?_
  refine N.next ?_
  refine W.keep (.of [4] rfl) (.of [0] rfl) ?_
  refine W.ret ?_
  exact N.retBy [] (.cons (.tmp rfl) .nil) rfl rfl rfl rfl ⟨by show Value.bool _ = Value.bool _; congr 1; rw [Bool.eq_iff_iff]; (try simp only [Bool.and_eq_true, Bool.or_eq_true, Bool.not_eq_true', decide_eq_true_eq, decide_eq_false_iff_not]); (try simp [InR]); try omega, rfl⟩

set_option maxRecDepth 100000 in
set_option maxHeartbeats 400000 in
theorem rexists_ct (n m : Int) : Ct Tryz.prog 44 [.int .i64 n, .int .i64 m] [] (fun v Hs => v = .bool (decide (InR n 1 m)) ∧ Hs = []) := by
  refine Ct.body Tryz.func44 rfl Tryz.ntmps44 rfl ?_
  intro E F
  refine W.seq ?_
  refine W.region ?_
  refine RL.q (Yld.assign rfl) rfl ?_
  refine RL.nil ?_
  refine N.next ?_
  refine W.seq ?_
  refine W.region ?_
  refine RL.q (Yld.move rfl) rfl ?_
  refine RL.q (Yld.bin rfl rfl BinV.geq) rfl ?_
  refine RL.q (Yld.move rfl) rfl ?_
  refine' RL.and (t := 7) (d := 11) 4 rfl (.of [0, 1, 4, 5, 6] rfl) (.of [0] rfl) ?_ ?_ ?_
  rotate_left 1
  ·
   intro hg7
   refine RL.gq rfl rfl (Yld.move rfl) rfl ?_
   refine RL.gq rfl rfl (Yld.move rfl) rfl ?_
   refine RL.gq rfl rfl (Yld.bin rfl rfl BinV.leq) rfl ?_
   refine RL.q Yld.pk rfl ?_
   exact RL.nil (N.meet (.to rfl) (.to rfl))
  ·
   intro hg7
   refine RL.gskip rfl rfl rfl rfl ?_
   refine RL.gskip rfl rfl rfl rfl ?_
   refine RL.gskip rfl rfl rfl rfl ?_
   refine RL.q Yld.pk rfl ?_
   exact RL.nil (N.meet (.to rfl) (.to rfl))
  refine RL.q (Yld.assign rfl) rfl ?_
  refine RL.nil ?_
  refine N.next ?_
  refine W.keep (.of [4] rfl) (.of [0] rfl) ?_
  refine W.ret ?_
  exact N.retBy [] (.cons (.tmp rfl) .nil) rfl rfl rfl rfl ⟨by show Value.bool _ = Value.bool _; congr 1; rw [Bool.eq_iff_iff]; (try simp only [Bool.and_eq_true, Bool.or_eq_true, Bool.not_eq_true', decide_eq_true_eq, decide_eq_false_iff_not]); (try simp [InR]); try omega, rfl⟩

set_option maxRecDepth 100000 in
set_option maxHeartbeats 400000 in
theorem amount_ct (n : Int) : Ct Tryz.prog 112 [.int .i64 n] [] (fun v Hs => v = .bool (decide (InR n 0 1048576)) ∧ Hs = []) := by
  refine Ct.body Tryz.func112 rfl Tryz.ntmps112 rfl ?_
  intro E F
  refine W.seq ?_
  refine W.region ?_
  refine RL.q (Yld.assign rfl) rfl ?_
  refine RL.nil ?_
  refine N.next ?_
  refine W.seq ?_
  refine W.region ?_
  refine RL.q (Yld.move rfl) rfl ?_
  refine RL.q (Yld.bin rfl rfl BinV.geq) rfl ?_
  refine RL.q (Yld.move rfl) rfl ?_
  refine' RL.and (t := 5) (d := 8) 3 rfl (.of [0, 2, 3, 4] rfl) (.of [0] rfl) ?_ ?_ ?_
  rotate_left 1
  ·
   intro hg5
   refine RL.gq rfl rfl (Yld.move rfl) rfl ?_
   refine RL.gq rfl rfl (Yld.bin rfl rfl BinV.leq) rfl ?_
   refine RL.q Yld.pk rfl ?_
   exact RL.nil (N.meet (.to rfl) (.to rfl))
  ·
   intro hg5
   refine RL.gskip rfl rfl rfl rfl ?_
   refine RL.gskip rfl rfl rfl rfl ?_
   refine RL.q Yld.pk rfl ?_
   exact RL.nil (N.meet (.to rfl) (.to rfl))
  refine RL.q (Yld.assign rfl) rfl ?_
  refine RL.nil ?_
  refine N.next ?_
  refine W.keep (.of [2] rfl) (.of [0] rfl) ?_
  refine W.ret ?_
  exact N.retBy [] (.cons (.tmp rfl) .nil) rfl rfl rfl rfl ⟨by show Value.bool _ = Value.bool _; congr 1; rw [Bool.eq_iff_iff]; (try simp only [Bool.and_eq_true, Bool.or_eq_true, Bool.not_eq_true', decide_eq_true_eq, decide_eq_false_iff_not]); (try simp [InR]); try omega, rfl⟩

set_option maxRecDepth 100000 in
set_option maxHeartbeats 400000 in
theorem rnumber_ct (n : Int) : Ct Tryz.prog 83 [.int .i64 n] [] (fun v Hs => v = .bool (decide (InR n 0 1048576)) ∧ Hs = []) := by
  refine Ct.body Tryz.func83 rfl Tryz.ntmps83 rfl ?_
  intro E F
  refine W.seq ?_
  refine W.region ?_
  refine RL.q (Yld.assign rfl) rfl ?_
  refine RL.nil ?_
  refine N.next ?_
  refine W.seq ?_
  refine W.region ?_
  refine RL.q (Yld.move rfl) rfl ?_
  refine RL.q (Yld.bin rfl rfl BinV.geq) rfl ?_
  refine RL.q (Yld.move rfl) rfl ?_
  refine' RL.and (t := 5) (d := 8) 3 rfl (.of [0, 2, 3, 4] rfl) (.of [0] rfl) ?_ ?_ ?_
  rotate_left 1
  ·
   intro hg5
   refine RL.gq rfl rfl (Yld.move rfl) rfl ?_
   refine RL.gq rfl rfl (Yld.bin rfl rfl BinV.leq) rfl ?_
   refine RL.q Yld.pk rfl ?_
   exact RL.nil (N.meet (.to rfl) (.to rfl))
  ·
   intro hg5
   refine RL.gskip rfl rfl rfl rfl ?_
   refine RL.gskip rfl rfl rfl rfl ?_
   refine RL.q Yld.pk rfl ?_
   exact RL.nil (N.meet (.to rfl) (.to rfl))
  refine RL.q (Yld.assign rfl) rfl ?_
  refine RL.nil ?_
  refine N.next ?_
  refine W.keep (.of [2] rfl) (.of [0] rfl) ?_
  refine W.ret ?_
  exact N.retBy [] (.cons (.tmp rfl) .nil) rfl rfl rfl rfl ⟨by show Value.bool _ = Value.bool _; congr 1; rw [Bool.eq_iff_iff]; (try simp only [Bool.and_eq_true, Bool.or_eq_true, Bool.not_eq_true', decide_eq_true_eq, decide_eq_false_iff_not]); (try simp [InR]); try omega, rfl⟩

set_option maxRecDepth 100000 in
set_option maxHeartbeats 400000 in
theorem within_ct (n a b : Int) : Ct Tryz.prog 67 [.int .i64 n, .int .i64 a, .int .i64 b] [] (fun v Hs => v = .bool (decide (InR n a b)) ∧ Hs = []) := by
  refine Ct.body Tryz.func67 rfl Tryz.ntmps67 rfl ?_
  intro E F
  refine W.seq ?_
  refine W.region ?_
  refine RL.q (Yld.assign rfl) rfl ?_
  refine RL.nil ?_
  refine N.next ?_
  refine W.seq ?_
  refine W.region ?_
  refine RL.q (Yld.move rfl) rfl ?_
  refine RL.q (Yld.move rfl) rfl ?_
  refine RL.q (Yld.bin rfl rfl BinV.geq) rfl ?_
  refine RL.q (Yld.move rfl) rfl ?_
  refine' RL.and (t := 10) (d := 14) 4 rfl (.of [0, 1, 2, 6, 7, 8, 9] rfl) (.of [0] rfl) ?_ ?_ ?_
  rotate_left 1
  ·
   intro hg10
   refine RL.gq rfl rfl (Yld.move rfl) rfl ?_
   refine RL.gq rfl rfl (Yld.move rfl) rfl ?_
   refine RL.gq rfl rfl (Yld.bin rfl rfl BinV.leq) rfl ?_
   refine RL.q Yld.pk rfl ?_
   exact RL.nil (N.meet (.to rfl) (.to rfl))
  ·
   intro hg10
   refine RL.gskip rfl rfl rfl rfl ?_
   refine RL.gskip rfl rfl rfl rfl ?_
   refine RL.gskip rfl rfl rfl rfl ?_
   refine RL.q Yld.pk rfl ?_
   exact RL.nil (N.meet (.to rfl) (.to rfl))
  refine RL.q (Yld.assign rfl) rfl ?_
  refine RL.nil ?_
  refine N.next ?_
  refine W.keep (.of [6] rfl) (.of [0] rfl) ?_
  refine W.ret ?_
  exact N.retBy [] (.cons (.tmp rfl) .nil) rfl rfl rfl rfl ⟨by show Value.bool _ = Value.bool _; congr 1; rw [Bool.eq_iff_iff]; (try simp only [Bool.and_eq_true, Bool.or_eq_true, Bool.not_eq_true', decide_eq_true_eq, decide_eq_false_iff_not]); (try simp [InR]); try omega, rfl⟩

set_option maxRecDepth 100000 in
set_option maxHeartbeats 400000 in
theorem rwithin_ct (n a b : Int) : Ct Tryz.prog 45 [.int .i64 n, .int .i64 a, .int .i64 b] [] (fun v Hs => v = .bool (decide (InR n a b)) ∧ Hs = []) := by
  refine Ct.body Tryz.func45 rfl Tryz.ntmps45 rfl ?_
  intro E F
  refine W.seq ?_
  refine W.region ?_
  refine RL.q (Yld.assign rfl) rfl ?_
  refine RL.nil ?_
  refine N.next ?_
  refine W.seq ?_
  refine W.region ?_
  refine RL.q (Yld.move rfl) rfl ?_
  refine RL.q (Yld.move rfl) rfl ?_
  refine RL.q (Yld.bin rfl rfl BinV.geq) rfl ?_
  refine RL.q (Yld.move rfl) rfl ?_
  refine' RL.and (t := 10) (d := 14) 4 rfl (.of [0, 1, 2, 6, 7, 8, 9] rfl) (.of [0] rfl) ?_ ?_ ?_
  rotate_left 1
  ·
   intro hg10
   refine RL.gq rfl rfl (Yld.move rfl) rfl ?_
   refine RL.gq rfl rfl (Yld.move rfl) rfl ?_
   refine RL.gq rfl rfl (Yld.bin rfl rfl BinV.leq) rfl ?_
   refine RL.q Yld.pk rfl ?_
   exact RL.nil (N.meet (.to rfl) (.to rfl))
  ·
   intro hg10
   refine RL.gskip rfl rfl rfl rfl ?_
   refine RL.gskip rfl rfl rfl rfl ?_
   refine RL.gskip rfl rfl rfl rfl ?_
   refine RL.q Yld.pk rfl ?_
   exact RL.nil (N.meet (.to rfl) (.to rfl))
  refine RL.q (Yld.assign rfl) rfl ?_
  refine RL.nil ?_
  refine N.next ?_
  refine W.keep (.of [6] rfl) (.of [0] rfl) ?_
  refine W.ret ?_
  exact N.retBy [] (.cons (.tmp rfl) .nil) rfl rfl rfl rfl ⟨by show Value.bool _ = Value.bool _; congr 1; rw [Bool.eq_iff_iff]; (try simp only [Bool.and_eq_true, Bool.or_eq_true, Bool.not_eq_true', decide_eq_true_eq, decide_eq_false_iff_not]); (try simp [InR]); try omega, rfl⟩

end Go.Proofs.YtboapdcmaeojgaaGreatDoor
/- Package site. Written by program (walk2.py). -/
namespace Go.Proofs.YtboapdcmaeojgaaGreatDoor
open SL Cat
set_option linter.unusedVariables false
set_option linter.unusedSimpArgs false
theorem sz93 : sz Tryz.prog 93 3 := (by kernel_rfl : (Tryz.prog.info? 93).map (·.size) = some 3)
theorem zc93 : zc Tryz.prog 93 [.string .empty, .int .i64 0, .int .i64 0] := (by kernel_rfl : ((Tryz.prog.info? 93).bind (·.zero)).map (fun v => v.cells.toList) = some [.string .empty, .int .i64 0, .int .i64 0])
theorem mix : Tryz.prog.follows .mixedOrders = true := by kernel_rfl
theorem sz95 : sz Tryz.prog 95 3 := (by kernel_rfl : (Tryz.prog.info? 95).map (·.size) = some 3)
theorem zc95 : zc Tryz.prog 95 [.string .empty, .int .i64 0, .int .i64 0] := (by kernel_rfl : ((Tryz.prog.info? 95).bind (·.zero)).map (fun v => v.cells.toList) = some [.string .empty, .int .i64 0, .int .i64 0])
theorem sz162 : sz Tryz.prog 162 3 := (by kernel_rfl : (Tryz.prog.info? 162).map (·.size) = some 3)
theorem zc162 : zc Tryz.prog 162 [.int .i64 0, .int .i64 0, .int .i64 0] := (by kernel_rfl : ((Tryz.prog.info? 162).bind (·.zero)).map (fun v => v.cells.toList) = some [.int .i64 0, .int .i64 0, .int .i64 0])
theorem ent150 : Ent Tryz.prog 150 := ⟨_, _, Tryz.func150, by kernel_rfl, rfl⟩
theorem ent151 : Ent Tryz.prog 151 := ⟨_, _, Tryz.func151, by kernel_rfl, rfl⟩
theorem ent107 : Ent Tryz.prog 107 := ⟨_, _, Tryz.func107, by kernel_rfl, rfl⟩
theorem ent108 : Ent Tryz.prog 108 := ⟨_, _, Tryz.func108, by kernel_rfl, rfl⟩
theorem ent111 : Ent Tryz.prog 111 := ⟨_, _, Tryz.func111, by kernel_rfl, rfl⟩
theorem ent114 : Ent Tryz.prog 114 := ⟨_, _, Tryz.func114, by kernel_rfl, rfl⟩
theorem ent115 : Ent Tryz.prog 115 := ⟨_, _, Tryz.func115, by kernel_rfl, rfl⟩
theorem fo93_2 : fieldOff Tryz.prog 93 2 = some 2 := by kernel_rfl
theorem fo93_1 : fieldOff Tryz.prog 93 1 = some 1 := by kernel_rfl
theorem fo162_0 : fieldOff Tryz.prog 162 0 = some 0 := by kernel_rfl
theorem fo162_1 : fieldOff Tryz.prog 162 1 = some 1 := by kernel_rfl
theorem fo29_0 : fieldOff Tryz.prog 29 0 = some 0 := by kernel_rfl
theorem ent105 : Ent Tryz.prog 105 := ⟨_, _, Tryz.func105, by kernel_rfl, rfl⟩
theorem fo29_1 : fieldOff Tryz.prog 29 1 = some 1 := by kernel_rfl
theorem ent109 : Ent Tryz.prog 109 := ⟨_, _, Tryz.func109, by kernel_rfl, rfl⟩
theorem fo95_1 : fieldOff Tryz.prog 95 1 = some 1 := by kernel_rfl
theorem fo29_2 : fieldOff Tryz.prog 29 2 = some 2 := by kernel_rfl
theorem fo95_2 : fieldOff Tryz.prog 95 2 = some 2 := by kernel_rfl
theorem ent112 : Ent Tryz.prog 112 := ⟨_, _, Tryz.func112, by kernel_rfl, rfl⟩
theorem fo162_2 : fieldOff Tryz.prog 162 2 = some 2 := by kernel_rfl
theorem ent116 : Ent Tryz.prog 116 := ⟨_, _, Tryz.func116, by kernel_rfl, rfl⟩
theorem fo29_3 : fieldOff Tryz.prog 29 3 = some 3 := by kernel_rfl
theorem fo29_4 : fieldOff Tryz.prog 29 4 = some 4 := by kernel_rfl
theorem ent106 : Ent Tryz.prog 106 := ⟨_, _, Tryz.func106, by kernel_rfl, rfl⟩
theorem ent110 : Ent Tryz.prog 110 := ⟨_, _, Tryz.func110, by kernel_rfl, rfl⟩
theorem ent113 : Ent Tryz.prog 113 := ⟨_, _, Tryz.func113, by kernel_rfl, rfl⟩
set_option maxRecDepth 100000 in
set_option maxHeartbeats 400000 in
theorem soundRk_ct (l : List Rk) (H1 : PH) (p : Option Addr) (c : Nat) (hS : Sl H1 p c 3 (l.map Rk.c)) (f : Nat) (cap : List Value) (G1 : PH) (q : Nat → Rk → Bool) (hent : Ent Tryz.prog f) (hf : ∀ (i : Nat) x, l[i]? = some x → Ct Tryz.prog f (.agg x.c.toArray :: .slice p i c :: cap) [H1, G1] (fun v Hs => v = .bool (q i x) ∧ Hs = [H1, G1])) : Ct Tryz.prog 106 [.slice p l.length c, .func (.func f) [].toArray cap.toArray] [H1, G1] (fun v Hs => v = .bool (pB (∀ (i : Nat) x, l[i]? = some x → q i x = true)) ∧ Hs = [H1, G1]) := by
  refine Ct.body Tryz.func106 rfl Tryz.ntmps106 rfl ?_
  intro E F
  have hmx := hS.len_le
  simp only [List.length_map, maxLen] at hmx
  refine W.seq ?_
  refine W.region ?_
  refine RL.q (Yld.assign rfl) rfl ?_
  refine RL.nil ?_
  refine N.next ?_
  refine W.seq ?_
  refine W.seq ?_
  refine W.region ?_
  refine RL.q (Yld.move rfl) rfl ?_
  refine RL.q (Yld.lenSl Tryz.underlying23 rfl) rfl ?_
  refine RL.q (Yld.move rfl) rfl ?_
  refine RL.nil ?_
  refine N.next ?_
  refine W.block ?_
  refine W.loopK (ι := Nat) (fun j => (j ≤ l.length ∧ ∀ (i : Nat) x, i < j → l[i]? = some x → q i x = true)) (fun j => [(9, .int .i64 (j : Nat))]) (fun j => []) (fun j => l.length - j) (.of [0, 1, 7, 8] rfl) (.of [0, 1, 2] rfl) 0 ?_ ?_ ?_ ?_
  · exact ⟨Nat.zero_le _, fun _ _ h => absurd h (Nat.not_lt_zero _)⟩
  · exact (.as rfl (by first | rfl | (simp; done) | (congr 1; simp; done) | (congr 1; omega)) .nil)
  · exact .nil
  rintro j ⟨hj, hI⟩
  refine W.keep (.of [9, 0, 1, 7, 8] rfl) (.of [0, 1, 2] rfl) ?_
  refine W.seq ?_
  refine W.region ?_
  refine RL.q (Yld.bin rfl rfl BinV.lss) rfl ?_
  refine RL.nil ?_
  refine N.next ?_
  refine W.seq ?_
  first | refine W.condD rfl (fun hc10 => ?_) (fun hc10 => ?_) | (refine W.cond rfl (fun hc10 => ?_) (fun hc10 => ?_) <;> try simp only [Bool.or_eq_true, Bool.and_eq_true, Bool.not_eq_true', Bool.not_eq_false', decide_eq_true_eq, Bool.or_eq_false_iff, Bool.and_eq_false_iff, decide_eq_false_iff_not, beq_iff_eq, beq_eq_false_iff_ne, ne_eq, Decidable.not_not] at hc10)
  ·
   obtain ⟨x, hx⟩ : ∃ x, l[j]? = some x := ⟨_, List.getElem?_eq_getElem (show j < l.length by first | omega | (simp only [List.length_map] at *; omega))⟩
   have hlx : (l.map Rk.c)[j]? = some x.c := by simp [hx]
   refine W.skip ?_
   refine N.next ?_
   refine W.seq ?_
   refine W.block ?_
   refine W.seq ?_
   refine W.region ?_
   refine RL.q (Yld.move rfl) rfl ?_
   refine RL.q (Yld.ixr Tryz.underlying23 sz93 rfl rfl) rfl ?_
   refine RL.q (by first | exact Yld.lrA 1 Tryz.underlying93 sz93 rfl rfl rfl | exact Yld.lrA 2 Tryz.underlying93 sz93 rfl rfl rfl) rfl ?_
   refine RL.e (Eff.alloc 106 zc93) rfl ?_
   rintro _ _ ⟨b6, rfl, rfl⟩
   refine RL.q (Yld.assign rfl) rfl ?_
   refine RL.e0 (Eff.storeS (c := 106) _ sz93 rfl rfl rfl rfl rfl rfl rfl (by (try simp only [putAt, List.take, List.drop, List.nil_append, List.cons_append, List.append_nil, List.length_cons, List.length_nil, Nat.add_zero, Nat.zero_add, Nat.reduceAdd]); rfl)) ?_
   rintro _ _ rfl
   refine RL.nil ?_
   refine N.next ?_
   refine W.keep (.of [0, 1, 5, 6, 7, 8, 9] rfl) (.of [0, 1, 2, 106] rfl) ?_
   refine W.seq ?_
   refine W.draw (.q 0 (.q 1 (.q 2 (.q 3 (.q 4 (.one 5 (.q 6 .done))))))) (.of [0, 106] rfl) mix (by kernel_rfl) (by kernel_rfl) ?_
   refine DL.q rfl (Yld.move rfl) rfl ?_
   refine DL.q rfl (Yld.ldW 106 Tryz.underlying93 sz93 rfl rfl rfl rfl) rfl ?_
   refine DL.q rfl (Yld.move rfl) rfl ?_
   refine DL.q rfl (Yld.move rfl) rfl ?_
   refine DL.q rfl (Yld.sliceH Tryz.underlying23 sz93 rfl rfl (by omega) (by first | omega | (simp; done) | (simp; omega))) rfl ?_
   refine DL.one rfl (Eff.callV hent [1, 2] [1, 2] rfl (.cons rfl (.cons rfl .nil)) (hf j x hx) rfl rfl rfl rfl (by rintro _ _ ⟨_, rfl⟩; rfl)) rfl (by rintro _ _ ⟨_, ⟨rfl, rfl⟩, rfl⟩; repeat (first | exact .nil | refine .cons rfl ?_)) ?_
   rintro _ _ ⟨_, ⟨rfl, rfl⟩, rfl⟩
   refine DL.q rfl Yld.nt rfl ?_
   refine DL.done ?_
   refine N.next ?_
   refine W.keep (.of [0, 1, 7, 8, 9, 20] rfl) (.of [0, 1, 2, 106] rfl) ?_
   refine W.cond rfl (fun hc20 => ?_) (fun hc20 => ?_)
   ·
    refine W.seq ?_
    refine W.region ?_
    refine RL.q (Yld.assign rfl) rfl ?_
    refine RL.nil ?_
    refine N.next ?_
    refine W.keep (.of [4] rfl) (.of [0, 1, 2, 106] rfl) ?_
    refine W.ret ?_
    refine N.block_ret ?_
    refine N.then_ret ?_
    refine N.then_ret ?_
    refine N.block_ret ?_
    refine N.then_ret ?_
    exact N.retBy [1, 2] (.cons (.tmp rfl) .nil) rfl rfl rfl rfl ⟨by rw [pB_not (fun h => by rw [h j x hx] at hc20; cases hc20)]; rfl, rfl⟩
   ·
    refine W.skip ?_
    refine N.block_normal ?_
    refine N.next ?_
    refine W.region ?_
    refine RL.q (Yld.bin rfl rfl (by first | exact BinV.add (by omega) (by omega) | exact BinV.addW)) rfl ?_
    refine RL.q (Yld.move rfl) rfl ?_
    refine RL.nil ?_
    exact N.famK (j + 1) ⟨⟨by omega, fun i y hi hy => (Nat.lt_succ_iff_lt_or_eq.1 hi).elim (fun h => hI i y h hy) (fun e => by subst e; rw [hx] at hy; cases hy; simpa using hc20)⟩, by omega⟩ (.as rfl (by first | rfl | (simp; done) | (congr 1; simp; done) | (congr 1; omega)) .nil) (.to rfl) .nil (.to rfl)
  ·
   refine W.exit ?_
   refine N.then_exit ?_
   refine N.then_exit ?_
   refine N.block_eq ?_
   refine N.next ?_
   refine W.keep .nil (.of [0, 1, 2] rfl) ?_
   refine W.seq ?_
   refine W.region ?_
   refine RL.q (Yld.assign rfl) rfl ?_
   refine RL.nil ?_
   refine N.next ?_
   refine W.ret ?_
   exact N.retBy [1, 2] (.cons (.tmp rfl) .nil) rfl rfl rfl rfl ⟨by rw [pB_true (fun i x hx => hI i x (by have := (List.getElem?_eq_some_iff.1 hx).1; omega) hx)]; rfl, rfl⟩

set_option maxRecDepth 100000 in
set_option maxHeartbeats 400000 in
theorem soundMc_ct (l : List Mc) (H1 : PH) (p : Option Addr) (c : Nat) (hS : Sl H1 p c 3 (l.map Mc.c)) (f : Nat) (cap : List Value) (G1 : PH) (q : Nat → Mc → Bool) (hent : Ent Tryz.prog f) (hf : ∀ (i : Nat) x, l[i]? = some x → Ct Tryz.prog f (.agg x.c.toArray :: .slice p i c :: cap) [H1, G1] (fun v Hs => v = .bool (q i x) ∧ Hs = [H1, G1])) : Ct Tryz.prog 110 [.slice p l.length c, .func (.func f) [].toArray cap.toArray] [H1, G1] (fun v Hs => v = .bool (pB (∀ (i : Nat) x, l[i]? = some x → q i x = true)) ∧ Hs = [H1, G1]) := by
  refine Ct.body Tryz.func110 rfl Tryz.ntmps110 rfl ?_
  intro E F
  have hmx := hS.len_le
  simp only [List.length_map, maxLen] at hmx
  refine W.seq ?_
  refine W.region ?_
  refine RL.q (Yld.assign rfl) rfl ?_
  refine RL.nil ?_
  refine N.next ?_
  refine W.seq ?_
  refine W.seq ?_
  refine W.region ?_
  refine RL.q (Yld.move rfl) rfl ?_
  refine RL.q (Yld.lenSl Tryz.underlying24 rfl) rfl ?_
  refine RL.q (Yld.move rfl) rfl ?_
  refine RL.nil ?_
  refine N.next ?_
  refine W.block ?_
  refine W.loopK (ι := Nat) (fun j => (j ≤ l.length ∧ ∀ (i : Nat) x, i < j → l[i]? = some x → q i x = true)) (fun j => [(9, .int .i64 (j : Nat))]) (fun j => []) (fun j => l.length - j) (.of [0, 1, 7, 8] rfl) (.of [0, 1, 2] rfl) 0 ?_ ?_ ?_ ?_
  · exact ⟨Nat.zero_le _, fun _ _ h => absurd h (Nat.not_lt_zero _)⟩
  · exact (.as rfl (by first | rfl | (simp; done) | (congr 1; simp; done) | (congr 1; omega)) .nil)
  · exact .nil
  rintro j ⟨hj, hI⟩
  refine W.keep (.of [9, 0, 1, 7, 8] rfl) (.of [0, 1, 2] rfl) ?_
  refine W.seq ?_
  refine W.region ?_
  refine RL.q (Yld.bin rfl rfl BinV.lss) rfl ?_
  refine RL.nil ?_
  refine N.next ?_
  refine W.seq ?_
  first | refine W.condD rfl (fun hc10 => ?_) (fun hc10 => ?_) | (refine W.cond rfl (fun hc10 => ?_) (fun hc10 => ?_) <;> try simp only [Bool.or_eq_true, Bool.and_eq_true, Bool.not_eq_true', Bool.not_eq_false', decide_eq_true_eq, Bool.or_eq_false_iff, Bool.and_eq_false_iff, decide_eq_false_iff_not, beq_iff_eq, beq_eq_false_iff_ne, ne_eq, Decidable.not_not] at hc10)
  ·
   obtain ⟨x, hx⟩ : ∃ x, l[j]? = some x := ⟨_, List.getElem?_eq_getElem (show j < l.length by first | omega | (simp only [List.length_map] at *; omega))⟩
   have hlx : (l.map Mc.c)[j]? = some x.c := by simp [hx]
   refine W.skip ?_
   refine N.next ?_
   refine W.seq ?_
   refine W.block ?_
   refine W.seq ?_
   refine W.region ?_
   refine RL.q (Yld.move rfl) rfl ?_
   refine RL.q (Yld.ixr Tryz.underlying24 sz95 rfl rfl) rfl ?_
   refine RL.q (by first | exact Yld.lrA 1 Tryz.underlying95 sz95 rfl rfl rfl | exact Yld.lrA 2 Tryz.underlying95 sz95 rfl rfl rfl) rfl ?_
   refine RL.e (Eff.alloc 106 zc95) rfl ?_
   rintro _ _ ⟨b6, rfl, rfl⟩
   refine RL.q (Yld.assign rfl) rfl ?_
   refine RL.e0 (Eff.storeS (c := 106) _ sz95 rfl rfl rfl rfl rfl rfl rfl (by (try simp only [putAt, List.take, List.drop, List.nil_append, List.cons_append, List.append_nil, List.length_cons, List.length_nil, Nat.add_zero, Nat.zero_add, Nat.reduceAdd]); rfl)) ?_
   rintro _ _ rfl
   refine RL.nil ?_
   refine N.next ?_
   refine W.keep (.of [0, 1, 5, 6, 7, 8, 9] rfl) (.of [0, 1, 2, 106] rfl) ?_
   refine W.seq ?_
   refine W.draw (.q 0 (.q 1 (.q 2 (.q 3 (.q 4 (.one 5 (.q 6 .done))))))) (.of [0, 106] rfl) mix (by kernel_rfl) (by kernel_rfl) ?_
   refine DL.q rfl (Yld.move rfl) rfl ?_
   refine DL.q rfl (Yld.ldW 106 Tryz.underlying95 sz95 rfl rfl rfl rfl) rfl ?_
   refine DL.q rfl (Yld.move rfl) rfl ?_
   refine DL.q rfl (Yld.move rfl) rfl ?_
   refine DL.q rfl (Yld.sliceH Tryz.underlying24 sz95 rfl rfl (by omega) (by first | omega | (simp; done) | (simp; omega))) rfl ?_
   refine DL.one rfl (Eff.callV hent [1, 2] [1, 2] rfl (.cons rfl (.cons rfl .nil)) (hf j x hx) rfl rfl rfl rfl (by rintro _ _ ⟨_, rfl⟩; rfl)) rfl (by rintro _ _ ⟨_, ⟨rfl, rfl⟩, rfl⟩; repeat (first | exact .nil | refine .cons rfl ?_)) ?_
   rintro _ _ ⟨_, ⟨rfl, rfl⟩, rfl⟩
   refine DL.q rfl Yld.nt rfl ?_
   refine DL.done ?_
   refine N.next ?_
   refine W.keep (.of [0, 1, 7, 8, 9, 20] rfl) (.of [0, 1, 2, 106] rfl) ?_
   refine W.cond rfl (fun hc20 => ?_) (fun hc20 => ?_)
   ·
    refine W.seq ?_
    refine W.region ?_
    refine RL.q (Yld.assign rfl) rfl ?_
    refine RL.nil ?_
    refine N.next ?_
    refine W.keep (.of [4] rfl) (.of [0, 1, 2, 106] rfl) ?_
    refine W.ret ?_
    refine N.block_ret ?_
    refine N.then_ret ?_
    refine N.then_ret ?_
    refine N.block_ret ?_
    refine N.then_ret ?_
    exact N.retBy [1, 2] (.cons (.tmp rfl) .nil) rfl rfl rfl rfl ⟨by rw [pB_not (fun h => by rw [h j x hx] at hc20; cases hc20)]; rfl, rfl⟩
   ·
    refine W.skip ?_
    refine N.block_normal ?_
    refine N.next ?_
    refine W.region ?_
    refine RL.q (Yld.bin rfl rfl (by first | exact BinV.add (by omega) (by omega) | exact BinV.addW)) rfl ?_
    refine RL.q (Yld.move rfl) rfl ?_
    refine RL.nil ?_
    exact N.famK (j + 1) ⟨⟨by omega, fun i y hi hy => (Nat.lt_succ_iff_lt_or_eq.1 hi).elim (fun h => hI i y h hy) (fun e => by subst e; rw [hx] at hy; cases hy; simpa using hc20)⟩, by omega⟩ (.as rfl (by first | rfl | (simp; done) | (congr 1; simp; done) | (congr 1; omega)) .nil) (.to rfl) .nil (.to rfl)
  ·
   refine W.exit ?_
   refine N.then_exit ?_
   refine N.then_exit ?_
   refine N.block_eq ?_
   refine N.next ?_
   refine W.keep .nil (.of [0, 1, 2] rfl) ?_
   refine W.seq ?_
   refine W.region ?_
   refine RL.q (Yld.assign rfl) rfl ?_
   refine RL.nil ?_
   refine N.next ?_
   refine W.ret ?_
   exact N.retBy [1, 2] (.cons (.tmp rfl) .nil) rfl rfl rfl rfl ⟨by rw [pB_true (fun i x hx => hI i x (by have := (List.getElem?_eq_some_iff.1 hx).1; omega) hx)]; rfl, rfl⟩

set_option maxRecDepth 100000 in
set_option maxHeartbeats 400000 in
theorem soundLn_ct (l : List Ln) (H1 : PH) (p : Option Addr) (c : Nat) (hS : Sl H1 p c 3 (l.map Ln.c)) (f : Nat) (cap : List Value) (G1 : PH) (q : Nat → Ln → Bool) (hent : Ent Tryz.prog f) (hf : ∀ (i : Nat) x, l[i]? = some x → Ct Tryz.prog f (.agg x.c.toArray :: .slice p i c :: cap) [H1, G1] (fun v Hs => v = .bool (q i x) ∧ Hs = [H1, G1])) : Ct Tryz.prog 113 [.slice p l.length c, .func (.func f) [].toArray cap.toArray] [H1, G1] (fun v Hs => v = .bool (pB (∀ (i : Nat) x, l[i]? = some x → q i x = true)) ∧ Hs = [H1, G1]) := by
  refine Ct.body Tryz.func113 rfl Tryz.ntmps113 rfl ?_
  intro E F
  have hmx := hS.len_le
  simp only [List.length_map, maxLen] at hmx
  refine W.seq ?_
  refine W.region ?_
  refine RL.q (Yld.assign rfl) rfl ?_
  refine RL.nil ?_
  refine N.next ?_
  refine W.seq ?_
  refine W.seq ?_
  refine W.region ?_
  refine RL.q (Yld.move rfl) rfl ?_
  refine RL.q (Yld.lenSl Tryz.underlying25 rfl) rfl ?_
  refine RL.q (Yld.move rfl) rfl ?_
  refine RL.nil ?_
  refine N.next ?_
  refine W.block ?_
  refine W.loopK (ι := Nat) (fun j => (j ≤ l.length ∧ ∀ (i : Nat) x, i < j → l[i]? = some x → q i x = true)) (fun j => [(9, .int .i64 (j : Nat))]) (fun j => []) (fun j => l.length - j) (.of [0, 1, 7, 8] rfl) (.of [0, 1, 2] rfl) 0 ?_ ?_ ?_ ?_
  · exact ⟨Nat.zero_le _, fun _ _ h => absurd h (Nat.not_lt_zero _)⟩
  · exact (.as rfl (by first | rfl | (simp; done) | (congr 1; simp; done) | (congr 1; omega)) .nil)
  · exact .nil
  rintro j ⟨hj, hI⟩
  refine W.keep (.of [9, 0, 1, 7, 8] rfl) (.of [0, 1, 2] rfl) ?_
  refine W.seq ?_
  refine W.region ?_
  refine RL.q (Yld.bin rfl rfl BinV.lss) rfl ?_
  refine RL.nil ?_
  refine N.next ?_
  refine W.seq ?_
  first | refine W.condD rfl (fun hc10 => ?_) (fun hc10 => ?_) | (refine W.cond rfl (fun hc10 => ?_) (fun hc10 => ?_) <;> try simp only [Bool.or_eq_true, Bool.and_eq_true, Bool.not_eq_true', Bool.not_eq_false', decide_eq_true_eq, Bool.or_eq_false_iff, Bool.and_eq_false_iff, decide_eq_false_iff_not, beq_iff_eq, beq_eq_false_iff_ne, ne_eq, Decidable.not_not] at hc10)
  ·
   obtain ⟨x, hx⟩ : ∃ x, l[j]? = some x := ⟨_, List.getElem?_eq_getElem (show j < l.length by first | omega | (simp only [List.length_map] at *; omega))⟩
   have hlx : (l.map Ln.c)[j]? = some x.c := by simp [hx]
   refine W.skip ?_
   refine N.next ?_
   refine W.seq ?_
   refine W.block ?_
   refine W.seq ?_
   refine W.region ?_
   refine RL.q (Yld.move rfl) rfl ?_
   refine RL.q (Yld.ixr Tryz.underlying25 sz162 rfl rfl) rfl ?_
   refine RL.q (by first | exact Yld.lrA 1 Tryz.underlying162 sz162 rfl rfl rfl | exact Yld.lrA 2 Tryz.underlying162 sz162 rfl rfl rfl) rfl ?_
   refine RL.e (Eff.alloc 106 zc162) rfl ?_
   rintro _ _ ⟨b6, rfl, rfl⟩
   refine RL.q (Yld.assign rfl) rfl ?_
   refine RL.e0 (Eff.storeS (c := 106) _ sz162 rfl rfl rfl rfl rfl rfl rfl (by (try simp only [putAt, List.take, List.drop, List.nil_append, List.cons_append, List.append_nil, List.length_cons, List.length_nil, Nat.add_zero, Nat.zero_add, Nat.reduceAdd]); rfl)) ?_
   rintro _ _ rfl
   refine RL.nil ?_
   refine N.next ?_
   refine W.keep (.of [0, 1, 5, 6, 7, 8, 9] rfl) (.of [0, 1, 2, 106] rfl) ?_
   refine W.seq ?_
   refine W.draw (.q 0 (.q 1 (.q 2 (.q 3 (.q 4 (.one 5 (.q 6 .done))))))) (.of [0, 106] rfl) mix (by kernel_rfl) (by kernel_rfl) ?_
   refine DL.q rfl (Yld.move rfl) rfl ?_
   refine DL.q rfl (Yld.ldW 106 Tryz.underlying162 sz162 rfl rfl rfl rfl) rfl ?_
   refine DL.q rfl (Yld.move rfl) rfl ?_
   refine DL.q rfl (Yld.move rfl) rfl ?_
   refine DL.q rfl (Yld.sliceH Tryz.underlying25 sz162 rfl rfl (by omega) (by first | omega | (simp; done) | (simp; omega))) rfl ?_
   refine DL.one rfl (Eff.callV hent [1, 2] [1, 2] rfl (.cons rfl (.cons rfl .nil)) (hf j x hx) rfl rfl rfl rfl (by rintro _ _ ⟨_, rfl⟩; rfl)) rfl (by rintro _ _ ⟨_, ⟨rfl, rfl⟩, rfl⟩; repeat (first | exact .nil | refine .cons rfl ?_)) ?_
   rintro _ _ ⟨_, ⟨rfl, rfl⟩, rfl⟩
   refine DL.q rfl Yld.nt rfl ?_
   refine DL.done ?_
   refine N.next ?_
   refine W.keep (.of [0, 1, 7, 8, 9, 20] rfl) (.of [0, 1, 2, 106] rfl) ?_
   refine W.cond rfl (fun hc20 => ?_) (fun hc20 => ?_)
   ·
    refine W.seq ?_
    refine W.region ?_
    refine RL.q (Yld.assign rfl) rfl ?_
    refine RL.nil ?_
    refine N.next ?_
    refine W.keep (.of [4] rfl) (.of [0, 1, 2, 106] rfl) ?_
    refine W.ret ?_
    refine N.block_ret ?_
    refine N.then_ret ?_
    refine N.then_ret ?_
    refine N.block_ret ?_
    refine N.then_ret ?_
    exact N.retBy [1, 2] (.cons (.tmp rfl) .nil) rfl rfl rfl rfl ⟨by rw [pB_not (fun h => by rw [h j x hx] at hc20; cases hc20)]; rfl, rfl⟩
   ·
    refine W.skip ?_
    refine N.block_normal ?_
    refine N.next ?_
    refine W.region ?_
    refine RL.q (Yld.bin rfl rfl (by first | exact BinV.add (by omega) (by omega) | exact BinV.addW)) rfl ?_
    refine RL.q (Yld.move rfl) rfl ?_
    refine RL.nil ?_
    exact N.famK (j + 1) ⟨⟨by omega, fun i y hi hy => (Nat.lt_succ_iff_lt_or_eq.1 hi).elim (fun h => hI i y h hy) (fun e => by subst e; rw [hx] at hy; cases hy; simpa using hc20)⟩, by omega⟩ (.as rfl (by first | rfl | (simp; done) | (congr 1; simp; done) | (congr 1; omega)) .nil) (.to rfl) .nil (.to rfl)
  ·
   refine W.exit ?_
   refine N.then_exit ?_
   refine N.then_exit ?_
   refine N.block_eq ?_
   refine N.next ?_
   refine W.keep .nil (.of [0, 1, 2] rfl) ?_
   refine W.seq ?_
   refine W.region ?_
   refine RL.q (Yld.assign rfl) rfl ?_
   refine RL.nil ?_
   refine N.next ?_
   refine W.ret ?_
   exact N.retBy [1, 2] (.cons (.tmp rfl) .nil) rfl rfl rfl rfl ⟨by rw [pB_true (fun i x hx => hI i x (by have := (List.getElem?_eq_some_iff.1 hx).1; omega) hx)]; rfl, rfl⟩

set_option maxRecDepth 100000 in
set_option maxHeartbeats 400000 in
theorem ifRk_ct (l : List Rk) (H1 : PH) (p : Option Addr) (c n : Nat) (hn : n = l.length) (hS : Sl H1 p c 3 (l.map Rk.c)) (f : Nat) (cap : List Value) (G1 : PH) (q : Rk → Bool) (hent : Ent Tryz.prog f) (hf : ∀ x ∈ l, Ct Tryz.prog f (.agg x.c.toArray :: cap) [H1, G1] (fun v Hs => v = .bool (q x) ∧ Hs = [H1, G1])) : Ct Tryz.prog 150 [.slice p n c, .func (.func f) [].toArray cap.toArray] [H1, G1] (fun v Hs => (∃ r : Int, v = .int .i64 r ∧ decide (0 ≤ r) = l.any q) ∧ Hs = [H1, G1]) := by
  refine Ct.body Tryz.func150 rfl Tryz.ntmps150 rfl ?_
  intro E F
  subst hn
  have hmx := hS.len_le
  simp only [List.length_map, maxLen] at hmx
  refine W.seq ?_
  refine W.region ?_
  refine RL.q (Yld.assign rfl) rfl ?_
  refine RL.nil ?_
  refine N.next ?_
  refine W.seq ?_
  refine W.seq ?_
  refine W.region ?_
  refine RL.q (Yld.move rfl) rfl ?_
  refine RL.q (Yld.lenSl Tryz.underlying23 rfl) rfl ?_
  refine RL.q (Yld.move rfl) rfl ?_
  refine RL.nil ?_
  refine N.next ?_
  refine W.block ?_
  refine W.loopK (ι := Nat) (fun j => (j ≤ l.length ∧ ∀ (i : Nat) x, i < j → l[i]? = some x → q x = false)) (fun j => [(8, .int .i64 (j : Nat))]) (fun j => []) (fun j => l.length - j) (.of [0, 1, 7] rfl) (.of [0, 1, 2] rfl) 0 ?_ ?_ ?_ ?_
  · exact ⟨Nat.zero_le _, fun _ _ h => absurd h (Nat.not_lt_zero _)⟩
  · exact (.as rfl (by first | rfl | (simp; done) | (congr 1; simp; done) | (congr 1; omega)) .nil)
  · exact .nil
  rintro j ⟨hj, hI⟩
  refine W.keep (.of [8, 0, 1, 7] rfl) (.of [0, 1, 2] rfl) ?_
  refine W.seq ?_
  refine W.region ?_
  refine RL.q (Yld.bin rfl rfl BinV.lss) rfl ?_
  refine RL.nil ?_
  refine N.next ?_
  refine W.seq ?_
  first | refine W.condD rfl (fun hc9 => ?_) (fun hc9 => ?_) | (refine W.cond rfl (fun hc9 => ?_) (fun hc9 => ?_) <;> try simp only [Bool.or_eq_true, Bool.and_eq_true, Bool.not_eq_true', Bool.not_eq_false', decide_eq_true_eq, Bool.or_eq_false_iff, Bool.and_eq_false_iff, decide_eq_false_iff_not, beq_iff_eq, beq_eq_false_iff_ne, ne_eq, Decidable.not_not] at hc9)
  ·
   obtain ⟨x, hx⟩ : ∃ x, l[j]? = some x := ⟨_, List.getElem?_eq_getElem (show j < l.length by first | omega | (simp only [List.length_map] at *; omega))⟩
   have hlx : (l.map Rk.c)[j]? = some x.c := by simp [hx]
   refine W.skip ?_
   refine N.next ?_
   refine W.seq ?_
   refine W.block ?_
   refine W.seq ?_
   refine W.region ?_
   refine RL.q (Yld.move rfl) rfl ?_
   refine RL.q (Yld.assign rfl) rfl ?_
   refine RL.nil ?_
   refine N.next ?_
   refine W.seq ?_
   refine W.region ?_
   refine RL.q (Yld.move rfl) rfl ?_
   refine RL.q (Yld.move rfl) rfl ?_
   refine RL.q (Yld.move rfl) rfl ?_
   refine RL.q (Yld.ixr Tryz.underlying23 sz93 rfl rfl) rfl ?_
   refine RL.q (by first | exact Yld.lrA 1 Tryz.underlying93 sz93 rfl rfl rfl | exact Yld.lrA 2 Tryz.underlying93 sz93 rfl rfl rfl) rfl ?_
   refine RL.e (Eff.callV hent [1, 2] [1, 2] rfl (.cons rfl .nil) (hf x (List.mem_of_getElem? hx)) rfl rfl rfl rfl (by rintro _ _ ⟨_, rfl⟩; rfl)) rfl ?_
   rintro _ _ ⟨_, ⟨rfl, rfl⟩, rfl⟩
   refine RL.nil ?_
   refine N.next ?_
   refine W.keep (.of [0, 1, 5, 7, 8, 16] rfl) (.of [0, 1, 2] rfl) ?_
   refine W.cond rfl (fun hc16 => ?_) (fun hc16 => ?_)
   ·
    refine W.seq ?_
    refine W.region ?_
    refine RL.q (Yld.move rfl) rfl ?_
    refine RL.q (Yld.assign rfl) rfl ?_
    refine RL.nil ?_
    refine N.next ?_
    refine W.keep (.of [4] rfl) (.of [0, 1, 2] rfl) ?_
    refine W.ret ?_
    refine N.block_ret ?_
    refine N.then_ret ?_
    refine N.then_ret ?_
    refine N.block_ret ?_
    refine N.then_ret ?_
    exact N.retBy [1, 2] (.cons (.tmp rfl) .nil) rfl rfl rfl rfl ⟨⟨_, rfl, by rw [decide_eq_true (by omega), eq_comm, List.any_eq_true]; exact ⟨x, List.mem_of_getElem? hx, hc16⟩⟩, rfl⟩
   ·
    refine W.skip ?_
    refine N.block_normal ?_
    refine N.next ?_
    refine W.region ?_
    refine RL.q (Yld.bin rfl rfl (by first | exact BinV.add (by omega) (by omega) | exact BinV.addW)) rfl ?_
    refine RL.q (Yld.move rfl) rfl ?_
    refine RL.nil ?_
    exact N.famK (j + 1) ⟨⟨by omega, fun i y hi hy => (Nat.lt_succ_iff_lt_or_eq.1 hi).elim (fun h => hI i y h hy) (fun e => by subst e; rw [hx] at hy; cases hy; simpa using hc16)⟩, by omega⟩ (.as rfl (by first | rfl | (simp; done) | (congr 1; simp; done) | (congr 1; omega)) .nil) (.to rfl) .nil (.to rfl)
  ·
   refine W.exit ?_
   refine N.then_exit ?_
   refine N.then_exit ?_
   refine N.block_eq ?_
   refine N.next ?_
   refine W.keep .nil (.of [0, 1, 2] rfl) ?_
   refine W.seq ?_
   refine W.region ?_
   refine RL.q (Yld.assign rfl) rfl ?_
   refine RL.nil ?_
   refine N.next ?_
   refine W.ret ?_
   exact N.retBy [1, 2] (.cons (.tmp rfl) .nil) rfl rfl rfl rfl ⟨⟨_, rfl, by rw [decide_eq_false (by omega), eq_comm, List.any_eq_false]; intro x hx; obtain ⟨i, hi⟩ := List.getElem?_of_mem hx; rw [hI i x (by have := (List.getElem?_eq_some_iff.1 hi).1; omega) hi]; decide⟩, rfl⟩

set_option maxRecDepth 100000 in
set_option maxHeartbeats 400000 in
theorem cfRk_ct (l : List Rk) (H1 : PH) (p : Option Addr) (c n : Nat) (hn : n = l.length) (hS : Sl H1 p c 3 (l.map Rk.c)) (f : Nat) (cap : List Value) (G1 : PH) (q : Rk → Bool) (hent : Ent Tryz.prog f) (hf : ∀ x ∈ l, Ct Tryz.prog f (.agg x.c.toArray :: cap) [H1, G1] (fun v Hs => v = .bool (q x) ∧ Hs = [H1, G1])) : Ct Tryz.prog 109 [.slice p n c, .func (.func f) [].toArray cap.toArray] [H1, G1] (fun v Hs => v = .bool (l.any q) ∧ Hs = [H1, G1]) := by
  refine Ct.body Tryz.func109 rfl Tryz.ntmps109 rfl ?_
  intro E F
  refine W.seq ?_
  refine W.region ?_
  refine RL.q (Yld.assign rfl) rfl ?_
  refine RL.nil ?_
  refine N.next ?_
  refine W.seq ?_
  refine W.region ?_
  refine RL.q (Yld.move rfl) rfl ?_
  refine RL.q (Yld.move rfl) rfl ?_
  refine RL.e (Eff.call ent150 [1, 2] [1, 2] (.cons rfl (.cons rfl .nil)) (ifRk_ct l H1 p c n hn hS f cap G1 q hent hf) rfl rfl rfl rfl (by rintro _ _ ⟨_, rfl⟩; rfl)) rfl ?_
  rintro _ _ ⟨_, ⟨⟨r, rfl, hr⟩, rfl⟩, rfl⟩
  refine RL.q (Yld.bin rfl rfl BinV.geq) rfl ?_
  refine RL.q (Yld.assign rfl) rfl ?_
  refine RL.nil ?_
  refine N.next ?_
  refine W.keep (.of [4] rfl) (.of [0, 1, 2] rfl) ?_
  refine W.ret ?_
  exact N.retBy [1, 2] (.cons (.tmp rfl) .nil) rfl rfl rfl rfl ⟨by show Value.bool _ = _; congr 1, rfl⟩

set_option maxRecDepth 100000 in
set_option maxHeartbeats 400000 in
theorem ifLn_ct (l : List Ln) (H1 : PH) (p : Option Addr) (c n : Nat) (hn : n = l.length) (hS : Sl H1 p c 3 (l.map Ln.c)) (f : Nat) (cap : List Value) (G1 : PH) (q : Ln → Bool) (hent : Ent Tryz.prog f) (hf : ∀ x ∈ l, Ct Tryz.prog f (.agg x.c.toArray :: cap) [H1, G1] (fun v Hs => v = .bool (q x) ∧ Hs = [H1, G1])) : Ct Tryz.prog 151 [.slice p n c, .func (.func f) [].toArray cap.toArray] [H1, G1] (fun v Hs => (∃ r : Int, v = .int .i64 r ∧ decide (0 ≤ r) = l.any q) ∧ Hs = [H1, G1]) := by
  refine Ct.body Tryz.func151 rfl Tryz.ntmps151 rfl ?_
  intro E F
  subst hn
  have hmx := hS.len_le
  simp only [List.length_map, maxLen] at hmx
  refine W.seq ?_
  refine W.region ?_
  refine RL.q (Yld.assign rfl) rfl ?_
  refine RL.nil ?_
  refine N.next ?_
  refine W.seq ?_
  refine W.seq ?_
  refine W.region ?_
  refine RL.q (Yld.move rfl) rfl ?_
  refine RL.q (Yld.lenSl Tryz.underlying25 rfl) rfl ?_
  refine RL.q (Yld.move rfl) rfl ?_
  refine RL.nil ?_
  refine N.next ?_
  refine W.block ?_
  refine W.loopK (ι := Nat) (fun j => (j ≤ l.length ∧ ∀ (i : Nat) x, i < j → l[i]? = some x → q x = false)) (fun j => [(8, .int .i64 (j : Nat))]) (fun j => []) (fun j => l.length - j) (.of [0, 1, 7] rfl) (.of [0, 1, 2] rfl) 0 ?_ ?_ ?_ ?_
  · exact ⟨Nat.zero_le _, fun _ _ h => absurd h (Nat.not_lt_zero _)⟩
  · exact (.as rfl (by first | rfl | (simp; done) | (congr 1; simp; done) | (congr 1; omega)) .nil)
  · exact .nil
  rintro j ⟨hj, hI⟩
  refine W.keep (.of [8, 0, 1, 7] rfl) (.of [0, 1, 2] rfl) ?_
  refine W.seq ?_
  refine W.region ?_
  refine RL.q (Yld.bin rfl rfl BinV.lss) rfl ?_
  refine RL.nil ?_
  refine N.next ?_
  refine W.seq ?_
  first | refine W.condD rfl (fun hc9 => ?_) (fun hc9 => ?_) | (refine W.cond rfl (fun hc9 => ?_) (fun hc9 => ?_) <;> try simp only [Bool.or_eq_true, Bool.and_eq_true, Bool.not_eq_true', Bool.not_eq_false', decide_eq_true_eq, Bool.or_eq_false_iff, Bool.and_eq_false_iff, decide_eq_false_iff_not, beq_iff_eq, beq_eq_false_iff_ne, ne_eq, Decidable.not_not] at hc9)
  ·
   obtain ⟨x, hx⟩ : ∃ x, l[j]? = some x := ⟨_, List.getElem?_eq_getElem (show j < l.length by first | omega | (simp only [List.length_map] at *; omega))⟩
   have hlx : (l.map Ln.c)[j]? = some x.c := by simp [hx]
   refine W.skip ?_
   refine N.next ?_
   refine W.seq ?_
   refine W.block ?_
   refine W.seq ?_
   refine W.region ?_
   refine RL.q (Yld.move rfl) rfl ?_
   refine RL.q (Yld.assign rfl) rfl ?_
   refine RL.nil ?_
   refine N.next ?_
   refine W.seq ?_
   refine W.region ?_
   refine RL.q (Yld.move rfl) rfl ?_
   refine RL.q (Yld.move rfl) rfl ?_
   refine RL.q (Yld.move rfl) rfl ?_
   refine RL.q (Yld.ixr Tryz.underlying25 sz162 rfl rfl) rfl ?_
   refine RL.q (by first | exact Yld.lrA 1 Tryz.underlying162 sz162 rfl rfl rfl | exact Yld.lrA 2 Tryz.underlying162 sz162 rfl rfl rfl) rfl ?_
   refine RL.e (Eff.callV hent [1, 2] [1, 2] rfl (.cons rfl .nil) (hf x (List.mem_of_getElem? hx)) rfl rfl rfl rfl (by rintro _ _ ⟨_, rfl⟩; rfl)) rfl ?_
   rintro _ _ ⟨_, ⟨rfl, rfl⟩, rfl⟩
   refine RL.nil ?_
   refine N.next ?_
   refine W.keep (.of [0, 1, 5, 7, 8, 16] rfl) (.of [0, 1, 2] rfl) ?_
   refine W.cond rfl (fun hc16 => ?_) (fun hc16 => ?_)
   ·
    refine W.seq ?_
    refine W.region ?_
    refine RL.q (Yld.move rfl) rfl ?_
    refine RL.q (Yld.assign rfl) rfl ?_
    refine RL.nil ?_
    refine N.next ?_
    refine W.keep (.of [4] rfl) (.of [0, 1, 2] rfl) ?_
    refine W.ret ?_
    refine N.block_ret ?_
    refine N.then_ret ?_
    refine N.then_ret ?_
    refine N.block_ret ?_
    refine N.then_ret ?_
    exact N.retBy [1, 2] (.cons (.tmp rfl) .nil) rfl rfl rfl rfl ⟨⟨_, rfl, by rw [decide_eq_true (by omega), eq_comm, List.any_eq_true]; exact ⟨x, List.mem_of_getElem? hx, hc16⟩⟩, rfl⟩
   ·
    refine W.skip ?_
    refine N.block_normal ?_
    refine N.next ?_
    refine W.region ?_
    refine RL.q (Yld.bin rfl rfl (by first | exact BinV.add (by omega) (by omega) | exact BinV.addW)) rfl ?_
    refine RL.q (Yld.move rfl) rfl ?_
    refine RL.nil ?_
    exact N.famK (j + 1) ⟨⟨by omega, fun i y hi hy => (Nat.lt_succ_iff_lt_or_eq.1 hi).elim (fun h => hI i y h hy) (fun e => by subst e; rw [hx] at hy; cases hy; simpa using hc16)⟩, by omega⟩ (.as rfl (by first | rfl | (simp; done) | (congr 1; simp; done) | (congr 1; omega)) .nil) (.to rfl) .nil (.to rfl)
  ·
   refine W.exit ?_
   refine N.then_exit ?_
   refine N.then_exit ?_
   refine N.block_eq ?_
   refine N.next ?_
   refine W.keep .nil (.of [0, 1, 2] rfl) ?_
   refine W.seq ?_
   refine W.region ?_
   refine RL.q (Yld.assign rfl) rfl ?_
   refine RL.nil ?_
   refine N.next ?_
   refine W.ret ?_
   exact N.retBy [1, 2] (.cons (.tmp rfl) .nil) rfl rfl rfl rfl ⟨⟨_, rfl, by rw [decide_eq_false (by omega), eq_comm, List.any_eq_false]; intro x hx; obtain ⟨i, hi⟩ := List.getElem?_of_mem hx; rw [hI i x (by have := (List.getElem?_eq_some_iff.1 hi).1; omega) hi]; decide⟩, rfl⟩

set_option maxRecDepth 100000 in
set_option maxHeartbeats 400000 in
theorem cfLn_ct (l : List Ln) (H1 : PH) (p : Option Addr) (c n : Nat) (hn : n = l.length) (hS : Sl H1 p c 3 (l.map Ln.c)) (f : Nat) (cap : List Value) (G1 : PH) (q : Ln → Bool) (hent : Ent Tryz.prog f) (hf : ∀ x ∈ l, Ct Tryz.prog f (.agg x.c.toArray :: cap) [H1, G1] (fun v Hs => v = .bool (q x) ∧ Hs = [H1, G1])) : Ct Tryz.prog 116 [.slice p n c, .func (.func f) [].toArray cap.toArray] [H1, G1] (fun v Hs => v = .bool (l.any q) ∧ Hs = [H1, G1]) := by
  refine Ct.body Tryz.func116 rfl Tryz.ntmps116 rfl ?_
  intro E F
  refine W.seq ?_
  refine W.region ?_
  refine RL.q (Yld.assign rfl) rfl ?_
  refine RL.nil ?_
  refine N.next ?_
  refine W.seq ?_
  refine W.region ?_
  refine RL.q (Yld.move rfl) rfl ?_
  refine RL.q (Yld.move rfl) rfl ?_
  refine RL.e (Eff.call ent151 [1, 2] [1, 2] (.cons rfl (.cons rfl .nil)) (ifLn_ct l H1 p c n hn hS f cap G1 q hent hf) rfl rfl rfl rfl (by rintro _ _ ⟨_, rfl⟩; rfl)) rfl ?_
  rintro _ _ ⟨_, ⟨⟨r, rfl, hr⟩, rfl⟩, rfl⟩
  refine RL.q (Yld.bin rfl rfl BinV.geq) rfl ?_
  refine RL.q (Yld.assign rfl) rfl ?_
  refine RL.nil ?_
  refine N.next ?_
  refine W.keep (.of [4] rfl) (.of [0, 1, 2] rfl) ?_
  refine W.ret ?_
  exact N.retBy [1, 2] (.cons (.tmp rfl) .nil) rfl rfl rfl rfl ⟨by show Value.bool _ = _; congr 1, rfl⟩

set_option maxRecDepth 100000 in
set_option maxHeartbeats 400000 in
theorem siteC11_ct (b : Nat) (x y : Rk) (H1 : PH) : Ct Tryz.prog 108 [.agg [.string y.nm, .int .i64 y.si, .int .i64 y.fe].toArray, .pointer (some ⟨b, 0, none⟩)] [H1, single b (.cells [.string x.nm, .int .i64 x.si, .int .i64 x.fe].toArray 93 (0, 0))] (fun v Hs => v = .bool (decide (y.fe = x.fe) && decide (y.si ≠ x.si)) ∧ Hs = [H1, single b (.cells [.string x.nm, .int .i64 x.si, .int .i64 x.fe].toArray 93 (0, 0))]) := by
  refine Ct.body Tryz.func108 rfl Tryz.ntmps108 rfl ?_
  intro E F
  refine W.seq ?_
  refine W.region ?_
  refine RL.e (Eff.box 102 _ rfl rfl) rfl ?_
  rintro _ _ ⟨b2, rfl, rfl⟩
  refine RL.q (Yld.assign rfl) rfl ?_
  refine RL.nil ?_
  refine N.next ?_
  refine W.seq ?_
  refine W.region ?_
  refine RL.q (Yld.fieldAddr fo93_2 rfl) rfl ?_
  refine RL.q (Yld.ld 102 Tryz.underlying3 rfl rfl rfl rfl) rfl ?_
  refine RL.q (Yld.fieldAddr fo93_2 rfl) rfl ?_
  refine RL.q (Yld.ld 2 Tryz.underlying3 rfl rfl rfl rfl) rfl ?_
  refine RL.q (Yld.bin rfl rfl BinV.eql) rfl ?_
  refine RL.q (Yld.move rfl) rfl ?_
  refine' RL.and (t := 9) (d := 15) 6 rfl (.of [0, 1, 2, 3, 4, 5, 6, 7, 8] rfl) (.of [0, 1, 2, 102] rfl) ?_ ?_ ?_
  rotate_left 1
  ·
   intro hg9
   refine RL.gq rfl rfl (Yld.fieldAddr fo93_1 rfl) rfl ?_
   refine RL.gq rfl rfl (Yld.ld 102 Tryz.underlying3 rfl rfl rfl rfl) rfl ?_
   refine RL.gq rfl rfl (Yld.fieldAddr fo93_1 rfl) rfl ?_
   refine RL.gq rfl rfl (Yld.ld 2 Tryz.underlying3 rfl rfl rfl rfl) rfl ?_
   refine RL.gq rfl rfl (Yld.bin rfl rfl BinV.neq) rfl ?_
   refine RL.q Yld.pk rfl ?_
   exact RL.nil (N.meet (.to rfl) (.to rfl))
  ·
   intro hg9
   refine RL.gskip rfl rfl rfl rfl ?_
   refine RL.gskip rfl rfl rfl rfl ?_
   refine RL.gskip rfl rfl rfl rfl ?_
   refine RL.gskip rfl rfl rfl rfl ?_
   refine RL.gskip rfl rfl rfl rfl ?_
   refine RL.q Yld.pk rfl ?_
   exact RL.nil (N.meet (.to rfl) (.to rfl))
  refine RL.q (Yld.assign rfl) rfl ?_
  refine RL.nil ?_
  refine N.next ?_
  refine W.keep (.of [3] rfl) (.of [0, 1, 2, 102] rfl) ?_
  refine W.ret ?_
  exact N.retBy [1, 2] (.cons (.tmp rfl) .nil) rfl rfl rfl rfl ⟨rfl, rfl⟩

set_option maxRecDepth 100000 in
set_option maxHeartbeats 400000 in
theorem siteC31_ct (b : Nat) (x y : Ln) (H1 : PH) : Ct Tryz.prog 115 [.agg [.int .i64 y.a, .int .i64 y.b, .int .i64 y.cp].toArray, .pointer (some ⟨b, 0, none⟩)] [H1, single b (.cells [.int .i64 x.a, .int .i64 x.b, .int .i64 x.cp].toArray 162 (0, 0))] (fun v Hs => v = .bool (decide (y.a = x.a) && decide (y.b = x.b)) ∧ Hs = [H1, single b (.cells [.int .i64 x.a, .int .i64 x.b, .int .i64 x.cp].toArray 162 (0, 0))]) := by
  refine Ct.body Tryz.func115 rfl Tryz.ntmps115 rfl ?_
  intro E F
  refine W.seq ?_
  refine W.region ?_
  refine RL.e (Eff.box 102 _ rfl rfl) rfl ?_
  rintro _ _ ⟨b2, rfl, rfl⟩
  refine RL.q (Yld.assign rfl) rfl ?_
  refine RL.nil ?_
  refine N.next ?_
  refine W.seq ?_
  refine W.region ?_
  refine RL.q (Yld.fieldAddr fo162_0 rfl) rfl ?_
  refine RL.q (Yld.ld 102 Tryz.underlying3 rfl rfl rfl rfl) rfl ?_
  refine RL.q (Yld.fieldAddr fo162_0 rfl) rfl ?_
  refine RL.q (Yld.ld 2 Tryz.underlying3 rfl rfl rfl rfl) rfl ?_
  refine RL.q (Yld.bin rfl rfl BinV.eql) rfl ?_
  refine RL.q (Yld.move rfl) rfl ?_
  refine' RL.and (t := 9) (d := 15) 6 rfl (.of [0, 1, 2, 3, 4, 5, 6, 7, 8] rfl) (.of [0, 1, 2, 102] rfl) ?_ ?_ ?_
  rotate_left 1
  ·
   intro hg9
   refine RL.gq rfl rfl (Yld.fieldAddr fo162_1 rfl) rfl ?_
   refine RL.gq rfl rfl (Yld.ld 102 Tryz.underlying3 rfl rfl rfl rfl) rfl ?_
   refine RL.gq rfl rfl (Yld.fieldAddr fo162_1 rfl) rfl ?_
   refine RL.gq rfl rfl (Yld.ld 2 Tryz.underlying3 rfl rfl rfl rfl) rfl ?_
   refine RL.gq rfl rfl (Yld.bin rfl rfl BinV.eql) rfl ?_
   refine RL.q Yld.pk rfl ?_
   exact RL.nil (N.meet (.to rfl) (.to rfl))
  ·
   intro hg9
   refine RL.gskip rfl rfl rfl rfl ?_
   refine RL.gskip rfl rfl rfl rfl ?_
   refine RL.gskip rfl rfl rfl rfl ?_
   refine RL.gskip rfl rfl rfl rfl ?_
   refine RL.gskip rfl rfl rfl rfl ?_
   refine RL.q Yld.pk rfl ?_
   exact RL.nil (N.meet (.to rfl) (.to rfl))
  refine RL.q (Yld.assign rfl) rfl ?_
  refine RL.nil ?_
  refine N.next ?_
  refine W.keep (.of [3] rfl) (.of [0, 1, 2, 102] rfl) ?_
  refine W.ret ?_
  exact N.retBy [1, 2] (.cons (.tmp rfl) .nil) rfl rfl rfl rfl ⟨rfl, rfl⟩

set_option maxRecDepth 100000 in
set_option maxHeartbeats 400000 in
theorem siteC1_ct (m : Md) (H1 : PH) (hM : m.In H1) (b : Nat) (i : Nat) (x : Rk) (hx : m.rk[i]? = some x) : Ct Tryz.prog 107 [.agg [.string x.nm, .int .i64 x.si, .int .i64 x.fe].toArray, .slice m.prk i m.crk, .pointer (some ⟨b, 0, none⟩)] [H1, single b (.cells [.slice m.psi m.si.length m.csi, .slice m.pfe m.fe.length m.cfe, .slice m.prk m.rk.length m.crk, .slice m.pmc m.mc.length m.cmc, .slice m.pln m.ln.length m.cln, .slice m.pis m.is.length m.cis, .int .i64 m.da, .int .i64 m.sl, .int .i64 m.re, .int .i64 m.fa, .slice m.prl m.rl.length m.crl].toArray 29 (0, 0))] (fun v Hs => v = .bool (qRk m i x) ∧ Hs = [H1, single b (.cells [.slice m.psi m.si.length m.csi, .slice m.pfe m.fe.length m.cfe, .slice m.prk m.rk.length m.crk, .slice m.pmc m.mc.length m.cmc, .slice m.pln m.ln.length m.cln, .slice m.pis m.is.length m.cis, .int .i64 m.da, .int .i64 m.sl, .int .i64 m.re, .int .i64 m.fa, .slice m.prl m.rl.length m.crl].toArray 29 (0, 0))]) := by
  refine Ct.body Tryz.func107 rfl Tryz.ntmps107 rfl ?_
  intro E F
  refine W.seq ?_
  refine W.region ?_
  refine RL.e (Eff.box 103 _ rfl rfl) rfl ?_
  rintro _ _ ⟨b3, rfl, rfl⟩
  refine RL.q (Yld.assign rfl) rfl ?_
  refine RL.nil ?_
  refine N.next ?_
  refine W.seq ?_
  refine W.region ?_
  refine RL.q (Yld.makeFunc eval0 (eval1 rfl)) rfl ?_
  refine RL.q (Yld.assign rfl) rfl ?_
  refine RL.nil ?_
  refine N.next ?_
  refine W.seq ?_
  refine W.region ?_
  refine RL.q (Yld.fieldAddr fo93_1 rfl) rfl ?_
  refine RL.q (Yld.ld 103 Tryz.underlying3 rfl rfl rfl rfl) rfl ?_
  refine RL.q (Yld.fieldAddr fo29_0 rfl) rfl ?_
  refine RL.q (Yld.ld 2 Tryz.underlying22 rfl rfl rfl rfl) rfl ?_
  refine RL.q (Yld.lenSl Tryz.underlying22 rfl) rfl ?_
  refine RL.e (Eff.call ent105 [] [] (.cons rfl (.cons rfl .nil)) (exists_ct x.si m.si.length) rfl rfl rfl rfl (by rintro _ _ ⟨_, rfl⟩; rfl)) rfl ?_
  rintro _ _ ⟨_, ⟨rfl, rfl⟩, rfl⟩
  refine RL.q (Yld.move rfl) rfl ?_
  refine' RL.and (t := 14) (d := 21) 7 rfl (.of [0, 1, 2, 3, 5, 6, 7, 8, 9, 10, 11, 12, 13] rfl) (.of [0, 1, 2, 103] rfl) ?_ ?_ ?_
  rotate_left 1
  ·
   intro hg14
   refine RL.gq rfl rfl (Yld.fieldAddr fo93_2 rfl) rfl ?_
   refine RL.gq rfl rfl (Yld.ld 103 Tryz.underlying3 rfl rfl rfl rfl) rfl ?_
   refine RL.gq rfl rfl (Yld.fieldAddr fo29_1 rfl) rfl ?_
   refine RL.gq rfl rfl (Yld.ld 2 Tryz.underlying22 rfl rfl rfl rfl) rfl ?_
   refine RL.gq rfl rfl (Yld.lenSl Tryz.underlying22 rfl) rfl ?_
   refine RL.ge rfl rfl (Eff.call ent105 [] [] (.cons rfl (.cons rfl .nil)) (exists_ct x.fe m.fe.length) rfl rfl rfl rfl (by rintro _ _ ⟨_, rfl⟩; rfl)) rfl ?_
   rintro _ _ ⟨_, ⟨rfl, rfl⟩, rfl⟩
   refine RL.q Yld.pk rfl ?_
   exact RL.nil (N.meet (.to rfl) (.to rfl))
  ·
   intro hg14
   refine RL.gskip rfl rfl rfl rfl ?_
   refine RL.gskip rfl rfl rfl rfl ?_
   refine RL.gskip rfl rfl rfl rfl ?_
   refine RL.gskip rfl rfl rfl rfl ?_
   refine RL.gskip rfl rfl rfl rfl ?_
   refine RL.gskip rfl rfl rfl rfl ?_
   refine RL.q Yld.pk rfl ?_
   exact RL.nil (N.meet (.to rfl) (.to rfl))
  refine RL.q (Yld.move rfl) rfl ?_
  refine' RL.and (t := 22) (d := 27) 5 rfl (.of [0, 1, 2, 3, 5, 6, 7, 8, 9, 10, 11, 12, 13, 21] rfl) (.of [0, 1, 2, 103] rfl) ?_ ?_ ?_
  rotate_left 1
  ·
   intro hg22
   refine RL.gq rfl rfl (Yld.move rfl) rfl ?_
   refine RL.gq rfl rfl (Yld.move rfl) rfl ?_
   refine RL.ge rfl rfl (Eff.call ent109 [1, 103] [1, 103] (.cons rfl (.cons rfl .nil)) (cfRk_ct (m.rk.take i) H1 m.prk m.crk i (by rw [List.length_take]; have := (List.getElem?_eq_some_iff.1 hx).1; omega) (by rw [List.map_take]; exact hM.rk.take i) 108 [.pointer (some ⟨b3, 0, none⟩)] _ (fun y => decide (y.fe = x.fe) && decide (y.si ≠ x.si)) ent108 (fun y _ => siteC11_ct b3 x y H1)) rfl rfl rfl rfl (by rintro _ _ ⟨_, rfl⟩; rfl)) rfl ?_
   rintro _ _ ⟨_, ⟨rfl, rfl⟩, rfl⟩
   refine RL.gq rfl rfl Yld.nt rfl ?_
   refine RL.q Yld.pk rfl ?_
   exact RL.nil (N.meet (.to rfl) (.to rfl))
  ·
   intro hg22
   refine RL.gskip rfl rfl rfl rfl ?_
   refine RL.gskip rfl rfl rfl rfl ?_
   refine RL.gskip rfl rfl rfl rfl ?_
   refine RL.gskip rfl rfl rfl rfl ?_
   refine RL.q Yld.pk rfl ?_
   exact RL.nil (N.meet (.to rfl) (.to rfl))
  refine RL.q (Yld.assign rfl) rfl ?_
  refine RL.nil ?_
  refine N.next ?_
  refine W.keep (.of [5] rfl) (.of [0, 1, 2, 103] rfl) ?_
  refine W.ret ?_
  exact N.retBy [1, 2] (.cons (.tmp rfl) .nil) rfl rfl rfl rfl ⟨rfl, rfl⟩

set_option maxRecDepth 100000 in
set_option maxHeartbeats 400000 in
theorem siteC2_ct (m : Md) (H1 : PH) (hM : m.In H1) (b : Nat) (i : Nat) (x : Mc) : Ct Tryz.prog 111 [.agg [.string x.nm, .int .i64 x.rk, .int .i64 x.cp].toArray, .slice m.pmc i m.cmc, .pointer (some ⟨b, 0, none⟩)] [H1, single b (.cells [.slice m.psi m.si.length m.csi, .slice m.pfe m.fe.length m.cfe, .slice m.prk m.rk.length m.crk, .slice m.pmc m.mc.length m.cmc, .slice m.pln m.ln.length m.cln, .slice m.pis m.is.length m.cis, .int .i64 m.da, .int .i64 m.sl, .int .i64 m.re, .int .i64 m.fa, .slice m.prl m.rl.length m.crl].toArray 29 (0, 0))] (fun v Hs => v = .bool (qMc m i x) ∧ Hs = [H1, single b (.cells [.slice m.psi m.si.length m.csi, .slice m.pfe m.fe.length m.cfe, .slice m.prk m.rk.length m.crk, .slice m.pmc m.mc.length m.cmc, .slice m.pln m.ln.length m.cln, .slice m.pis m.is.length m.cis, .int .i64 m.da, .int .i64 m.sl, .int .i64 m.re, .int .i64 m.fa, .slice m.prl m.rl.length m.crl].toArray 29 (0, 0))]) := by
  refine Ct.body Tryz.func111 rfl Tryz.ntmps111 rfl ?_
  intro E F
  refine W.seq ?_
  refine W.region ?_
  refine RL.e (Eff.box 103 _ rfl rfl) rfl ?_
  rintro _ _ ⟨b3, rfl, rfl⟩
  refine RL.q (Yld.assign rfl) rfl ?_
  refine RL.nil ?_
  refine N.next ?_
  refine W.seq ?_
  refine W.region ?_
  refine RL.q (Yld.fieldAddr fo95_1 rfl) rfl ?_
  refine RL.q (Yld.ld 103 Tryz.underlying3 rfl rfl rfl rfl) rfl ?_
  refine RL.q (Yld.fieldAddr fo29_2 rfl) rfl ?_
  refine RL.q (Yld.ld 2 Tryz.underlying23 rfl rfl rfl rfl) rfl ?_
  refine RL.q (Yld.lenSl Tryz.underlying23 rfl) rfl ?_
  refine RL.e (Eff.call ent105 [] [] (.cons rfl (.cons rfl .nil)) (exists_ct x.rk m.rk.length) rfl rfl rfl rfl (by rintro _ _ ⟨_, rfl⟩; rfl)) rfl ?_
  rintro _ _ ⟨_, ⟨rfl, rfl⟩, rfl⟩
  refine RL.q (Yld.move rfl) rfl ?_
  refine' RL.and (t := 12) (d := 16) 4 rfl (.of [0, 1, 2, 3, 5, 6, 7, 8, 9, 10, 11] rfl) (.of [0, 1, 2, 103] rfl) ?_ ?_ ?_
  rotate_left 1
  ·
   intro hg12
   refine RL.gq rfl rfl (Yld.fieldAddr fo95_2 rfl) rfl ?_
   refine RL.gq rfl rfl (Yld.ld 103 Tryz.underlying3 rfl rfl rfl rfl) rfl ?_
   refine RL.ge rfl rfl (Eff.call ent112 [] [] (.cons rfl .nil) (amount_ct x.cp) rfl rfl rfl rfl (by rintro _ _ ⟨_, rfl⟩; rfl)) rfl ?_
   rintro _ _ ⟨_, ⟨rfl, rfl⟩, rfl⟩
   refine RL.q Yld.pk rfl ?_
   exact RL.nil (N.meet (.to rfl) (.to rfl))
  ·
   intro hg12
   refine RL.gskip rfl rfl rfl rfl ?_
   refine RL.gskip rfl rfl rfl rfl ?_
   refine RL.gskip rfl rfl rfl rfl ?_
   refine RL.q Yld.pk rfl ?_
   exact RL.nil (N.meet (.to rfl) (.to rfl))
  refine RL.q (Yld.assign rfl) rfl ?_
  refine RL.nil ?_
  refine N.next ?_
  refine W.keep (.of [5] rfl) (.of [0, 1, 2, 103] rfl) ?_
  refine W.ret ?_
  exact N.retBy [1, 2] (.cons (.tmp rfl) .nil) rfl rfl rfl rfl ⟨rfl, rfl⟩

set_option maxRecDepth 100000 in
set_option maxHeartbeats 400000 in
theorem siteC3_ct (m : Md) (H1 : PH) (hM : m.In H1) (b : Nat) (i : Nat) (x : Ln) (hx : m.ln[i]? = some x) : Ct Tryz.prog 114 [.agg [.int .i64 x.a, .int .i64 x.b, .int .i64 x.cp].toArray, .slice m.pln i m.cln, .pointer (some ⟨b, 0, none⟩)] [H1, single b (.cells [.slice m.psi m.si.length m.csi, .slice m.pfe m.fe.length m.cfe, .slice m.prk m.rk.length m.crk, .slice m.pmc m.mc.length m.cmc, .slice m.pln m.ln.length m.cln, .slice m.pis m.is.length m.cis, .int .i64 m.da, .int .i64 m.sl, .int .i64 m.re, .int .i64 m.fa, .slice m.prl m.rl.length m.crl].toArray 29 (0, 0))] (fun v Hs => v = .bool (qLn m i x) ∧ Hs = [H1, single b (.cells [.slice m.psi m.si.length m.csi, .slice m.pfe m.fe.length m.cfe, .slice m.prk m.rk.length m.crk, .slice m.pmc m.mc.length m.cmc, .slice m.pln m.ln.length m.cln, .slice m.pis m.is.length m.cis, .int .i64 m.da, .int .i64 m.sl, .int .i64 m.re, .int .i64 m.fa, .slice m.prl m.rl.length m.crl].toArray 29 (0, 0))]) := by
  refine Ct.body Tryz.func114 rfl Tryz.ntmps114 rfl ?_
  intro E F
  refine W.seq ?_
  refine W.region ?_
  refine RL.e (Eff.box 103 _ rfl rfl) rfl ?_
  rintro _ _ ⟨b3, rfl, rfl⟩
  refine RL.q (Yld.assign rfl) rfl ?_
  refine RL.nil ?_
  refine N.next ?_
  refine W.seq ?_
  refine W.region ?_
  refine RL.q (Yld.makeFunc eval0 (eval1 rfl)) rfl ?_
  refine RL.q (Yld.assign rfl) rfl ?_
  refine RL.nil ?_
  refine N.next ?_
  refine W.seq ?_
  refine W.region ?_
  refine RL.q (Yld.fieldAddr fo162_0 rfl) rfl ?_
  refine RL.q (Yld.ld 103 Tryz.underlying3 rfl rfl rfl rfl) rfl ?_
  refine RL.q (Yld.bin rfl rfl BinV.geq) rfl ?_
  refine RL.q (Yld.move rfl) rfl ?_
  refine' RL.and (t := 11) (d := 17) 6 rfl (.of [0, 1, 2, 3, 5, 6, 7, 8, 9, 10] rfl) (.of [0, 1, 2, 103] rfl) ?_ ?_ ?_
  rotate_left 1
  ·
   intro hg11
   refine RL.gq rfl rfl (Yld.fieldAddr fo162_0 rfl) rfl ?_
   refine RL.gq rfl rfl (Yld.ld 103 Tryz.underlying3 rfl rfl rfl rfl) rfl ?_
   refine RL.gq rfl rfl (Yld.fieldAddr fo162_1 rfl) rfl ?_
   refine RL.gq rfl rfl (Yld.ld 103 Tryz.underlying3 rfl rfl rfl rfl) rfl ?_
   refine RL.gq rfl rfl (Yld.bin rfl rfl BinV.lss) rfl ?_
   refine RL.q Yld.pk rfl ?_
   exact RL.nil (N.meet (.to rfl) (.to rfl))
  ·
   intro hg11
   refine RL.gskip rfl rfl rfl rfl ?_
   refine RL.gskip rfl rfl rfl rfl ?_
   refine RL.gskip rfl rfl rfl rfl ?_
   refine RL.gskip rfl rfl rfl rfl ?_
   refine RL.gskip rfl rfl rfl rfl ?_
   refine RL.q Yld.pk rfl ?_
   exact RL.nil (N.meet (.to rfl) (.to rfl))
  refine RL.q (Yld.move rfl) rfl ?_
  refine' RL.and (t := 18) (d := 25) 7 rfl (.of [0, 1, 2, 3, 5, 6, 7, 8, 9, 10, 17] rfl) (.of [0, 1, 2, 103] rfl) ?_ ?_ ?_
  rotate_left 1
  ·
   intro hg18
   refine RL.gq rfl rfl (Yld.fieldAddr fo162_1 rfl) rfl ?_
   refine RL.gq rfl rfl (Yld.ld 103 Tryz.underlying3 rfl rfl rfl rfl) rfl ?_
   refine RL.gq rfl rfl (Yld.fieldAddr fo29_0 rfl) rfl ?_
   refine RL.gq rfl rfl (Yld.ld 2 Tryz.underlying22 rfl rfl rfl rfl) rfl ?_
   refine RL.gq rfl rfl (Yld.lenSl Tryz.underlying22 rfl) rfl ?_
   refine RL.gq rfl rfl (Yld.bin rfl rfl BinV.leq) rfl ?_
   refine RL.q Yld.pk rfl ?_
   exact RL.nil (N.meet (.to rfl) (.to rfl))
  ·
   intro hg18
   refine RL.gskip rfl rfl rfl rfl ?_
   refine RL.gskip rfl rfl rfl rfl ?_
   refine RL.gskip rfl rfl rfl rfl ?_
   refine RL.gskip rfl rfl rfl rfl ?_
   refine RL.gskip rfl rfl rfl rfl ?_
   refine RL.gskip rfl rfl rfl rfl ?_
   refine RL.q Yld.pk rfl ?_
   exact RL.nil (N.meet (.to rfl) (.to rfl))
  refine RL.q (Yld.move rfl) rfl ?_
  refine' RL.and (t := 26) (d := 30) 4 rfl (.of [0, 1, 2, 3, 5, 6, 7, 8, 9, 10, 17, 25] rfl) (.of [0, 1, 2, 103] rfl) ?_ ?_ ?_
  rotate_left 1
  ·
   intro hg26
   refine RL.gq rfl rfl (Yld.fieldAddr fo162_2 rfl) rfl ?_
   refine RL.gq rfl rfl (Yld.ld 103 Tryz.underlying3 rfl rfl rfl rfl) rfl ?_
   refine RL.ge rfl rfl (Eff.call ent112 [] [] (.cons rfl .nil) (amount_ct x.cp) rfl rfl rfl rfl (by rintro _ _ ⟨_, rfl⟩; rfl)) rfl ?_
   rintro _ _ ⟨_, ⟨rfl, rfl⟩, rfl⟩
   refine RL.q Yld.pk rfl ?_
   exact RL.nil (N.meet (.to rfl) (.to rfl))
  ·
   intro hg26
   refine RL.gskip rfl rfl rfl rfl ?_
   refine RL.gskip rfl rfl rfl rfl ?_
   refine RL.gskip rfl rfl rfl rfl ?_
   refine RL.q Yld.pk rfl ?_
   exact RL.nil (N.meet (.to rfl) (.to rfl))
  refine RL.q (Yld.move rfl) rfl ?_
  refine' RL.and (t := 31) (d := 36) 5 rfl (.of [0, 1, 2, 3, 5, 6, 7, 8, 9, 10, 17, 25, 30] rfl) (.of [0, 1, 2, 103] rfl) ?_ ?_ ?_
  rotate_left 1
  ·
   intro hg31
   refine RL.gq rfl rfl (Yld.move rfl) rfl ?_
   refine RL.gq rfl rfl (Yld.move rfl) rfl ?_
   refine RL.ge rfl rfl (Eff.call ent116 [1, 103] [1, 103] (.cons rfl (.cons rfl .nil)) (cfLn_ct (m.ln.take i) H1 m.pln m.cln i (by rw [List.length_take]; have := (List.getElem?_eq_some_iff.1 hx).1; omega) (by rw [List.map_take]; exact hM.ln.take i) 115 [.pointer (some ⟨b3, 0, none⟩)] _ (fun y => decide (y.a = x.a) && decide (y.b = x.b)) ent115 (fun y _ => siteC31_ct b3 x y H1)) rfl rfl rfl rfl (by rintro _ _ ⟨_, rfl⟩; rfl)) rfl ?_
   rintro _ _ ⟨_, ⟨rfl, rfl⟩, rfl⟩
   refine RL.gq rfl rfl Yld.nt rfl ?_
   refine RL.q Yld.pk rfl ?_
   exact RL.nil (N.meet (.to rfl) (.to rfl))
  ·
   intro hg31
   refine RL.gskip rfl rfl rfl rfl ?_
   refine RL.gskip rfl rfl rfl rfl ?_
   refine RL.gskip rfl rfl rfl rfl ?_
   refine RL.gskip rfl rfl rfl rfl ?_
   refine RL.q Yld.pk rfl ?_
   exact RL.nil (N.meet (.to rfl) (.to rfl))
  refine RL.q (Yld.assign rfl) rfl ?_
  refine RL.nil ?_
  refine N.next ?_
  refine W.keep (.of [5] rfl) (.of [0, 1, 2, 103] rfl) ?_
  refine W.ret ?_
  exact N.retBy [1, 2] (.cons (.tmp rfl) .nil) rfl rfl rfl rfl ⟨rfl, rfl⟩

set_option maxRecDepth 100000 in
set_option maxHeartbeats 1600000 in
theorem site_ct (m : Md) (H1 : PH) (hM : m.In H1) : Ct Tryz.prog 66 [.agg [.slice m.psi m.si.length m.csi, .slice m.pfe m.fe.length m.cfe, .slice m.prk m.rk.length m.crk, .slice m.pmc m.mc.length m.cmc, .slice m.pln m.ln.length m.cln, .slice m.pis m.is.length m.cis, .int .i64 m.da, .int .i64 m.sl, .int .i64 m.re, .int .i64 m.fa, .slice m.prl m.rl.length m.crl].toArray] [H1] (fun v Hs => v = .bool (pB (SiteV m)) ∧ Hs = [H1]) := by
  refine Ct.body Tryz.func66 rfl Tryz.ntmps66 rfl ?_
  intro E F
  refine W.seq ?_
  refine W.region ?_
  refine RL.e (Eff.box 101 _ rfl rfl) rfl ?_
  rintro _ _ ⟨b1, rfl, rfl⟩
  refine RL.q (Yld.assign rfl) rfl ?_
  refine RL.nil ?_
  refine N.next ?_
  refine W.seq ?_
  refine W.seq ?_
  refine W.region ?_
  refine RL.q (Yld.fieldAddr fo29_0 rfl) rfl ?_
  refine RL.q (Yld.ld 101 Tryz.underlying22 rfl rfl rfl rfl) rfl ?_
  refine RL.q (Yld.lenSl Tryz.underlying22 rfl) rfl ?_
  refine RL.e (Eff.call ent105 [] [] (.cons rfl (.cons rfl .nil)) (exists_ct m.si.length 4) rfl rfl rfl rfl (by rintro _ _ ⟨_, rfl⟩; rfl)) rfl ?_
  rintro _ _ ⟨_, ⟨rfl, rfl⟩, rfl⟩
  refine RL.q Yld.nt rfl ?_
  refine RL.q (Yld.move rfl) rfl ?_
  refine' RL.or (t := 11) (d := 16) 5 rfl (.of [0, 1, 2, 6, 7, 8, 9, 10] rfl) (.of [0, 1, 101] rfl) ?_ ?_ ?_
  rotate_left 1
  ·
   intro hg11
   refine RL.gq rfl rfl (Yld.fieldAddr fo29_1 rfl) rfl ?_
   refine RL.gq rfl rfl (Yld.ld 101 Tryz.underlying22 rfl rfl rfl rfl) rfl ?_
   refine RL.gq rfl rfl (Yld.lenSl Tryz.underlying22 rfl) rfl ?_
   refine RL.gq rfl rfl (Yld.bin rfl rfl BinV.gtr) rfl ?_
   refine RL.q Yld.pk rfl ?_
   exact RL.nil (N.meet (.to rfl) (.to rfl))
  ·
   intro hg11
   refine RL.gskip rfl rfl rfl rfl ?_
   refine RL.gskip rfl rfl rfl rfl ?_
   refine RL.gskip rfl rfl rfl rfl ?_
   refine RL.gskip rfl rfl rfl rfl ?_
   refine RL.q Yld.pk rfl ?_
   exact RL.nil (N.meet (.to rfl) (.to rfl))
  refine RL.q (Yld.move rfl) rfl ?_
  refine' RL.or (t := 17) (d := 22) 5 rfl (.of [0, 1, 2, 6, 7, 8, 9, 10, 16] rfl) (.of [0, 1, 101] rfl) ?_ ?_ ?_
  rotate_left 1
  ·
   intro hg17
   refine RL.gq rfl rfl (Yld.fieldAddr fo29_2 rfl) rfl ?_
   refine RL.gq rfl rfl (Yld.ld 101 Tryz.underlying23 rfl rfl rfl rfl) rfl ?_
   refine RL.gq rfl rfl (Yld.lenSl Tryz.underlying23 rfl) rfl ?_
   refine RL.gq rfl rfl (Yld.bin rfl rfl BinV.gtr) rfl ?_
   refine RL.q Yld.pk rfl ?_
   exact RL.nil (N.meet (.to rfl) (.to rfl))
  ·
   intro hg17
   refine RL.gskip rfl rfl rfl rfl ?_
   refine RL.gskip rfl rfl rfl rfl ?_
   refine RL.gskip rfl rfl rfl rfl ?_
   refine RL.gskip rfl rfl rfl rfl ?_
   refine RL.q Yld.pk rfl ?_
   exact RL.nil (N.meet (.to rfl) (.to rfl))
  refine RL.q (Yld.move rfl) rfl ?_
  refine' RL.or (t := 23) (d := 29) 6 rfl (.of [0, 1, 2, 6, 7, 8, 9, 10, 16, 22] rfl) (.of [0, 1, 101] rfl) ?_ ?_ ?_
  rotate_left 1
  ·
   intro hg23
   refine RL.gq rfl rfl (Yld.fieldAddr fo29_3 rfl) rfl ?_
   refine RL.gq rfl rfl (Yld.ld 101 Tryz.underlying24 rfl rfl rfl rfl) rfl ?_
   refine RL.gq rfl rfl (Yld.lenSl Tryz.underlying24 rfl) rfl ?_
   refine RL.ge rfl rfl (Eff.call ent105 [] [] (.cons rfl (.cons rfl .nil)) (exists_ct m.mc.length 16) rfl rfl rfl rfl (by rintro _ _ ⟨_, rfl⟩; rfl)) rfl ?_
   rintro _ _ ⟨_, ⟨rfl, rfl⟩, rfl⟩
   refine RL.gq rfl rfl Yld.nt rfl ?_
   refine RL.q Yld.pk rfl ?_
   exact RL.nil (N.meet (.to rfl) (.to rfl))
  ·
   intro hg23
   refine RL.gskip rfl rfl rfl rfl ?_
   refine RL.gskip rfl rfl rfl rfl ?_
   refine RL.gskip rfl rfl rfl rfl ?_
   refine RL.gskip rfl rfl rfl rfl ?_
   refine RL.gskip rfl rfl rfl rfl ?_
   refine RL.q Yld.pk rfl ?_
   exact RL.nil (N.meet (.to rfl) (.to rfl))
  refine RL.q (Yld.move rfl) rfl ?_
  refine' RL.or (t := 30) (d := 35) 5 rfl (.of [0, 1, 2, 6, 7, 8, 9, 10, 16, 22, 29] rfl) (.of [0, 1, 101] rfl) ?_ ?_ ?_
  rotate_left 1
  ·
   intro hg30
   refine RL.gq rfl rfl (Yld.fieldAddr fo29_4 rfl) rfl ?_
   refine RL.gq rfl rfl (Yld.ld 101 Tryz.underlying25 rfl rfl rfl rfl) rfl ?_
   refine RL.gq rfl rfl (Yld.lenSl Tryz.underlying25 rfl) rfl ?_
   refine RL.gq rfl rfl (Yld.bin rfl rfl BinV.gtr) rfl ?_
   refine RL.q Yld.pk rfl ?_
   exact RL.nil (N.meet (.to rfl) (.to rfl))
  ·
   intro hg30
   refine RL.gskip rfl rfl rfl rfl ?_
   refine RL.gskip rfl rfl rfl rfl ?_
   refine RL.gskip rfl rfl rfl rfl ?_
   refine RL.gskip rfl rfl rfl rfl ?_
   refine RL.q Yld.pk rfl ?_
   exact RL.nil (N.meet (.to rfl) (.to rfl))
  refine RL.nil ?_
  refine N.next ?_
  refine W.keep (.of [1, 35] rfl) (.of [0, 1, 101] rfl) ?_
  refine W.cond rfl (fun hc35 => ?_) (fun hc35 => ?_)
  ·
   have hcv : cntV m = true := by unfold cntV; exact hc35
   refine W.seq ?_
   refine W.region ?_
   refine RL.q (Yld.assign rfl) rfl ?_
   refine RL.nil ?_
   refine N.next ?_
   refine W.ret ?_
   refine N.then_ret ?_
   exact N.retBy [1] (.cons (.tmp rfl) .nil) rfl rfl rfl rfl ⟨by rw [pB_not (site_no hcv)]; rfl, rfl⟩
  ·
   have hcv : cntV m = false := by unfold cntV; exact hc35
   refine W.skip ?_
   refine N.next ?_
   refine W.seq ?_
   refine W.region ?_
   refine RL.q (Yld.fieldAddr fo29_2 rfl) rfl ?_
   refine RL.q (Yld.ld 101 Tryz.underlying23 rfl rfl rfl rfl) rfl ?_
   refine RL.q (Yld.makeFunc eval0 (eval1 rfl)) rfl ?_
   refine RL.e (Eff.call ent106 [1, 101] [1, 101] (.cons rfl (.cons rfl .nil)) (soundRk_ct m.rk H1 m.prk m.crk hM.rk 107 [.pointer (some ⟨b1, 0, none⟩)] _ (qRk m) ent107 (fun i x hx => siteC1_ct m H1 hM b1 i x hx)) rfl rfl rfl rfl (by rintro _ _ ⟨_, rfl⟩; rfl)) rfl ?_
   rintro _ _ ⟨_, ⟨rfl, rfl⟩, rfl⟩
   refine RL.q (Yld.assign rfl) rfl ?_
   refine RL.nil ?_
   refine N.next ?_
   refine W.keep (.of [1, 3] rfl) (.of [0, 1, 101] rfl) ?_
   refine W.seq ?_
   refine W.region ?_
   refine RL.q (Yld.fieldAddr fo29_3 rfl) rfl ?_
   refine RL.q (Yld.ld 101 Tryz.underlying24 rfl rfl rfl rfl) rfl ?_
   refine RL.q (Yld.makeFunc eval0 (eval1 rfl)) rfl ?_
   refine RL.e (Eff.call ent110 [1, 101] [1, 101] (.cons rfl (.cons rfl .nil)) (soundMc_ct m.mc H1 m.pmc m.cmc hM.mc 111 [.pointer (some ⟨b1, 0, none⟩)] _ (qMc m) ent111 (fun i x hx => siteC2_ct m H1 hM b1 i x)) rfl rfl rfl rfl (by rintro _ _ ⟨_, rfl⟩; rfl)) rfl ?_
   rintro _ _ ⟨_, ⟨rfl, rfl⟩, rfl⟩
   refine RL.q (Yld.assign rfl) rfl ?_
   refine RL.nil ?_
   refine N.next ?_
   refine W.keep (.of [1, 3, 4] rfl) (.of [0, 1, 101] rfl) ?_
   refine W.seq ?_
   refine W.region ?_
   refine RL.q (Yld.fieldAddr fo29_4 rfl) rfl ?_
   refine RL.q (Yld.ld 101 Tryz.underlying25 rfl rfl rfl rfl) rfl ?_
   refine RL.q (Yld.makeFunc eval0 (eval1 rfl)) rfl ?_
   refine RL.e (Eff.call ent113 [1, 101] [1, 101] (.cons rfl (.cons rfl .nil)) (soundLn_ct m.ln H1 m.pln m.cln hM.ln 114 [.pointer (some ⟨b1, 0, none⟩)] _ (qLn m) ent114 (fun i x hx => siteC3_ct m H1 hM b1 i x hx)) rfl rfl rfl rfl (by rintro _ _ ⟨_, rfl⟩; rfl)) rfl ?_
   rintro _ _ ⟨_, ⟨rfl, rfl⟩, rfl⟩
   refine RL.q (Yld.assign rfl) rfl ?_
   refine RL.nil ?_
   refine N.next ?_
   refine W.keep (.of [3, 4, 5] rfl) (.of [0, 1, 101] rfl) ?_
   refine W.seq ?_
   refine W.region ?_
   refine RL.q (Yld.move rfl) rfl ?_
   refine RL.q (Yld.move rfl) rfl ?_
   refine' RL.and (t := 49) (d := 51) 2 rfl (.of [3, 4, 5, 48] rfl) (.of [0, 1, 101] rfl) ?_ ?_ ?_
   rotate_left 1
   ·
    intro hg49
    refine RL.gq rfl rfl (Yld.move rfl) rfl ?_
    refine RL.q Yld.pk rfl ?_
    exact RL.nil (N.meet (.to rfl) (.to rfl))
   ·
    intro hg49
    refine RL.gskip rfl rfl rfl rfl ?_
    refine RL.q Yld.pk rfl ?_
    exact RL.nil (N.meet (.to rfl) (.to rfl))
   refine RL.q (Yld.move rfl) rfl ?_
   refine' RL.and (t := 52) (d := 54) 2 rfl (.of [3, 4, 5, 48, 51] rfl) (.of [0, 1, 101] rfl) ?_ ?_ ?_
   rotate_left 1
   ·
    intro hg52
    refine RL.gq rfl rfl (Yld.move rfl) rfl ?_
    refine RL.q Yld.pk rfl ?_
    exact RL.nil (N.meet (.to rfl) (.to rfl))
   ·
    intro hg52
    refine RL.gskip rfl rfl rfl rfl ?_
    refine RL.q Yld.pk rfl ?_
    exact RL.nil (N.meet (.to rfl) (.to rfl))
   refine RL.q (Yld.assign rfl) rfl ?_
   refine RL.nil ?_
   refine N.next ?_
   refine W.keep (.of [2] rfl) (.of [0, 1, 101] rfl) ?_
   refine W.ret ?_
   exact N.retBy [1] (.cons (.tmp rfl) .nil) rfl rfl rfl rfl ⟨by show Value.bool _ = Value.bool _; congr 1; rw [Bool.eq_iff_iff]; rw [pB_iff, site_iff hcv, Bool.and_eq_true, Bool.and_eq_true, pB_iff, pB_iff, pB_iff, and_assoc], rfl⟩

end Go.Proofs.YtboapdcmaeojgaaGreatDoor
/- Lists. Written by program (walk2.py). -/
namespace Go.Proofs.YtboapdcmaeojgaaGreatDoor
open SL Cat
set_option linter.unusedVariables false
set_option linter.unusedSimpArgs false
theorem sz3 : sz Tryz.prog 3 1 := (by kernel_rfl : (Tryz.prog.info? 3).map (·.size) = some 1)
theorem ent76 : Ent Tryz.prog 76 := ⟨_, _, Tryz.func76, by kernel_rfl, rfl⟩
theorem sz9 : sz Tryz.prog 9 1 := (by kernel_rfl : (Tryz.prog.info? 9).map (·.size) = some 1)
theorem ent164 : Ent Tryz.prog 164 := ⟨_, _, Tryz.func164, by kernel_rfl, rfl⟩
set_option maxRecDepth 100000 in
set_option maxHeartbeats 400000 in
theorem index_ct (l : List Int) (H1 : PH) (p : Option Addr) (c : Nat) (hl : Sl H1 p c 1 (iz l)) (a : Int) : Ct Tryz.prog 76 [.slice p l.length c, .int .i64 a] [H1] (fun v Hs => (∃ r : Int, v = .int .i64 r ∧ (0 ≤ r ↔ a ∈ l)) ∧ Hs = [H1]) := by
  refine Ct.body Tryz.func76 rfl Tryz.ntmps76 rfl ?_
  intro E F
  have hmxl := hl.len_le
  simp only [iz_len, maxLen] at hmxl
  refine W.seq ?_
  refine W.region ?_
  refine RL.q (Yld.assign rfl) rfl ?_
  refine RL.nil ?_
  refine N.next ?_
  refine W.seq ?_
  refine W.seq ?_
  refine W.region ?_
  refine RL.q (Yld.move rfl) rfl ?_
  refine RL.q (Yld.lenSl Tryz.underlying55 rfl) rfl ?_
  refine RL.q (Yld.move rfl) rfl ?_
  refine RL.nil ?_
  refine N.next ?_
  refine W.block ?_
  refine W.loopK (ι := Nat) (fun j => (j ≤ l.length ∧ ∀ (i : Nat) z, i < j → l[i]? = some z → a ≠ z)) (fun j => [(8, .int .i64 (j : Nat))]) (fun j => []) (fun j => l.length - j) (.of [0, 1, 7] rfl) (.of [0, 1] rfl) 0 ?_ ?_ ?_ ?_
  · exact ⟨Nat.zero_le _, fun _ _ h => absurd h (Nat.not_lt_zero _)⟩
  · exact (.as rfl (by first | rfl | (simp; done) | (congr 1; simp; done) | (congr 1; omega)) .nil)
  · exact .nil
  rintro j ⟨hj, hI⟩
  refine W.keep (.of [8, 0, 1, 7] rfl) (.of [0, 1] rfl) ?_
  refine W.seq ?_
  refine W.region ?_
  refine RL.q (Yld.bin rfl rfl BinV.lss) rfl ?_
  refine RL.nil ?_
  refine N.next ?_
  refine W.seq ?_
  first | refine W.condD rfl (fun hc9 => ?_) (fun hc9 => ?_) | (refine W.cond rfl (fun hc9 => ?_) (fun hc9 => ?_) <;> try simp only [Bool.or_eq_true, Bool.and_eq_true, Bool.not_eq_true', Bool.not_eq_false', decide_eq_true_eq, Bool.or_eq_false_iff, Bool.and_eq_false_iff, decide_eq_false_iff_not, beq_iff_eq, beq_eq_false_iff_ne, ne_eq, Decidable.not_not] at hc9)
  ·
   obtain ⟨z, hz, hlz⟩ := iz_at (show j < l.length by omega)
   refine W.skip ?_
   refine N.next ?_
   refine W.seq ?_
   refine W.block ?_
   refine W.seq ?_
   refine W.region ?_
   refine RL.q (Yld.move rfl) rfl ?_
   refine RL.q (Yld.assign rfl) rfl ?_
   refine RL.nil ?_
   refine N.next ?_
   refine W.seq ?_
   refine W.region ?_
   refine RL.q (Yld.move rfl) rfl ?_
   refine RL.q (Yld.move rfl) rfl ?_
   refine RL.q (Yld.move rfl) rfl ?_
   refine RL.q (Yld.ixr Tryz.underlying55 sz3 rfl rfl) rfl ?_
   refine RL.q (by first | exact (Yld.loadRow1 (cl := 1) Tryz.underlying3 rfl rfl rfl (by first | assumption | exact Own.sl (by assumption)) (by assumption)) | exact (Yld.lrF 1 0 Tryz.underlying3 rfl rfl rfl rfl)) rfl ?_
   refine RL.q (Yld.bin rfl rfl BinV.eql) rfl ?_
   refine RL.nil ?_
   refine N.next ?_
   refine W.keep (.of [0, 1, 5, 7, 8, 16] rfl) (.of [0, 1] rfl) ?_
   first | refine W.condD rfl (fun hc16 => ?_) (fun hc16 => ?_) | (refine W.cond rfl (fun hc16 => ?_) (fun hc16 => ?_) <;> try simp only [Bool.or_eq_true, Bool.and_eq_true, Bool.not_eq_true', Bool.not_eq_false', decide_eq_true_eq, Bool.or_eq_false_iff, Bool.and_eq_false_iff, decide_eq_false_iff_not, beq_iff_eq, beq_eq_false_iff_ne, ne_eq, Decidable.not_not] at hc16)
   ·
    refine W.seq ?_
    refine W.region ?_
    refine RL.q (Yld.move rfl) rfl ?_
    refine RL.q (Yld.assign rfl) rfl ?_
    refine RL.nil ?_
    refine N.next ?_
    refine W.keep (.of [4] rfl) (.of [0, 1] rfl) ?_
    refine W.ret ?_
    refine N.block_ret ?_
    refine N.then_ret ?_
    refine N.then_ret ?_
    refine N.block_ret ?_
    refine N.then_ret ?_
    exact N.retBy [1] (.cons (.tmp rfl) .nil) rfl rfl rfl rfl ⟨⟨_, rfl, ⟨fun _ => by rw [hc16]; exact List.mem_of_getElem? hz, fun _ => by omega⟩⟩, rfl⟩
   ·
    refine W.skip ?_
    refine N.block_normal ?_
    refine N.next ?_
    refine W.region ?_
    refine RL.q (Yld.bin rfl rfl (by first | exact BinV.add (by omega) (by omega) | exact BinV.addW)) rfl ?_
    refine RL.q (Yld.move rfl) rfl ?_
    refine RL.nil ?_
    exact N.famK (j + 1) ⟨⟨by omega, fun i y hi hy => (Nat.lt_succ_iff_lt_or_eq.1 hi).elim (fun h => hI i y h hy) (fun e => by subst e; rw [hz] at hy; cases hy; exact hc16)⟩, by omega⟩ (.as rfl (by first | rfl | (simp; done) | (congr 1; simp; done) | (congr 1; omega)) .nil) (.to rfl) .nil (.to rfl)
  ·
   refine W.exit ?_
   refine N.then_exit ?_
   refine N.then_exit ?_
   refine N.block_eq ?_
   refine N.next ?_
   refine W.keep .nil (.of [0, 1] rfl) ?_
   refine W.seq ?_
   refine W.region ?_
   refine RL.q (Yld.assign rfl) rfl ?_
   refine RL.nil ?_
   refine N.next ?_
   refine W.ret ?_
   exact N.retBy [1] (.cons (.tmp rfl) .nil) rfl rfl rfl rfl ⟨⟨_, rfl, ⟨fun h => absurd h (by omega), fun h => by obtain ⟨i, hi⟩ := List.getElem?_of_mem h; exact absurd rfl (hI i a (by have := (List.getElem?_eq_some_iff.1 hi).1; omega) hi)⟩⟩, rfl⟩

set_option maxRecDepth 100000 in
set_option maxHeartbeats 400000 in
theorem contains_ct (l : List Int) (H1 : PH) (p : Option Addr) (c : Nat) (hl : Sl H1 p c 1 (iz l)) (a : Int) : Ct Tryz.prog 35 [.slice p l.length c, .int .i64 a] [H1] (fun v Hs => v = .bool (decide (a ∈ l)) ∧ Hs = [H1]) := by
  refine Ct.body Tryz.func35 rfl Tryz.ntmps35 rfl ?_
  intro E F
  refine W.seq ?_
  refine W.region ?_
  refine RL.q (Yld.assign rfl) rfl ?_
  refine RL.nil ?_
  refine N.next ?_
  refine W.seq ?_
  refine W.region ?_
  refine RL.q (Yld.move rfl) rfl ?_
  refine RL.q (Yld.move rfl) rfl ?_
  refine RL.e (Eff.call ent76 [1] [1] (.cons rfl (.cons rfl .nil)) (index_ct l _ _ _ hl a) rfl rfl rfl rfl (by rintro _ _ ⟨_, rfl⟩; rfl)) rfl ?_
  rintro _ _ ⟨_, ⟨⟨r, rfl, hr⟩, rfl⟩, rfl⟩
  refine RL.q (Yld.bin rfl rfl BinV.geq) rfl ?_
  refine RL.q (Yld.assign rfl) rfl ?_
  refine RL.nil ?_
  refine N.next ?_
  refine W.keep (.of [4] rfl) (.of [0, 1] rfl) ?_
  refine W.ret ?_
  exact N.retBy [1] (.cons (.tmp rfl) .nil) rfl rfl rfl rfl ⟨by show Value.bool _ = _; congr 1; exact decide_eq_decide.2 hr, rfl⟩

set_option maxRecDepth 100000 in
set_option maxHeartbeats 400000 in
theorem indexT_ct (l : List Ky) (H1 : PH) (p : Option Addr) (c : Nat) (hl : Sl H1 p c 1 (tz l)) (a : Ky) : Ct Tryz.prog 164 [.slice p l.length c, .string a] [H1] (fun v Hs => (∃ r : Int, v = .int .i64 r ∧ (0 ≤ r ↔ a ∈ l)) ∧ Hs = [H1]) := by
  refine Ct.body Tryz.func164 rfl Tryz.ntmps164 rfl ?_
  intro E F
  have hmx := hl.len_le
  simp only [tz_len, maxLen] at hmx
  refine W.seq ?_
  refine W.region ?_
  refine RL.q (Yld.assign rfl) rfl ?_
  refine RL.nil ?_
  refine N.next ?_
  refine W.seq ?_
  refine W.seq ?_
  refine W.region ?_
  refine RL.q (Yld.move rfl) rfl ?_
  refine RL.q (Yld.lenSl Tryz.underlying22 rfl) rfl ?_
  refine RL.q (Yld.move rfl) rfl ?_
  refine RL.nil ?_
  refine N.next ?_
  refine W.block ?_
  refine W.loopK (ι := Nat) (fun j => (j ≤ l.length ∧ ∀ (i : Nat) z, i < j → l[i]? = some z → a ≠ z)) (fun j => [(8, .int .i64 (j : Nat))]) (fun j => []) (fun j => l.length - j) (.of [0, 1, 7] rfl) (.of [0, 1] rfl) 0 ?_ ?_ ?_ ?_
  · exact ⟨Nat.zero_le _, fun _ _ h => absurd h (Nat.not_lt_zero _)⟩
  · exact (.as rfl (by first | rfl | (simp; done) | (congr 1; simp; done) | (congr 1; omega)) .nil)
  · exact .nil
  rintro j ⟨hj, hI⟩
  refine W.keep (.of [8, 0, 1, 7] rfl) (.of [0, 1] rfl) ?_
  refine W.seq ?_
  refine W.region ?_
  refine RL.q (Yld.bin rfl rfl BinV.lss) rfl ?_
  refine RL.nil ?_
  refine N.next ?_
  refine W.seq ?_
  first | refine W.condD rfl (fun hc9 => ?_) (fun hc9 => ?_) | (refine W.cond rfl (fun hc9 => ?_) (fun hc9 => ?_) <;> try simp only [Bool.or_eq_true, Bool.and_eq_true, Bool.not_eq_true', Bool.not_eq_false', decide_eq_true_eq, Bool.or_eq_false_iff, Bool.and_eq_false_iff, decide_eq_false_iff_not, beq_iff_eq, beq_eq_false_iff_ne, ne_eq, Decidable.not_not] at hc9)
  ·
   obtain ⟨z, hz, hlz⟩ := tz_at (show j < l.length by omega)
   refine W.skip ?_
   refine N.next ?_
   refine W.seq ?_
   refine W.block ?_
   refine W.seq ?_
   refine W.region ?_
   refine RL.q (Yld.move rfl) rfl ?_
   refine RL.q (Yld.assign rfl) rfl ?_
   refine RL.nil ?_
   refine N.next ?_
   refine W.seq ?_
   refine W.region ?_
   refine RL.q (Yld.move rfl) rfl ?_
   refine RL.q (Yld.move rfl) rfl ?_
   refine RL.q (Yld.move rfl) rfl ?_
   refine RL.q (Yld.ixr Tryz.underlying22 sz9 rfl rfl) rfl ?_
   refine RL.q (by first | exact (Yld.loadRow1 (cl := 1) Tryz.underlying9 rfl rfl rfl (by first | assumption | exact Own.sl (by assumption)) (by assumption)) | exact (Yld.lrF 1 0 Tryz.underlying9 rfl rfl rfl rfl)) rfl ?_
   refine RL.q (Yld.bin rfl rfl BinV.eqlS) rfl ?_
   refine RL.nil ?_
   refine N.next ?_
   refine W.keep (.of [0, 1, 5, 7, 8, 16] rfl) (.of [0, 1] rfl) ?_
   first | refine W.condD rfl (fun hc16 => ?_) (fun hc16 => ?_) | (refine W.cond rfl (fun hc16 => ?_) (fun hc16 => ?_) <;> try simp only [Bool.or_eq_true, Bool.and_eq_true, Bool.not_eq_true', Bool.not_eq_false', decide_eq_true_eq, Bool.or_eq_false_iff, Bool.and_eq_false_iff, decide_eq_false_iff_not, beq_iff_eq, beq_eq_false_iff_ne, ne_eq, Decidable.not_not] at hc16)
   ·
    refine W.seq ?_
    refine W.region ?_
    refine RL.q (Yld.move rfl) rfl ?_
    refine RL.q (Yld.assign rfl) rfl ?_
    refine RL.nil ?_
    refine N.next ?_
    refine W.keep (.of [4] rfl) (.of [0, 1] rfl) ?_
    refine W.ret ?_
    refine N.block_ret ?_
    refine N.then_ret ?_
    refine N.then_ret ?_
    refine N.block_ret ?_
    refine N.then_ret ?_
    exact N.retBy [1] (.cons (.tmp rfl) .nil) rfl rfl rfl rfl ⟨⟨_, rfl, ⟨fun _ => by rw [hc16]; exact List.mem_of_getElem? hz, fun _ => by omega⟩⟩, rfl⟩
   ·
    refine W.skip ?_
    refine N.block_normal ?_
    refine N.next ?_
    refine W.region ?_
    refine RL.q (Yld.bin rfl rfl (by first | exact BinV.add (by omega) (by omega) | exact BinV.addW)) rfl ?_
    refine RL.q (Yld.move rfl) rfl ?_
    refine RL.nil ?_
    exact N.famK (j + 1) ⟨⟨by omega, fun i y hi hy => (Nat.lt_succ_iff_lt_or_eq.1 hi).elim (fun h => hI i y h hy) (fun e => by subst e; rw [hz] at hy; cases hy; exact hc16)⟩, by omega⟩ (.as rfl (by first | rfl | (simp; done) | (congr 1; simp; done) | (congr 1; omega)) .nil) (.to rfl) .nil (.to rfl)
  ·
   refine W.exit ?_
   refine N.then_exit ?_
   refine N.then_exit ?_
   refine N.block_eq ?_
   refine N.next ?_
   refine W.keep .nil (.of [0, 1] rfl) ?_
   refine W.seq ?_
   refine W.region ?_
   refine RL.q (Yld.assign rfl) rfl ?_
   refine RL.nil ?_
   refine N.next ?_
   refine W.ret ?_
   exact N.retBy [1] (.cons (.tmp rfl) .nil) rfl rfl rfl rfl ⟨⟨_, rfl, ⟨fun h => absurd h (by omega), fun h => by obtain ⟨i, hi⟩ := List.getElem?_of_mem h; exact absurd rfl (hI i a (by have := (List.getElem?_eq_some_iff.1 hi).1; omega) hi)⟩⟩, rfl⟩

set_option maxRecDepth 100000 in
set_option maxHeartbeats 400000 in
theorem containsT_ct (l : List Ky) (H1 : PH) (p : Option Addr) (c : Nat) (hl : Sl H1 p c 1 (tz l)) (a : Ky) : Ct Tryz.prog 121 [.slice p l.length c, .string a] [H1] (fun v Hs => v = .bool (pB (a ∈ l)) ∧ Hs = [H1]) := by
  refine Ct.body Tryz.func121 rfl Tryz.ntmps121 rfl ?_
  intro E F
  refine W.seq ?_
  refine W.region ?_
  refine RL.q (Yld.assign rfl) rfl ?_
  refine RL.nil ?_
  refine N.next ?_
  refine W.seq ?_
  refine W.region ?_
  refine RL.q (Yld.move rfl) rfl ?_
  refine RL.q (Yld.move rfl) rfl ?_
  refine RL.e (Eff.call ent164 [1] [1] (.cons rfl (.cons rfl .nil)) (indexT_ct l _ _ _ hl a) rfl rfl rfl rfl (by rintro _ _ ⟨_, rfl⟩; rfl)) rfl ?_
  rintro _ _ ⟨_, ⟨⟨r, rfl, hr⟩, rfl⟩, rfl⟩
  refine RL.q (Yld.bin rfl rfl BinV.geq) rfl ?_
  refine RL.q (Yld.assign rfl) rfl ?_
  refine RL.nil ?_
  refine N.next ?_
  refine W.keep (.of [4] rfl) (.of [0, 1] rfl) ?_
  refine W.ret ?_
  exact N.retBy [1] (.cons (.tmp rfl) .nil) rfl rfl rfl rfl ⟨by show Value.bool _ = _; congr 1; rw [Bool.eq_iff_iff, decide_eq_true_eq, pB_iff]; exact hr, rfl⟩

set_option maxRecDepth 100000 in
set_option maxHeartbeats 400000 in
theorem rhas_ct (l : List Ky) (H1 : PH) (p : Option Addr) (c n : Nat) (hn : n = l.length) (hl : Sl H1 p c 1 (tz l)) (a : Ky) : Ct Tryz.prog 88 [.slice p n c, .string a] [H1] (fun v Hs => v = .bool (pB (a ∈ l)) ∧ Hs = [H1]) := by
  refine Ct.body Tryz.func88 rfl Tryz.ntmps88 rfl ?_
  intro E F
  subst hn
  have hmx := hl.len_le
  simp only [tz_len, maxLen] at hmx
  refine W.seq ?_
  refine W.region ?_
  refine RL.q (Yld.assign rfl) rfl ?_
  refine RL.nil ?_
  refine N.next ?_
  refine W.seq ?_
  refine W.seq ?_
  refine W.region ?_
  refine RL.q (Yld.assign rfl) rfl ?_
  refine RL.nil ?_
  refine N.next ?_
  refine W.block ?_
  refine W.loopK (ι := Nat) (fun j => (j ≤ l.length ∧ ∀ (i : Nat) z, i < j → l[i]? = some z → z ≠ a)) (fun j => [(5, .int .i64 (j : Nat))]) (fun j => []) (fun j => l.length - j) (.of [0, 1] rfl) (.of [0, 1] rfl) 0 ?_ ?_ ?_ ?_
  · exact ⟨Nat.zero_le _, fun _ _ h => absurd h (Nat.not_lt_zero _)⟩
  · exact (.as rfl (by first | rfl | (simp; done) | (congr 1; simp; done) | (congr 1; omega)) .nil)
  · exact .nil
  rintro j ⟨hj, hI⟩
  refine W.keep (.of [5, 0, 1] rfl) (.of [0, 1] rfl) ?_
  refine W.seq ?_
  refine W.seq ?_
  refine W.region ?_
  refine RL.q (Yld.move rfl) rfl ?_
  refine RL.q (Yld.move rfl) rfl ?_
  refine RL.q (Yld.lenSl Tryz.underlying22 rfl) rfl ?_
  refine RL.q (Yld.bin rfl rfl BinV.lss) rfl ?_
  refine RL.nil ?_
  refine N.next ?_
  first | refine W.condD rfl (fun hc9 => ?_) (fun hc9 => ?_) | (refine W.cond rfl (fun hc9 => ?_) (fun hc9 => ?_) <;> try simp only [Bool.or_eq_true, Bool.and_eq_true, Bool.not_eq_true', Bool.not_eq_false', decide_eq_true_eq, Bool.or_eq_false_iff, Bool.and_eq_false_iff, decide_eq_false_iff_not, beq_iff_eq, beq_eq_false_iff_ne, ne_eq, Decidable.not_not] at hc9)
  ·
   obtain ⟨z, hz, hlz⟩ := tz_at (show j < l.length by omega)
   refine W.skip ?_
   refine N.next ?_
   refine W.keep (.of [0, 1, 5] rfl) (.of [0, 1] rfl) ?_
   refine W.seq ?_
   refine W.block ?_
   refine W.seq ?_
   refine W.region ?_
   refine RL.q (Yld.move rfl) rfl ?_
   refine RL.q (Yld.move rfl) rfl ?_
   refine RL.q (Yld.ixr Tryz.underlying22 sz9 rfl rfl) rfl ?_
   refine RL.q (by first | exact (Yld.loadRow1 (cl := 1) Tryz.underlying9 rfl rfl rfl (by first | assumption | exact Own.sl (by assumption)) (by assumption)) | exact (Yld.lrF 1 0 Tryz.underlying9 rfl rfl rfl rfl)) rfl ?_
   refine RL.q (Yld.move rfl) rfl ?_
   refine RL.q (Yld.bin rfl rfl BinV.eqlS) rfl ?_
   refine RL.nil ?_
   refine N.next ?_
   refine W.keep (.of [0, 1, 5, 17] rfl) (.of [0, 1] rfl) ?_
   first | refine W.condD rfl (fun hc17 => ?_) (fun hc17 => ?_) | (refine W.cond rfl (fun hc17 => ?_) (fun hc17 => ?_) <;> try simp only [Bool.or_eq_true, Bool.and_eq_true, Bool.not_eq_true', Bool.not_eq_false', decide_eq_true_eq, Bool.or_eq_false_iff, Bool.and_eq_false_iff, decide_eq_false_iff_not, beq_iff_eq, beq_eq_false_iff_ne, ne_eq, Decidable.not_not] at hc17)
   ·
    refine W.seq ?_
    refine W.region ?_
    refine RL.q (Yld.assign rfl) rfl ?_
    refine RL.nil ?_
    refine N.next ?_
    refine W.keep (.of [4] rfl) (.of [0, 1] rfl) ?_
    refine W.ret ?_
    refine N.block_ret ?_
    refine N.then_ret ?_
    refine N.then_ret ?_
    refine N.block_ret ?_
    refine N.then_ret ?_
    exact N.retBy [1] (.cons (.tmp rfl) .nil) rfl rfl rfl rfl ⟨by show Value.bool _ = _; congr 1; rw [eq_comm, pB_iff, ← hc17]; exact List.mem_of_getElem? hz, rfl⟩
   ·
    refine W.skip ?_
    refine N.block_normal ?_
    refine N.next ?_
    refine W.region ?_
    refine RL.q (Yld.move rfl) rfl ?_
    refine RL.q (Yld.bin rfl rfl (by first | exact BinV.add (by omega) (by omega) | exact BinV.addW)) rfl ?_
    refine RL.q (Yld.assign rfl) rfl ?_
    refine RL.nil ?_
    exact N.famK (j + 1) ⟨⟨by omega, fun i y hi hy => (Nat.lt_succ_iff_lt_or_eq.1 hi).elim (fun h => hI i y h hy) (fun e => by subst e; rw [hz] at hy; cases hy; exact hc17)⟩, by omega⟩ (.as rfl (by first | rfl | (simp; done) | (congr 1; simp; done) | (congr 1; omega)) .nil) (.to rfl) .nil (.to rfl)
  ·
   refine W.exit ?_
   refine N.then_exit ?_
   refine N.then_exit ?_
   refine N.block_eq ?_
   refine N.next ?_
   refine W.keep .nil (.of [0, 1] rfl) ?_
   refine W.seq ?_
   refine W.region ?_
   refine RL.q (Yld.assign rfl) rfl ?_
   refine RL.nil ?_
   refine N.next ?_
   refine W.ret ?_
   exact N.retBy [1] (.cons (.tmp rfl) .nil) rfl rfl rfl rfl ⟨by show Value.bool _ = _; congr 1; rw [eq_comm]; apply pB_not; intro h; obtain ⟨i, hi⟩ := List.getElem?_of_mem h; exact hI i a (by have := (List.getElem?_eq_some_iff.1 hi).1; omega) hi rfl, rfl⟩

set_option maxRecDepth 100000 in
set_option maxHeartbeats 400000 in
theorem equalI_ct (l k : List Int) (H1 : PH) (p q : Option Addr) (c d : Nat) (hl : Sl H1 p c 1 (iz l)) (hk : Sl H1 q d 1 (iz k)) : Ct Tryz.prog 181 [.slice p l.length c, .slice q k.length d] [H1] (fun v Hs => v = .bool (decide (l = k)) ∧ Hs = [H1]) := by
  refine Ct.body Tryz.func181 rfl Tryz.ntmps181 rfl ?_
  intro E F
  have hmxl := hl.len_le
  simp only [iz_len, maxLen] at hmxl
  have hmxk := hk.len_le
  simp only [iz_len, maxLen] at hmxk
  refine W.seq ?_
  refine W.region ?_
  refine RL.q (Yld.assign rfl) rfl ?_
  refine RL.nil ?_
  refine N.next ?_
  refine W.seq ?_
  refine W.seq ?_
  refine W.region ?_
  refine RL.q (Yld.move rfl) rfl ?_
  refine RL.q (Yld.lenSl Tryz.underlying55 rfl) rfl ?_
  refine RL.q (Yld.move rfl) rfl ?_
  refine RL.q (Yld.lenSl Tryz.underlying55 rfl) rfl ?_
  refine RL.q (Yld.bin rfl rfl BinV.neq) rfl ?_
  refine RL.nil ?_
  refine N.next ?_
  refine W.keep (.of [0, 1, 10] rfl) (.of [0, 1] rfl) ?_
  first | refine W.condD rfl (fun hc10 => ?_) (fun hc10 => ?_) | (refine W.cond rfl (fun hc10 => ?_) (fun hc10 => ?_) <;> try simp only [Bool.or_eq_true, Bool.and_eq_true, Bool.not_eq_true', Bool.not_eq_false', decide_eq_true_eq, Bool.or_eq_false_iff, Bool.and_eq_false_iff, decide_eq_false_iff_not, beq_iff_eq, beq_eq_false_iff_ne, ne_eq, Decidable.not_not] at hc10)
  ·
   refine W.seq ?_
   refine W.region ?_
   refine RL.q (Yld.assign rfl) rfl ?_
   refine RL.nil ?_
   refine N.next ?_
   refine W.ret ?_
   refine N.then_ret ?_
   exact N.retBy [1] (.cons (.tmp rfl) .nil) rfl rfl rfl rfl ⟨by show Value.bool _ = _; congr 1; rw [eq_comm, decide_eq_false_iff_not]; intro e; subst e; omega, rfl⟩
  ·
   refine W.skip ?_
   refine N.next ?_
   refine W.seq ?_
   refine W.seq ?_
   refine W.region ?_
   refine RL.q (Yld.move rfl) rfl ?_
   refine RL.q (Yld.lenSl Tryz.underlying55 rfl) rfl ?_
   refine RL.q (Yld.move rfl) rfl ?_
   refine RL.nil ?_
   refine N.next ?_
   refine W.block ?_
   refine W.loopK (ι := Nat) (fun j => (j ≤ l.length ∧ ∀ (i : Nat), i < j → l[i]? = k[i]?)) (fun j => [(13, .int .i64 (j : Nat))]) (fun j => []) (fun j => l.length - j) (.of [0, 1, 12] rfl) (.of [0, 1] rfl) 0 ?_ ?_ ?_ ?_
   · exact ⟨Nat.zero_le _, fun _ h => absurd h (Nat.not_lt_zero _)⟩
   · exact (.as rfl (by first | rfl | (simp; done) | (congr 1; simp; done) | (congr 1; omega)) .nil)
   · exact .nil
   rintro j ⟨hj, hI⟩
   refine W.keep (.of [13, 0, 1, 12] rfl) (.of [0, 1] rfl) ?_
   refine W.seq ?_
   refine W.region ?_
   refine RL.q (Yld.bin rfl rfl BinV.lss) rfl ?_
   refine RL.nil ?_
   refine N.next ?_
   refine W.seq ?_
   first | refine W.condD rfl (fun hc14 => ?_) (fun hc14 => ?_) | (refine W.cond rfl (fun hc14 => ?_) (fun hc14 => ?_) <;> try simp only [Bool.or_eq_true, Bool.and_eq_true, Bool.not_eq_true', Bool.not_eq_false', decide_eq_true_eq, Bool.or_eq_false_iff, Bool.and_eq_false_iff, decide_eq_false_iff_not, beq_iff_eq, beq_eq_false_iff_ne, ne_eq, Decidable.not_not] at hc14)
   ·
    obtain ⟨z, hz, hlz⟩ := iz_at (show j < l.length by omega)
    obtain ⟨y, hy, hly⟩ := iz_at (show j < k.length by omega)
    refine W.skip ?_
    refine N.next ?_
    refine W.seq ?_
    refine W.block ?_
    refine W.seq ?_
    refine W.region ?_
    refine RL.q (Yld.move rfl) rfl ?_
    refine RL.q (Yld.assign rfl) rfl ?_
    refine RL.nil ?_
    refine N.next ?_
    refine W.seq ?_
    refine W.draw (.q 0 (.q 1 (.q 2 (.q 3 (.q 4 (.q 5 (.q 6 (.q 7 (.q 8 .done))))))))) (.of [0, 1] rfl) mix (by kernel_rfl) (by kernel_rfl) ?_
    refine DL.q rfl (Yld.move rfl) rfl ?_
    refine DL.q rfl (Yld.move rfl) rfl ?_
    refine DL.q rfl (Yld.ixr Tryz.underlying55 sz3 rfl rfl) rfl ?_
    refine DL.q rfl (by first | exact (Yld.loadRow1 (cl := 1) Tryz.underlying3 rfl rfl rfl (by first | assumption | exact Own.sl (by assumption)) (by assumption)) | exact (Yld.lrF 1 0 Tryz.underlying3 rfl rfl rfl rfl)) rfl ?_
    refine DL.q rfl (Yld.move rfl) rfl ?_
    refine DL.q rfl (Yld.move rfl) rfl ?_
    refine DL.q rfl (Yld.ixr Tryz.underlying55 sz3 rfl rfl) rfl ?_
    refine DL.q rfl (by first | exact (Yld.loadRow1 (cl := 1) Tryz.underlying3 rfl rfl rfl (by first | assumption | exact Own.sl (by assumption)) (by assumption)) | exact (Yld.lrF 1 0 Tryz.underlying3 rfl rfl rfl rfl)) rfl ?_
    refine DL.q rfl (Yld.bin rfl rfl BinV.neq) rfl ?_
    refine DL.done ?_
    refine N.next ?_
    refine W.keep (.of [0, 1, 12, 13, 24] rfl) (.of [0, 1] rfl) ?_
    first | refine W.condD rfl (fun hc24 => ?_) (fun hc24 => ?_) | (refine W.cond rfl (fun hc24 => ?_) (fun hc24 => ?_) <;> try simp only [Bool.or_eq_true, Bool.and_eq_true, Bool.not_eq_true', Bool.not_eq_false', decide_eq_true_eq, Bool.or_eq_false_iff, Bool.and_eq_false_iff, decide_eq_false_iff_not, beq_iff_eq, beq_eq_false_iff_ne, ne_eq, Decidable.not_not] at hc24)
    ·
     refine W.seq ?_
     refine W.region ?_
     refine RL.q (Yld.assign rfl) rfl ?_
     refine RL.nil ?_
     refine N.next ?_
     refine W.keep (.of [4] rfl) (.of [0, 1] rfl) ?_
     refine W.ret ?_
     refine N.block_ret ?_
     refine N.then_ret ?_
     refine N.then_ret ?_
     refine N.block_ret ?_
     refine N.then_ret ?_
     exact N.retBy [1] (.cons (.tmp rfl) .nil) rfl rfl rfl rfl ⟨by show Value.bool _ = _; congr 1; rw [eq_comm, decide_eq_false_iff_not]; intro e; subst e; rw [hz] at hy; cases hy; omega, rfl⟩
    ·
     refine W.skip ?_
     refine N.block_normal ?_
     refine N.next ?_
     refine W.region ?_
     refine RL.q (Yld.bin rfl rfl (by first | exact BinV.add (by omega) (by omega) | exact BinV.addW)) rfl ?_
     refine RL.q (Yld.move rfl) rfl ?_
     refine RL.nil ?_
     exact N.famK (j + 1) ⟨⟨by omega, fun i hi => (Nat.lt_succ_iff_lt_or_eq.1 hi).elim (fun h => hI i h) (fun e => by subst e; rw [hz, hy]; congr 1; omega)⟩, by omega⟩ (.as rfl (by first | rfl | (simp; done) | (congr 1; simp; done) | (congr 1; omega)) .nil) (.to rfl) .nil (.to rfl)
   ·
    refine W.exit ?_
    refine N.then_exit ?_
    refine N.then_exit ?_
    refine N.block_eq ?_
    refine N.next ?_
    refine W.keep .nil (.of [0, 1] rfl) ?_
    refine W.seq ?_
    refine W.region ?_
    refine RL.q (Yld.assign rfl) rfl ?_
    refine RL.nil ?_
    refine N.next ?_
    refine W.ret ?_
    exact N.retBy [1] (.cons (.tmp rfl) .nil) rfl rfl rfl rfl ⟨by show Value.bool _ = _; congr 1; rw [eq_comm, decide_eq_true_eq]; apply List.ext_getElem?; intro i; by_cases h : i < l.length; exact hI i (by omega); rw [List.getElem?_eq_none (by omega), List.getElem?_eq_none (by omega)], rfl⟩

end Go.Proofs.YtboapdcmaeojgaaGreatDoor
/- Items. Written by program (walk2.py). -/
namespace Go.Proofs.YtboapdcmaeojgaaGreatDoor
open SL Cat
set_option linter.unusedVariables false
set_option linter.unusedSimpArgs false
theorem sz64 : sz Tryz.prog 64 7 := (by kernel_rfl : (Tryz.prog.info? 64).map (·.size) = some 7)
theorem ent123 : Ent Tryz.prog 123 := ⟨_, _, Tryz.func123, by kernel_rfl, rfl⟩
theorem sz97 : sz Tryz.prog 97 7 := (by kernel_rfl : (Tryz.prog.info? 97).map (·.size) = some 7)
theorem ent128 : Ent Tryz.prog 128 := ⟨_, _, Tryz.func128, by kernel_rfl, rfl⟩
theorem ent67 : Ent Tryz.prog 67 := ⟨_, _, Tryz.func67, by kernel_rfl, rfl⟩
theorem zc3 : zc Tryz.prog 3 [.int .i64 0] := (by kernel_rfl : ((Tryz.prog.info? 3).bind (·.zero)).map (fun v => v.cells.toList) = some [.int .i64 0])
theorem fo64_2 : fieldOff Tryz.prog 64 2 = some 2 := by kernel_rfl
theorem ent35 : Ent Tryz.prog 35 := ⟨_, _, Tryz.func35, by kernel_rfl, rfl⟩
theorem fo64_6 : fieldOff Tryz.prog 64 6 = some 6 := by kernel_rfl
theorem ent124 : Ent Tryz.prog 124 := ⟨_, _, Tryz.func124, by kernel_rfl, rfl⟩
theorem ent125 : Ent Tryz.prog 125 := ⟨_, _, Tryz.func125, by kernel_rfl, rfl⟩
theorem ent126 : Ent Tryz.prog 126 := ⟨_, _, Tryz.func126, by kernel_rfl, rfl⟩
theorem fo64_1 : fieldOff Tryz.prog 64 1 = some 1 := by kernel_rfl
theorem zv32 : zv Tryz.prog 32 (.nilFunc) := (by kernel_rfl : (Tryz.prog.info? 32).bind (·.zero) = some (.nilFunc))
theorem sz29 : sz Tryz.prog 29 11 := (by kernel_rfl : (Tryz.prog.info? 29).map (·.size) = some 11)
theorem ent127 : Ent Tryz.prog 127 := ⟨_, _, Tryz.func127, by kernel_rfl, rfl⟩
theorem fo64_3 : fieldOff Tryz.prog 64 3 = some 3 := by kernel_rfl
theorem fo64_4 : fieldOff Tryz.prog 64 4 = some 4 := by kernel_rfl
theorem fo64_5 : fieldOff Tryz.prog 64 5 = some 5 := by kernel_rfl
set_option maxRecDepth 100000 in
set_option maxHeartbeats 400000 in
theorem ifIt_ct (l : List It) (H1 : PH) (p : Option Addr) (c n : Nat) (hn : n = l.length) (hS : Sl H1 p c 7 (l.map It.c)) (f : Nat) (cap : List Value) (G1 : PH) (q : It → Bool) (hent : Ent Tryz.prog f) (hf : ∀ x ∈ l, Ct Tryz.prog f (.agg x.c.toArray :: cap) [H1, G1] (fun v Hs => v = .bool (q x) ∧ Hs = [H1, G1])) : Ct Tryz.prog 123 [.slice p n c, .func (.func f) [].toArray cap.toArray] [H1, G1] (fun v Hs => (∃ r : Int, v = .int .i64 r ∧ decide (0 ≤ r) = l.any q) ∧ Hs = [H1, G1]) := by
  refine Ct.body Tryz.func123 rfl Tryz.ntmps123 rfl ?_
  intro E F
  subst hn
  have hmx := hS.len_le
  simp only [List.length_map, maxLen] at hmx
  refine W.seq ?_
  refine W.region ?_
  refine RL.q (Yld.assign rfl) rfl ?_
  refine RL.nil ?_
  refine N.next ?_
  refine W.seq ?_
  refine W.seq ?_
  refine W.region ?_
  refine RL.q (Yld.move rfl) rfl ?_
  refine RL.q (Yld.lenSl Tryz.underlying26 rfl) rfl ?_
  refine RL.q (Yld.move rfl) rfl ?_
  refine RL.nil ?_
  refine N.next ?_
  refine W.block ?_
  refine W.loopK (ι := Nat) (fun j => (j ≤ l.length ∧ ∀ (i : Nat) x, i < j → l[i]? = some x → q x = false)) (fun j => [(8, .int .i64 (j : Nat))]) (fun j => []) (fun j => l.length - j) (.of [0, 1, 7] rfl) (.of [0, 1, 2] rfl) 0 ?_ ?_ ?_ ?_
  · exact ⟨Nat.zero_le _, fun _ _ h => absurd h (Nat.not_lt_zero _)⟩
  · exact (.as rfl (by first | rfl | (simp; done) | (congr 1; simp; done) | (congr 1; omega)) .nil)
  · exact .nil
  rintro j ⟨hj, hI⟩
  refine W.keep (.of [8, 0, 1, 7] rfl) (.of [0, 1, 2] rfl) ?_
  refine W.seq ?_
  refine W.region ?_
  refine RL.q (Yld.bin rfl rfl BinV.lss) rfl ?_
  refine RL.nil ?_
  refine N.next ?_
  refine W.seq ?_
  first | refine W.condD rfl (fun hc9 => ?_) (fun hc9 => ?_) | (refine W.cond rfl (fun hc9 => ?_) (fun hc9 => ?_) <;> try simp only [Bool.or_eq_true, Bool.and_eq_true, Bool.not_eq_true', Bool.not_eq_false', decide_eq_true_eq, Bool.or_eq_false_iff, Bool.and_eq_false_iff, decide_eq_false_iff_not, beq_iff_eq, beq_eq_false_iff_ne, ne_eq, Decidable.not_not] at hc9)
  ·
   obtain ⟨x, hx⟩ : ∃ x, l[j]? = some x := ⟨_, List.getElem?_eq_getElem (show j < l.length by first | omega | (simp only [List.length_map] at *; omega))⟩
   have hlx : (l.map It.c)[j]? = some x.c := by simp [hx]
   refine W.skip ?_
   refine N.next ?_
   refine W.seq ?_
   refine W.block ?_
   refine W.seq ?_
   refine W.region ?_
   refine RL.q (Yld.move rfl) rfl ?_
   refine RL.q (Yld.assign rfl) rfl ?_
   refine RL.nil ?_
   refine N.next ?_
   refine W.seq ?_
   refine W.region ?_
   refine RL.q (Yld.move rfl) rfl ?_
   refine RL.q (Yld.move rfl) rfl ?_
   refine RL.q (Yld.move rfl) rfl ?_
   refine RL.q (Yld.ixr Tryz.underlying26 sz64 rfl rfl) rfl ?_
   refine RL.q (by first | exact Yld.lrA 1 Tryz.underlying64 sz64 rfl rfl rfl | exact Yld.lrA 2 Tryz.underlying64 sz64 rfl rfl rfl) rfl ?_
   refine RL.e (Eff.callV hent [1, 2] [1, 2] rfl (.cons rfl .nil) (hf x (List.mem_of_getElem? hx)) rfl rfl rfl rfl (by rintro _ _ ⟨_, rfl⟩; rfl)) rfl ?_
   rintro _ _ ⟨_, ⟨rfl, rfl⟩, rfl⟩
   refine RL.nil ?_
   refine N.next ?_
   refine W.keep (.of [0, 1, 5, 7, 8, 16] rfl) (.of [0, 1, 2] rfl) ?_
   refine W.cond rfl (fun hc16 => ?_) (fun hc16 => ?_)
   ·
    refine W.seq ?_
    refine W.region ?_
    refine RL.q (Yld.move rfl) rfl ?_
    refine RL.q (Yld.assign rfl) rfl ?_
    refine RL.nil ?_
    refine N.next ?_
    refine W.keep (.of [4] rfl) (.of [0, 1, 2] rfl) ?_
    refine W.ret ?_
    refine N.block_ret ?_
    refine N.then_ret ?_
    refine N.then_ret ?_
    refine N.block_ret ?_
    refine N.then_ret ?_
    exact N.retBy [1, 2] (.cons (.tmp rfl) .nil) rfl rfl rfl rfl ⟨⟨_, rfl, by rw [decide_eq_true (by omega), eq_comm, List.any_eq_true]; exact ⟨x, List.mem_of_getElem? hx, hc16⟩⟩, rfl⟩
   ·
    refine W.skip ?_
    refine N.block_normal ?_
    refine N.next ?_
    refine W.region ?_
    refine RL.q (Yld.bin rfl rfl (by first | exact BinV.add (by omega) (by omega) | exact BinV.addW)) rfl ?_
    refine RL.q (Yld.move rfl) rfl ?_
    refine RL.nil ?_
    exact N.famK (j + 1) ⟨⟨by omega, fun i y hi hy => (Nat.lt_succ_iff_lt_or_eq.1 hi).elim (fun h => hI i y h hy) (fun e => by subst e; rw [hx] at hy; cases hy; simpa using hc16)⟩, by omega⟩ (.as rfl (by first | rfl | (simp; done) | (congr 1; simp; done) | (congr 1; omega)) .nil) (.to rfl) .nil (.to rfl)
  ·
   refine W.exit ?_
   refine N.then_exit ?_
   refine N.then_exit ?_
   refine N.block_eq ?_
   refine N.next ?_
   refine W.keep .nil (.of [0, 1, 2] rfl) ?_
   refine W.seq ?_
   refine W.region ?_
   refine RL.q (Yld.assign rfl) rfl ?_
   refine RL.nil ?_
   refine N.next ?_
   refine W.ret ?_
   exact N.retBy [1, 2] (.cons (.tmp rfl) .nil) rfl rfl rfl rfl ⟨⟨_, rfl, by rw [decide_eq_false (by omega), eq_comm, List.any_eq_false]; intro x hx; obtain ⟨i, hi⟩ := List.getElem?_of_mem hx; rw [hI i x (by have := (List.getElem?_eq_some_iff.1 hi).1; omega) hi]; decide⟩, rfl⟩

set_option maxRecDepth 100000 in
set_option maxHeartbeats 400000 in
theorem cfIt_ct (l : List It) (H1 : PH) (p : Option Addr) (c n : Nat) (hn : n = l.length) (hS : Sl H1 p c 7 (l.map It.c)) (f : Nat) (cap : List Value) (G1 : PH) (q : It → Bool) (hent : Ent Tryz.prog f) (hf : ∀ x ∈ l, Ct Tryz.prog f (.agg x.c.toArray :: cap) [H1, G1] (fun v Hs => v = .bool (q x) ∧ Hs = [H1, G1])) : Ct Tryz.prog 70 [.slice p n c, .func (.func f) [].toArray cap.toArray] [H1, G1] (fun v Hs => v = .bool (l.any q) ∧ Hs = [H1, G1]) := by
  refine Ct.body Tryz.func70 rfl Tryz.ntmps70 rfl ?_
  intro E F
  refine W.seq ?_
  refine W.region ?_
  refine RL.q (Yld.assign rfl) rfl ?_
  refine RL.nil ?_
  refine N.next ?_
  refine W.seq ?_
  refine W.region ?_
  refine RL.q (Yld.move rfl) rfl ?_
  refine RL.q (Yld.move rfl) rfl ?_
  refine RL.e (Eff.call ent123 [1, 2] [1, 2] (.cons rfl (.cons rfl .nil)) (ifIt_ct l H1 p c n hn hS f cap G1 q hent hf) rfl rfl rfl rfl (by rintro _ _ ⟨_, rfl⟩; rfl)) rfl ?_
  rintro _ _ ⟨_, ⟨⟨r, rfl, hr⟩, rfl⟩, rfl⟩
  refine RL.q (Yld.bin rfl rfl BinV.geq) rfl ?_
  refine RL.q (Yld.assign rfl) rfl ?_
  refine RL.nil ?_
  refine N.next ?_
  refine W.keep (.of [4] rfl) (.of [0, 1, 2] rfl) ?_
  refine W.ret ?_
  exact N.retBy [1, 2] (.cons (.tmp rfl) .nil) rfl rfl rfl rfl ⟨by show Value.bool _ = _; congr 1, rfl⟩

set_option maxRecDepth 100000 in
set_option maxHeartbeats 400000 in
theorem ifRl_ct (l : List Rl) (H1 : PH) (p : Option Addr) (c n : Nat) (hn : n = l.length) (hS : Sl H1 p c 7 (l.map Rl.c)) (f : Nat) (cap : List Value) (G1 : PH) (q : Rl → Bool) (hent : Ent Tryz.prog f) (hf : ∀ x ∈ l, Ct Tryz.prog f (.agg x.c.toArray :: cap) [H1, G1] (fun v Hs => v = .bool (q x) ∧ Hs = [H1, G1])) : Ct Tryz.prog 128 [.slice p n c, .func (.func f) [].toArray cap.toArray] [H1, G1] (fun v Hs => (∃ r : Int, v = .int .i64 r ∧ decide (0 ≤ r) = l.any q) ∧ Hs = [H1, G1]) := by
  refine Ct.body Tryz.func128 rfl Tryz.ntmps128 rfl ?_
  intro E F
  subst hn
  have hmx := hS.len_le
  simp only [List.length_map, maxLen] at hmx
  refine W.seq ?_
  refine W.region ?_
  refine RL.q (Yld.assign rfl) rfl ?_
  refine RL.nil ?_
  refine N.next ?_
  refine W.seq ?_
  refine W.seq ?_
  refine W.region ?_
  refine RL.q (Yld.move rfl) rfl ?_
  refine RL.q (Yld.lenSl Tryz.underlying27 rfl) rfl ?_
  refine RL.q (Yld.move rfl) rfl ?_
  refine RL.nil ?_
  refine N.next ?_
  refine W.block ?_
  refine W.loopK (ι := Nat) (fun j => (j ≤ l.length ∧ ∀ (i : Nat) x, i < j → l[i]? = some x → q x = false)) (fun j => [(8, .int .i64 (j : Nat))]) (fun j => []) (fun j => l.length - j) (.of [0, 1, 7] rfl) (.of [0, 1, 2] rfl) 0 ?_ ?_ ?_ ?_
  · exact ⟨Nat.zero_le _, fun _ _ h => absurd h (Nat.not_lt_zero _)⟩
  · exact (.as rfl (by first | rfl | (simp; done) | (congr 1; simp; done) | (congr 1; omega)) .nil)
  · exact .nil
  rintro j ⟨hj, hI⟩
  refine W.keep (.of [8, 0, 1, 7] rfl) (.of [0, 1, 2] rfl) ?_
  refine W.seq ?_
  refine W.region ?_
  refine RL.q (Yld.bin rfl rfl BinV.lss) rfl ?_
  refine RL.nil ?_
  refine N.next ?_
  refine W.seq ?_
  first | refine W.condD rfl (fun hc9 => ?_) (fun hc9 => ?_) | (refine W.cond rfl (fun hc9 => ?_) (fun hc9 => ?_) <;> try simp only [Bool.or_eq_true, Bool.and_eq_true, Bool.not_eq_true', Bool.not_eq_false', decide_eq_true_eq, Bool.or_eq_false_iff, Bool.and_eq_false_iff, decide_eq_false_iff_not, beq_iff_eq, beq_eq_false_iff_ne, ne_eq, Decidable.not_not] at hc9)
  ·
   obtain ⟨x, hx⟩ : ∃ x, l[j]? = some x := ⟨_, List.getElem?_eq_getElem (show j < l.length by first | omega | (simp only [List.length_map] at *; omega))⟩
   have hlx : (l.map Rl.c)[j]? = some x.c := by simp [hx]
   refine W.skip ?_
   refine N.next ?_
   refine W.seq ?_
   refine W.block ?_
   refine W.seq ?_
   refine W.region ?_
   refine RL.q (Yld.move rfl) rfl ?_
   refine RL.q (Yld.assign rfl) rfl ?_
   refine RL.nil ?_
   refine N.next ?_
   refine W.seq ?_
   refine W.region ?_
   refine RL.q (Yld.move rfl) rfl ?_
   refine RL.q (Yld.move rfl) rfl ?_
   refine RL.q (Yld.move rfl) rfl ?_
   refine RL.q (Yld.ixr Tryz.underlying27 sz97 rfl rfl) rfl ?_
   refine RL.q (by first | exact Yld.lrA 1 Tryz.underlying97 sz97 rfl rfl rfl | exact Yld.lrA 2 Tryz.underlying97 sz97 rfl rfl rfl) rfl ?_
   refine RL.e (Eff.callV hent [1, 2] [1, 2] rfl (.cons rfl .nil) (hf x (List.mem_of_getElem? hx)) rfl rfl rfl rfl (by rintro _ _ ⟨_, rfl⟩; rfl)) rfl ?_
   rintro _ _ ⟨_, ⟨rfl, rfl⟩, rfl⟩
   refine RL.nil ?_
   refine N.next ?_
   refine W.keep (.of [0, 1, 5, 7, 8, 16] rfl) (.of [0, 1, 2] rfl) ?_
   refine W.cond rfl (fun hc16 => ?_) (fun hc16 => ?_)
   ·
    refine W.seq ?_
    refine W.region ?_
    refine RL.q (Yld.move rfl) rfl ?_
    refine RL.q (Yld.assign rfl) rfl ?_
    refine RL.nil ?_
    refine N.next ?_
    refine W.keep (.of [4] rfl) (.of [0, 1, 2] rfl) ?_
    refine W.ret ?_
    refine N.block_ret ?_
    refine N.then_ret ?_
    refine N.then_ret ?_
    refine N.block_ret ?_
    refine N.then_ret ?_
    exact N.retBy [1, 2] (.cons (.tmp rfl) .nil) rfl rfl rfl rfl ⟨⟨_, rfl, by rw [decide_eq_true (by omega), eq_comm, List.any_eq_true]; exact ⟨x, List.mem_of_getElem? hx, hc16⟩⟩, rfl⟩
   ·
    refine W.skip ?_
    refine N.block_normal ?_
    refine N.next ?_
    refine W.region ?_
    refine RL.q (Yld.bin rfl rfl (by first | exact BinV.add (by omega) (by omega) | exact BinV.addW)) rfl ?_
    refine RL.q (Yld.move rfl) rfl ?_
    refine RL.nil ?_
    exact N.famK (j + 1) ⟨⟨by omega, fun i y hi hy => (Nat.lt_succ_iff_lt_or_eq.1 hi).elim (fun h => hI i y h hy) (fun e => by subst e; rw [hx] at hy; cases hy; simpa using hc16)⟩, by omega⟩ (.as rfl (by first | rfl | (simp; done) | (congr 1; simp; done) | (congr 1; omega)) .nil) (.to rfl) .nil (.to rfl)
  ·
   refine W.exit ?_
   refine N.then_exit ?_
   refine N.then_exit ?_
   refine N.block_eq ?_
   refine N.next ?_
   refine W.keep .nil (.of [0, 1, 2] rfl) ?_
   refine W.seq ?_
   refine W.region ?_
   refine RL.q (Yld.assign rfl) rfl ?_
   refine RL.nil ?_
   refine N.next ?_
   refine W.ret ?_
   exact N.retBy [1, 2] (.cons (.tmp rfl) .nil) rfl rfl rfl rfl ⟨⟨_, rfl, by rw [decide_eq_false (by omega), eq_comm, List.any_eq_false]; intro x hx; obtain ⟨i, hi⟩ := List.getElem?_of_mem hx; rw [hI i x (by have := (List.getElem?_eq_some_iff.1 hi).1; omega) hi]; decide⟩, rfl⟩

set_option maxRecDepth 100000 in
set_option maxHeartbeats 400000 in
theorem cfRl_ct (l : List Rl) (H1 : PH) (p : Option Addr) (c n : Nat) (hn : n = l.length) (hS : Sl H1 p c 7 (l.map Rl.c)) (f : Nat) (cap : List Value) (G1 : PH) (q : Rl → Bool) (hent : Ent Tryz.prog f) (hf : ∀ x ∈ l, Ct Tryz.prog f (.agg x.c.toArray :: cap) [H1, G1] (fun v Hs => v = .bool (q x) ∧ Hs = [H1, G1])) : Ct Tryz.prog 73 [.slice p n c, .func (.func f) [].toArray cap.toArray] [H1, G1] (fun v Hs => v = .bool (l.any q) ∧ Hs = [H1, G1]) := by
  refine Ct.body Tryz.func73 rfl Tryz.ntmps73 rfl ?_
  intro E F
  refine W.seq ?_
  refine W.region ?_
  refine RL.q (Yld.assign rfl) rfl ?_
  refine RL.nil ?_
  refine N.next ?_
  refine W.seq ?_
  refine W.region ?_
  refine RL.q (Yld.move rfl) rfl ?_
  refine RL.q (Yld.move rfl) rfl ?_
  refine RL.e (Eff.call ent128 [1, 2] [1, 2] (.cons rfl (.cons rfl .nil)) (ifRl_ct l H1 p c n hn hS f cap G1 q hent hf) rfl rfl rfl rfl (by rintro _ _ ⟨_, rfl⟩; rfl)) rfl ?_
  rintro _ _ ⟨_, ⟨⟨r, rfl, hr⟩, rfl⟩, rfl⟩
  refine RL.q (Yld.bin rfl rfl BinV.geq) rfl ?_
  refine RL.q (Yld.assign rfl) rfl ?_
  refine RL.nil ?_
  refine N.next ?_
  refine W.keep (.of [4] rfl) (.of [0, 1, 2] rfl) ?_
  refine W.ret ?_
  exact N.retBy [1, 2] (.cons (.tmp rfl) .nil) rfl rfl rfl rfl ⟨by show Value.bool _ = _; congr 1, rfl⟩

set_option maxRecDepth 100000 in
set_option maxHeartbeats 800000 in
theorem machines_ct (m : Md) (H1 : PH) (hM : m.In H1) (l : List Int) (p : Option Addr) (c : Nat) (hl : Sl H1 p c 1 (iz l)) : Ct Tryz.prog 127 [.agg [.slice m.psi m.si.length m.csi, .slice m.pfe m.fe.length m.cfe, .slice m.prk m.rk.length m.crk, .slice m.pmc m.mc.length m.cmc, .slice m.pln m.ln.length m.cln, .slice m.pis m.is.length m.cis, .int .i64 m.da, .int .i64 m.sl, .int .i64 m.re, .int .i64 m.fa, .slice m.prl m.rl.length m.crl].toArray, .slice p l.length c] [H1] (fun v Hs => v = .bool (pB (MsV m.mc.length l)) ∧ Hs = [H1]) := by
  refine Ct.body Tryz.func127 rfl Tryz.ntmps127 rfl ?_
  intro E F
  have hmxl := hl.len_le
  simp only [iz_len, maxLen] at hmxl
  refine W.seq ?_
  refine W.region ?_
  refine RL.e (Eff.box 102 _ rfl rfl) rfl ?_
  rintro _ _ ⟨b2, rfl, rfl⟩
  refine RL.q (Yld.assign rfl) rfl ?_
  refine RL.nil ?_
  refine N.next ?_
  refine W.seq ?_
  refine W.seq ?_
  refine W.region ?_
  refine RL.q (Yld.move rfl) rfl ?_
  refine RL.q (Yld.lenSl Tryz.underlying55 rfl) rfl ?_
  refine RL.q (Yld.move rfl) rfl ?_
  refine RL.nil ?_
  refine N.next ?_
  refine W.block ?_
  refine W.loopK (ι := Nat) (fun j => (j ≤ l.length ∧ MsUp m.mc.length l j)) (fun j => [(9, .int .i64 (j : Nat))]) (fun j => []) (fun j => l.length - j) (.of [1, 2, 7, 8] rfl) (.of [0, 1, 102] rfl) 0 ?_ ?_ ?_ ?_
  · exact ⟨Nat.zero_le _, fun _ _ h => absurd h (Nat.not_lt_zero _)⟩
  · exact (.as rfl (by first | rfl | (simp; done) | (congr 1; simp; done) | (congr 1; omega)) .nil)
  · exact .nil
  rintro j ⟨hj, hI⟩
  refine W.keep (.of [9, 1, 2, 7, 8] rfl) (.of [0, 1, 102] rfl) ?_
  refine W.seq ?_
  refine W.region ?_
  refine RL.q (Yld.bin rfl rfl BinV.lss) rfl ?_
  refine RL.nil ?_
  refine N.next ?_
  refine W.seq ?_
  first | refine W.condD rfl (fun hc10 => ?_) (fun hc10 => ?_) | (refine W.cond rfl (fun hc10 => ?_) (fun hc10 => ?_) <;> try simp only [Bool.or_eq_true, Bool.and_eq_true, Bool.not_eq_true', Bool.not_eq_false', decide_eq_true_eq, Bool.or_eq_false_iff, Bool.and_eq_false_iff, decide_eq_false_iff_not, beq_iff_eq, beq_eq_false_iff_ne, ne_eq, Decidable.not_not] at hc10)
  ·
   obtain ⟨z, hz, hlz⟩ := iz_at (show j < l.length by omega)
   obtain ⟨y, hy⟩ : ∃ y, l[((j : Int) - 1).toNat]? = some y := ⟨_, List.getElem?_eq_getElem (by omega)⟩
   have hly : (iz l)[((j : Int) - 1).toNat]? = some [.int .i64 y] := iz_get hy
   have hyy : 0 < j → l[j - 1]? = some y := fun h => by rw [← hy]; congr 1; omega
   refine W.skip ?_
   refine N.next ?_
   refine W.seq ?_
   refine W.block ?_
   refine W.seq ?_
   refine W.region ?_
   refine RL.q (Yld.move rfl) rfl ?_
   refine RL.q (Yld.ixr Tryz.underlying55 sz3 rfl rfl) rfl ?_
   refine RL.q (by first | exact (by first | exact Yld.loadRow1 (cl := 1) Tryz.underlying3 rfl rfl rfl (by first | assumption | exact Own.sl (by assumption)) (by assumption) | exact Yld.loadRow1 (cl := 102) Tryz.underlying3 rfl rfl rfl (by first | assumption | exact Own.sl (by assumption)) (by assumption)) | exact (by first | exact Yld.lrF 1 0 Tryz.underlying3 rfl rfl rfl rfl | exact Yld.lrF 102 0 Tryz.underlying3 rfl rfl rfl rfl)) rfl ?_
   refine RL.q (Yld.assign rfl) rfl ?_
   refine RL.q (Yld.assign rfl) rfl ?_
   refine RL.nil ?_
   refine N.next ?_
   refine W.keep (.of [1, 2, 5, 6, 7, 8, 9] rfl) (.of [0, 1, 102] rfl) ?_
   refine W.seq ?_
   refine W.region ?_
   refine RL.q (Yld.move rfl) rfl ?_
   refine RL.q (Yld.fieldAddr fo29_3 rfl) rfl ?_
   refine RL.q (Yld.ld 102 Tryz.underlying24 rfl rfl rfl rfl) rfl ?_
   refine RL.q (Yld.lenSl Tryz.underlying24 rfl) rfl ?_
   refine RL.e (Eff.call ent67 [] [] (.cons rfl (.cons rfl (.cons rfl .nil))) (within_ct z 1 m.mc.length) rfl rfl rfl rfl (by rintro _ _ ⟨_, rfl⟩; rfl)) rfl ?_
   rintro _ _ ⟨_, ⟨rfl, rfl⟩, rfl⟩
   refine RL.q Yld.nt rfl ?_
   refine RL.q (Yld.move rfl) rfl ?_
   refine' RL.or (t := 20) (d := 32) 12 rfl (.of [1, 2, 5, 6, 7, 8, 9, 14, 15, 16, 17, 18, 19] rfl) (.of [0, 1, 102] rfl) ?_ ?_ ?_
   rotate_left 1
   ·
    intro hg20
    refine RL.gq rfl rfl (Yld.move rfl) rfl ?_
    refine RL.gq rfl rfl (Yld.bin rfl rfl BinV.gtr) rfl ?_
    refine RL.gq rfl rfl (Yld.move rfl) rfl ?_
    refine' RL.and (t := 23) (d := 31) 8 rfl (.of [1, 2, 5, 6, 7, 8, 9, 14, 15, 16, 17, 18, 19, 20, 21, 22] rfl) (.of [0, 1, 102] rfl) ?_ ?_ ?_
    rotate_left 1
    ·
     intro hg23
     have hg23 := of_decide_eq_true hg23
     refine RL.gq rfl rfl (Yld.move rfl) rfl ?_
     refine RL.gq rfl rfl (Yld.move rfl) rfl ?_
     refine RL.gq rfl rfl (Yld.bin rfl rfl (by first | exact BinV.sub (by omega) (by omega) | exact BinV.subW)) rfl ?_
     refine RL.gq rfl rfl (Yld.ixr Tryz.underlying55 sz3 rfl rfl) rfl ?_
     refine RL.gq rfl rfl (by first | exact (by first | exact Yld.loadRow1 (cl := 1) Tryz.underlying3 rfl rfl rfl (by first | assumption | exact Own.sl (by assumption)) (by assumption) | exact Yld.loadRow1 (cl := 102) Tryz.underlying3 rfl rfl rfl (by first | assumption | exact Own.sl (by assumption)) (by assumption)) | exact (by first | exact Yld.lrF 1 0 Tryz.underlying3 rfl rfl rfl rfl | exact Yld.lrF 102 0 Tryz.underlying3 rfl rfl rfl rfl)) rfl ?_
     refine RL.gq rfl rfl (Yld.move rfl) rfl ?_
     refine RL.gq rfl rfl (Yld.bin rfl rfl BinV.geq) rfl ?_
     refine RL.gq rfl rfl Yld.pk rfl ?_
     exact RL.nil (N.meet (.to rfl) (.to rfl))
    ·
     intro hg23
     refine RL.gskip rfl rfl rfl rfl ?_
     refine RL.gskip rfl rfl rfl rfl ?_
     refine RL.gskip rfl rfl rfl rfl ?_
     refine RL.gskip rfl rfl rfl rfl ?_
     refine RL.gskip rfl rfl rfl rfl ?_
     refine RL.gskip rfl rfl rfl rfl ?_
     refine RL.gskip rfl rfl rfl rfl ?_
     refine RL.gq rfl rfl Yld.pk rfl ?_
     exact RL.nil (N.meet (.to rfl) (.to rfl))
    refine RL.q Yld.pk rfl ?_
    exact RL.nil (N.meet (.to rfl) (.to rfl))
   ·
    intro hg20
    refine RL.gskip rfl rfl rfl rfl ?_
    refine RL.gskip rfl rfl rfl rfl ?_
    refine RL.gskip rfl rfl rfl rfl ?_
    refine RL.gskipU rfl rfl rfl ?_
    refine RL.gskipU rfl rfl rfl ?_
    refine RL.gskipU rfl rfl rfl ?_
    refine RL.gskipU rfl rfl rfl ?_
    refine RL.gskipU rfl rfl rfl ?_
    refine RL.gskipU rfl rfl rfl ?_
    refine RL.gskipU rfl rfl rfl ?_
    refine RL.gskip rfl rfl rfl rfl ?_
    refine RL.q Yld.pk rfl ?_
    exact RL.nil (N.meet (.to rfl) (.to rfl))
   refine RL.nil ?_
   refine N.next ?_
   refine W.keep (.of [1, 2, 7, 8, 9, 32] rfl) (.of [0, 1, 102] rfl) ?_
   refine W.cond rfl (fun hc32 => ?_) (fun hc32 => ?_)
   ·
    have hnv : ¬ MsV m.mc.length l := fun h => by
      obtain ⟨h1, h2⟩ := h.2 j z (by omega) hz
      simp only [Bool.or_eq_true, Bool.and_eq_true, decide_eq_true_eq] at hc32
      rcases hc32 with h3 | ⟨h3, h4⟩
      · exact h3 h1
      · have := h2 (by omega) y (hyy (by omega)); omega
    refine W.seq ?_
    refine W.region ?_
    refine RL.q (Yld.assign rfl) rfl ?_
    refine RL.nil ?_
    refine N.next ?_
    refine W.keep (.of [4] rfl) (.of [0, 1, 102] rfl) ?_
    refine W.ret ?_
    refine N.block_ret ?_
    refine N.then_ret ?_
    refine N.then_ret ?_
    refine N.block_ret ?_
    refine N.then_ret ?_
    exact N.retBy [1] (.cons (.tmp rfl) .nil) rfl rfl rfl rfl ⟨by rw [pB_not hnv]; rfl, rfl⟩
   ·
    simp only [Bool.or_eq_false_iff, Bool.and_eq_false_iff, decide_eq_false_iff_not, Classical.not_not] at hc32
    have hst : MsUp m.mc.length l (j + 1) := hI.step hz hc32.1 fun h0 w hw => by
      rw [hyy h0] at hw; cases hw
      have := hc32.2; omega
    refine W.skip ?_
    refine N.block_normal ?_
    refine N.next ?_
    refine W.region ?_
    refine RL.q (Yld.bin rfl rfl (by first | exact BinV.add (by omega) (by omega) | exact BinV.addW)) rfl ?_
    refine RL.q (Yld.move rfl) rfl ?_
    refine RL.nil ?_
    exact N.famK (j + 1) ⟨⟨by omega, hst⟩, by omega⟩ (.as rfl (by first | rfl | (simp; done) | (congr 1; simp; done) | (congr 1; omega)) .nil) (.to rfl) .nil (.to rfl)
  ·
   refine W.exit ?_
   refine N.then_exit ?_
   refine N.then_exit ?_
   refine N.block_eq ?_
   refine N.next ?_
   refine W.keep (.of [1] rfl) (.of [0, 1, 102] rfl) ?_
   refine W.seq ?_
   refine W.region ?_
   refine RL.q (Yld.move rfl) rfl ?_
   refine RL.q (Yld.lenSl Tryz.underlying55 rfl) rfl ?_
   refine RL.q (Yld.bin rfl rfl BinV.gtr) rfl ?_
   refine RL.q (Yld.assign rfl) rfl ?_
   refine RL.nil ?_
   refine N.next ?_
   refine W.keep (.of [4] rfl) (.of [0, 1, 102] rfl) ?_
   refine W.ret ?_
   exact N.retBy [1] (.cons (.tmp rfl) .nil) rfl rfl rfl rfl ⟨by show Value.bool _ = Value.bool _; congr 1; rw [Bool.eq_iff_iff]; rw [pB_iff, decide_eq_true_eq]; exact ⟨fun h => ⟨by omega, by rw [← show j = l.length by omega]; exact hI⟩, fun h => by have := h.1; omega⟩, rfl⟩

set_option maxRecDepth 100000 in
set_option maxHeartbeats 400000 in
theorem itC1_ct (b : Nat) (x : It) : Ct Tryz.prog 124 [.pointer (some ⟨b, 0, none⟩)] [single b (.cells [.string x.nm, .int .i64 x.kd, .int .i64 x.cnt, .int .i64 x.ld, .int .i64 x.sz, .int .i64 x.sh, .slice x.po x.on.length x.co].toArray 64 (0, 0))] (fun v Hs => v = .bool (decide (x.cnt ∈ [(1 : Int), 3, 5]) && decide (x.cnt = x.on.length)) ∧ Hs = [single b (.cells [.string x.nm, .int .i64 x.kd, .int .i64 x.cnt, .int .i64 x.ld, .int .i64 x.sz, .int .i64 x.sh, .slice x.po x.on.length x.co].toArray 64 (0, 0))]) := by
  refine Ct.body Tryz.func124 rfl Tryz.ntmps124 rfl ?_
  intro E F
  refine W.seq ?_
  refine W.region ?_
  refine RL.q (Yld.assign rfl) rfl ?_
  refine RL.nil ?_
  refine N.next ?_
  refine W.seq ?_
  refine W.region ?_
  refine RL.e (Eff.buildSlice 102 Tryz.underlying55 sz3 zc3 rfl rfl (.cons rfl rfl (.cons rfl rfl (.cons rfl rfl .nil))) rfl) rfl ?_
  rintro _ _ ⟨b2, rfl, rfl⟩
  refine RL.q (Yld.fieldAddr fo64_2 rfl) rfl ?_
  refine RL.q (Yld.ld 1 Tryz.underlying3 rfl rfl rfl rfl) rfl ?_
  refine RL.e (Eff.call ent35 [102] [102] (.cons rfl (.cons rfl .nil)) (contains_ct [1, 3, 5] _ _ _ (Own.mk (e := 3) (n := 1) (c := 3) [] (by simp [iz, Value.oneCell']) (by simp) (by simp [maxLen]) (by rfl) (by rfl)).sl x.cnt) rfl rfl rfl rfl (by rintro _ _ ⟨_, rfl⟩; rfl)) rfl ?_
  rintro _ _ ⟨_, ⟨rfl, rfl⟩, rfl⟩
  refine RL.q (Yld.move rfl) rfl ?_
  refine' RL.and (t := 6) (d := 13) 7 rfl (.of [0, 1, 2, 3, 4, 5] rfl) (.of [0, 1, 102] rfl) ?_ ?_ ?_
  rotate_left 1
  ·
   intro hg6
   refine RL.gq rfl rfl (Yld.fieldAddr fo64_2 rfl) rfl ?_
   refine RL.gq rfl rfl (Yld.ld 1 Tryz.underlying3 rfl rfl rfl rfl) rfl ?_
   refine RL.gq rfl rfl (Yld.fieldAddr fo64_6 rfl) rfl ?_
   refine RL.gq rfl rfl (Yld.ld 1 Tryz.underlying55 rfl rfl rfl rfl) rfl ?_
   refine RL.gq rfl rfl (Yld.lenSl Tryz.underlying55 rfl) rfl ?_
   refine RL.gq rfl rfl (Yld.bin rfl rfl BinV.eql) rfl ?_
   refine RL.q Yld.pk rfl ?_
   exact RL.nil (N.meet (.to rfl) (.to rfl))
  ·
   intro hg6
   refine RL.gskip rfl rfl rfl rfl ?_
   refine RL.gskip rfl rfl rfl rfl ?_
   refine RL.gskip rfl rfl rfl rfl ?_
   refine RL.gskip rfl rfl rfl rfl ?_
   refine RL.gskip rfl rfl rfl rfl ?_
   refine RL.gskip rfl rfl rfl rfl ?_
   refine RL.q Yld.pk rfl ?_
   exact RL.nil (N.meet (.to rfl) (.to rfl))
  refine RL.q (Yld.assign rfl) rfl ?_
  refine RL.nil ?_
  refine N.next ?_
  refine W.keep (.of [1] rfl) (.of [0, 1, 102] rfl) ?_
  refine W.ret ?_
  exact N.retBy [1] (.cons (.tmp rfl) .nil) rfl rfl rfl rfl ⟨rfl, rfl⟩

set_option maxRecDepth 100000 in
set_option maxHeartbeats 400000 in
theorem itC2_ct (b : Nat) (x : It) : Ct Tryz.prog 125 [.pointer (some ⟨b, 0, none⟩)] [single b (.cells [.string x.nm, .int .i64 x.kd, .int .i64 x.cnt, .int .i64 x.ld, .int .i64 x.sz, .int .i64 x.sh, .slice x.po x.on.length x.co].toArray 64 (0, 0))] (fun v Hs => v = .bool (decide (InR x.cnt 1 8)) ∧ Hs = [single b (.cells [.string x.nm, .int .i64 x.kd, .int .i64 x.cnt, .int .i64 x.ld, .int .i64 x.sz, .int .i64 x.sh, .slice x.po x.on.length x.co].toArray 64 (0, 0))]) := by
  refine Ct.body Tryz.func125 rfl Tryz.ntmps125 rfl ?_
  intro E F
  refine W.seq ?_
  refine W.region ?_
  refine RL.q (Yld.assign rfl) rfl ?_
  refine RL.nil ?_
  refine N.next ?_
  refine W.seq ?_
  refine W.region ?_
  refine RL.q (Yld.fieldAddr fo64_2 rfl) rfl ?_
  refine RL.q (Yld.ld 1 Tryz.underlying3 rfl rfl rfl rfl) rfl ?_
  refine RL.e (Eff.call ent67 [] [] (.cons rfl (.cons rfl (.cons rfl .nil))) (within_ct x.cnt 1 8) rfl rfl rfl rfl (by rintro _ _ ⟨_, rfl⟩; rfl)) rfl ?_
  rintro _ _ ⟨_, ⟨rfl, rfl⟩, rfl⟩
  refine RL.q (Yld.assign rfl) rfl ?_
  refine RL.nil ?_
  refine N.next ?_
  refine W.keep (.of [1] rfl) (.of [0, 1] rfl) ?_
  refine W.ret ?_
  exact N.retBy [1] (.cons (.tmp rfl) .nil) rfl rfl rfl rfl ⟨rfl, rfl⟩

set_option maxRecDepth 100000 in
set_option maxHeartbeats 400000 in
theorem itC3_ct (b : Nat) (x : It) : Ct Tryz.prog 126 [.pointer (some ⟨b, 0, none⟩)] [single b (.cells [.string x.nm, .int .i64 x.kd, .int .i64 x.cnt, .int .i64 x.ld, .int .i64 x.sz, .int .i64 x.sh, .slice x.po x.on.length x.co].toArray 64 (0, 0))] (fun v Hs => v = .bool (decide (x.cnt = 1) && decide ((x.on.length : Int) = 1)) ∧ Hs = [single b (.cells [.string x.nm, .int .i64 x.kd, .int .i64 x.cnt, .int .i64 x.ld, .int .i64 x.sz, .int .i64 x.sh, .slice x.po x.on.length x.co].toArray 64 (0, 0))]) := by
  refine Ct.body Tryz.func126 rfl Tryz.ntmps126 rfl ?_
  intro E F
  refine W.seq ?_
  refine W.region ?_
  refine RL.q (Yld.assign rfl) rfl ?_
  refine RL.nil ?_
  refine N.next ?_
  refine W.seq ?_
  refine W.region ?_
  refine RL.q (Yld.fieldAddr fo64_2 rfl) rfl ?_
  refine RL.q (Yld.ld 1 Tryz.underlying3 rfl rfl rfl rfl) rfl ?_
  refine RL.q (Yld.bin rfl rfl BinV.eql) rfl ?_
  refine RL.q (Yld.move rfl) rfl ?_
  refine' RL.and (t := 5) (d := 10) 5 rfl (.of [0, 1, 2, 3, 4] rfl) (.of [0, 1] rfl) ?_ ?_ ?_
  rotate_left 1
  ·
   intro hg5
   refine RL.gq rfl rfl (Yld.fieldAddr fo64_6 rfl) rfl ?_
   refine RL.gq rfl rfl (Yld.ld 1 Tryz.underlying55 rfl rfl rfl rfl) rfl ?_
   refine RL.gq rfl rfl (Yld.lenSl Tryz.underlying55 rfl) rfl ?_
   refine RL.gq rfl rfl (Yld.bin rfl rfl BinV.eql) rfl ?_
   refine RL.q Yld.pk rfl ?_
   exact RL.nil (N.meet (.to rfl) (.to rfl))
  ·
   intro hg5
   refine RL.gskip rfl rfl rfl rfl ?_
   refine RL.gskip rfl rfl rfl rfl ?_
   refine RL.gskip rfl rfl rfl rfl ?_
   refine RL.gskip rfl rfl rfl rfl ?_
   refine RL.q Yld.pk rfl ?_
   exact RL.nil (N.meet (.to rfl) (.to rfl))
  refine RL.q (Yld.assign rfl) rfl ?_
  refine RL.nil ?_
  refine N.next ?_
  refine W.keep (.of [1] rfl) (.of [0, 1] rfl) ?_
  refine W.ret ?_
  exact N.retBy [1] (.cons (.tmp rfl) .nil) rfl rfl rfl rfl ⟨rfl, rfl⟩

set_option maxRecDepth 100000 in
set_option maxHeartbeats 1600000 in
theorem validItem0_ct (m : Md) (H1 : PH) (hM : m.In H1) (x : It) (hon : Sl H1 x.po x.co 1 (iz x.on)) (hk : x.kd = 0) : Ct Tryz.prog 72 [.agg [.slice m.psi m.si.length m.csi, .slice m.pfe m.fe.length m.cfe, .slice m.prk m.rk.length m.crk, .slice m.pmc m.mc.length m.cmc, .slice m.pln m.ln.length m.cln, .slice m.pis m.is.length m.cis, .int .i64 m.da, .int .i64 m.sl, .int .i64 m.re, .int .i64 m.fa, .slice m.prl m.rl.length m.crl].toArray, .agg [.string x.nm, .int .i64 x.kd, .int .i64 x.cnt, .int .i64 x.ld, .int .i64 x.sz, .int .i64 x.sh, .slice x.po x.on.length x.co].toArray] [H1] (fun v Hs => v = .bool (itB m x) ∧ Hs = [H1]) := by
  refine Ct.body Tryz.func72 rfl Tryz.ntmps72 rfl ?_
  intro E F
  have hcv : countV x = (decide (x.cnt ∈ [(1 : Int), 3, 5]) && decide (x.cnt = x.on.length)) := by unfold countV; rw [if_pos hk]
  have hM0 : MapP (fun a : Int => Value.int .i64 a) #[] 0 [] := MapP.empty _
  refine W.seq ?_
  refine W.region ?_
  refine RL.e (Eff.box 102 _ rfl rfl) rfl ?_
  rintro _ _ ⟨b2, rfl, rfl⟩
  refine RL.e (Eff.box 103 _ rfl rfl) rfl ?_
  rintro _ _ ⟨b3, rfl, rfl⟩
  refine RL.q (Yld.assign rfl) rfl ?_
  refine RL.nil ?_
  refine N.next ?_
  refine W.seq ?_
  refine W.region ?_
  refine RL.e (Eff.makeMap 107) rfl ?_
  rintro _ _ ⟨b7, rfl, rfl⟩
  refine RL.q (Yld.makeFunc eval0 (eval1 rfl)) rfl ?_
  refine RL.e0 (Eff.insert (c := 107) Tryz.underlying172 (keyInt Tryz.underlying3) rfl rfl rfl rfl (by assumption)) ?_
  rintro _ _ ⟨es1, ck1, hM1, rfl⟩
  refine RL.q (Yld.makeFunc eval0 (eval1 rfl)) rfl ?_
  refine RL.e0 (Eff.insert (c := 107) Tryz.underlying172 (keyInt Tryz.underlying3) rfl rfl rfl rfl (by assumption)) ?_
  rintro _ _ ⟨es2, ck2, hM2, rfl⟩
  refine RL.q (Yld.makeFunc eval0 (eval1 rfl)) rfl ?_
  refine RL.e0 (Eff.insert (c := 107) Tryz.underlying172 (keyInt Tryz.underlying3) rfl rfl rfl rfl (by assumption)) ?_
  rintro _ _ ⟨es3, ck3, hM3, rfl⟩
  refine RL.q (Yld.move rfl) rfl ?_
  refine RL.q (Yld.assign rfl) rfl ?_
  refine RL.nil ?_
  refine N.next ?_
  refine W.keep (.of [2, 3, 5] rfl) (.of [0, 1, 102, 103, 107] rfl) ?_
  refine W.seq ?_
  refine W.region ?_
  refine RL.q (Yld.move rfl) rfl ?_
  refine RL.q (Yld.fieldAddr fo64_1 rfl) rfl ?_
  refine RL.q (Yld.ld 103 Tryz.underlying3 rfl rfl rfl rfl) rfl ?_
  refine RL.q (Yld.eq (v' := .func (.func 124) [].toArray [Value.pointer (some ⟨b3, 0, none⟩)].toArray) (Yld.lookup (c := 107) Tryz.underlying172 (keyInt Tryz.underlying3) zv32 rfl rfl rfl (by assumption)) (by rw [mget_mset, mget_mset, mget_mset]; simp [hk]; try rfl)) rfl ?_
  refine RL.q (Yld.assign rfl) rfl ?_
  refine RL.nil ?_
  refine N.next ?_
  refine W.keep (.of [2, 3, 6] rfl) (.of [0, 1, 102, 103, 107] rfl) ?_
  refine W.seq ?_
  refine W.region ?_
  refine RL.q (Yld.move rfl) rfl ?_
  refine RL.q (by first | exact Yld.bin rfl rfl (BinV.neqFN Tryz.underlying32) | exact Yld.bin rfl rfl (BinV.neqNN Tryz.underlying32)) rfl ?_
  refine RL.q (Yld.move rfl) rfl ?_
  first | refine RL.as (t := 18) rfl (boolT (by first | assumption | omega | (simp; done))) ?_ | refine RL.as (t := 18) (v := .bool true) rfl rfl ?_
  refine RL.gq rfl rfl (Yld.move rfl) rfl ?_
  refine RL.ge rfl rfl (Eff.callV ent124 [103] [103] rfl .nil (itC1_ct b3 x) rfl rfl rfl rfl (by rintro _ _ ⟨_, rfl⟩; rfl)) rfl ?_
  rintro _ _ ⟨_, ⟨rfl, rfl⟩, rfl⟩
  refine RL.q Yld.pk rfl ?_
  refine RL.q (Yld.move rfl) rfl ?_
  refine' RL.and (t := 22) (d := 27) 5 rfl (.of [2, 3, 6, 16, 17, 18, 19, 20, 21] rfl) (.of [0, 1, 102, 103, 107] rfl) ?_ ?_ ?_
  rotate_left 1
  ·
   intro hg22
   refine RL.gq rfl rfl (Yld.ldW 102 Tryz.underlying29 sz29 rfl rfl rfl rfl) rfl ?_
   refine RL.gq rfl rfl (Yld.fieldAddr fo64_6 rfl) rfl ?_
   refine RL.gq rfl rfl (Yld.ld 103 Tryz.underlying55 rfl rfl rfl rfl) rfl ?_
   refine RL.ge rfl rfl (Eff.call ent127 [1] [1] (.cons rfl (.cons rfl .nil)) (machines_ct m H1 hM x.on _ _ hon) rfl rfl rfl rfl (by rintro _ _ ⟨_, rfl⟩; rfl)) rfl ?_
   rintro _ _ ⟨_, ⟨rfl, rfl⟩, rfl⟩
   refine RL.q Yld.pk rfl ?_
   exact RL.nil (N.meet (.to rfl) (.to rfl))
  ·
   intro hg22
   refine RL.gskip rfl rfl rfl rfl ?_
   refine RL.gskip rfl rfl rfl rfl ?_
   refine RL.gskip rfl rfl rfl rfl ?_
   refine RL.gskip rfl rfl rfl rfl ?_
   refine RL.q Yld.pk rfl ?_
   exact RL.nil (N.meet (.to rfl) (.to rfl))
  refine RL.q (Yld.move rfl) rfl ?_
  refine' RL.and (t := 28) (d := 32) 4 rfl (.of [2, 3, 6, 16, 17, 18, 19, 20, 21, 27] rfl) (.of [0, 1, 102, 103, 107] rfl) ?_ ?_ ?_
  rotate_left 1
  ·
   intro hg28
   refine RL.gq rfl rfl (Yld.fieldAddr fo64_3 rfl) rfl ?_
   refine RL.gq rfl rfl (Yld.ld 103 Tryz.underlying3 rfl rfl rfl rfl) rfl ?_
   refine RL.ge rfl rfl (Eff.call ent67 [] [] (.cons rfl (.cons rfl (.cons rfl .nil))) (within_ct x.ld 0 1048576) rfl rfl rfl rfl (by rintro _ _ ⟨_, rfl⟩; rfl)) rfl ?_
   rintro _ _ ⟨_, ⟨rfl, rfl⟩, rfl⟩
   refine RL.q Yld.pk rfl ?_
   exact RL.nil (N.meet (.to rfl) (.to rfl))
  ·
   intro hg28
   refine RL.gskip rfl rfl rfl rfl ?_
   refine RL.gskip rfl rfl rfl rfl ?_
   refine RL.gskip rfl rfl rfl rfl ?_
   refine RL.q Yld.pk rfl ?_
   exact RL.nil (N.meet (.to rfl) (.to rfl))
  refine RL.q (Yld.move rfl) rfl ?_
  refine' RL.and (t := 33) (d := 37) 4 rfl (.of [2, 3, 6, 16, 17, 18, 19, 20, 21, 27, 32] rfl) (.of [0, 1, 102, 103, 107] rfl) ?_ ?_ ?_
  rotate_left 1
  ·
   intro hg33
   refine RL.gq rfl rfl (Yld.fieldAddr fo64_4 rfl) rfl ?_
   refine RL.gq rfl rfl (Yld.ld 103 Tryz.underlying3 rfl rfl rfl rfl) rfl ?_
   refine RL.ge rfl rfl (Eff.call ent67 [] [] (.cons rfl (.cons rfl (.cons rfl .nil))) (within_ct x.sz 0 1048576) rfl rfl rfl rfl (by rintro _ _ ⟨_, rfl⟩; rfl)) rfl ?_
   rintro _ _ ⟨_, ⟨rfl, rfl⟩, rfl⟩
   refine RL.q Yld.pk rfl ?_
   exact RL.nil (N.meet (.to rfl) (.to rfl))
  ·
   intro hg33
   refine RL.gskip rfl rfl rfl rfl ?_
   refine RL.gskip rfl rfl rfl rfl ?_
   refine RL.gskip rfl rfl rfl rfl ?_
   refine RL.q Yld.pk rfl ?_
   exact RL.nil (N.meet (.to rfl) (.to rfl))
  refine RL.q (Yld.move rfl) rfl ?_
  refine' RL.and (t := 38) (d := 42) 4 rfl (.of [2, 3, 6, 16, 17, 18, 19, 20, 21, 27, 32, 37] rfl) (.of [0, 1, 102, 103, 107] rfl) ?_ ?_ ?_
  rotate_left 1
  ·
   intro hg38
   refine RL.gq rfl rfl (Yld.fieldAddr fo64_5 rfl) rfl ?_
   refine RL.gq rfl rfl (Yld.ld 103 Tryz.underlying3 rfl rfl rfl rfl) rfl ?_
   refine RL.ge rfl rfl (Eff.call ent67 [] [] (.cons rfl (.cons rfl (.cons rfl .nil))) (within_ct x.sh 1 1048576) rfl rfl rfl rfl (by rintro _ _ ⟨_, rfl⟩; rfl)) rfl ?_
   rintro _ _ ⟨_, ⟨rfl, rfl⟩, rfl⟩
   refine RL.q Yld.pk rfl ?_
   exact RL.nil (N.meet (.to rfl) (.to rfl))
  ·
   intro hg38
   refine RL.gskip rfl rfl rfl rfl ?_
   refine RL.gskip rfl rfl rfl rfl ?_
   refine RL.gskip rfl rfl rfl rfl ?_
   refine RL.q Yld.pk rfl ?_
   exact RL.nil (N.meet (.to rfl) (.to rfl))
  refine RL.q (Yld.assign rfl) rfl ?_
  refine RL.nil ?_
  refine N.next ?_
  refine W.keep (.of [4] rfl) (.of [0, 1, 102, 103, 107] rfl) ?_
  refine W.ret ?_
  exact N.retBy [1] (.cons (.tmp rfl) .nil) rfl rfl rfl rfl ⟨by unfold itB; rw [hcv]; rfl, rfl⟩

set_option maxRecDepth 100000 in
set_option maxHeartbeats 1600000 in
theorem validItem1_ct (m : Md) (H1 : PH) (hM : m.In H1) (x : It) (hon : Sl H1 x.po x.co 1 (iz x.on)) (hk : x.kd = 1) : Ct Tryz.prog 72 [.agg [.slice m.psi m.si.length m.csi, .slice m.pfe m.fe.length m.cfe, .slice m.prk m.rk.length m.crk, .slice m.pmc m.mc.length m.cmc, .slice m.pln m.ln.length m.cln, .slice m.pis m.is.length m.cis, .int .i64 m.da, .int .i64 m.sl, .int .i64 m.re, .int .i64 m.fa, .slice m.prl m.rl.length m.crl].toArray, .agg [.string x.nm, .int .i64 x.kd, .int .i64 x.cnt, .int .i64 x.ld, .int .i64 x.sz, .int .i64 x.sh, .slice x.po x.on.length x.co].toArray] [H1] (fun v Hs => v = .bool (itB m x) ∧ Hs = [H1]) := by
  refine Ct.body Tryz.func72 rfl Tryz.ntmps72 rfl ?_
  intro E F
  have hcv : countV x = (decide (InR x.cnt 1 8)) := by unfold countV; rw [if_neg (by omega), if_pos hk]
  have hM0 : MapP (fun a : Int => Value.int .i64 a) #[] 0 [] := MapP.empty _
  refine W.seq ?_
  refine W.region ?_
  refine RL.e (Eff.box 102 _ rfl rfl) rfl ?_
  rintro _ _ ⟨b2, rfl, rfl⟩
  refine RL.e (Eff.box 103 _ rfl rfl) rfl ?_
  rintro _ _ ⟨b3, rfl, rfl⟩
  refine RL.q (Yld.assign rfl) rfl ?_
  refine RL.nil ?_
  refine N.next ?_
  refine W.seq ?_
  refine W.region ?_
  refine RL.e (Eff.makeMap 107) rfl ?_
  rintro _ _ ⟨b7, rfl, rfl⟩
  refine RL.q (Yld.makeFunc eval0 (eval1 rfl)) rfl ?_
  refine RL.e0 (Eff.insert (c := 107) Tryz.underlying172 (keyInt Tryz.underlying3) rfl rfl rfl rfl (by assumption)) ?_
  rintro _ _ ⟨es1, ck1, hM1, rfl⟩
  refine RL.q (Yld.makeFunc eval0 (eval1 rfl)) rfl ?_
  refine RL.e0 (Eff.insert (c := 107) Tryz.underlying172 (keyInt Tryz.underlying3) rfl rfl rfl rfl (by assumption)) ?_
  rintro _ _ ⟨es2, ck2, hM2, rfl⟩
  refine RL.q (Yld.makeFunc eval0 (eval1 rfl)) rfl ?_
  refine RL.e0 (Eff.insert (c := 107) Tryz.underlying172 (keyInt Tryz.underlying3) rfl rfl rfl rfl (by assumption)) ?_
  rintro _ _ ⟨es3, ck3, hM3, rfl⟩
  refine RL.q (Yld.move rfl) rfl ?_
  refine RL.q (Yld.assign rfl) rfl ?_
  refine RL.nil ?_
  refine N.next ?_
  refine W.keep (.of [2, 3, 5] rfl) (.of [0, 1, 102, 103, 107] rfl) ?_
  refine W.seq ?_
  refine W.region ?_
  refine RL.q (Yld.move rfl) rfl ?_
  refine RL.q (Yld.fieldAddr fo64_1 rfl) rfl ?_
  refine RL.q (Yld.ld 103 Tryz.underlying3 rfl rfl rfl rfl) rfl ?_
  refine RL.q (Yld.eq (v' := .func (.func 125) [].toArray [Value.pointer (some ⟨b3, 0, none⟩)].toArray) (Yld.lookup (c := 107) Tryz.underlying172 (keyInt Tryz.underlying3) zv32 rfl rfl rfl (by assumption)) (by rw [mget_mset, mget_mset, mget_mset]; simp [hk]; try rfl)) rfl ?_
  refine RL.q (Yld.assign rfl) rfl ?_
  refine RL.nil ?_
  refine N.next ?_
  refine W.keep (.of [2, 3, 6] rfl) (.of [0, 1, 102, 103, 107] rfl) ?_
  refine W.seq ?_
  refine W.region ?_
  refine RL.q (Yld.move rfl) rfl ?_
  refine RL.q (by first | exact Yld.bin rfl rfl (BinV.neqFN Tryz.underlying32) | exact Yld.bin rfl rfl (BinV.neqNN Tryz.underlying32)) rfl ?_
  refine RL.q (Yld.move rfl) rfl ?_
  first | refine RL.as (t := 18) rfl (boolT (by first | assumption | omega | (simp; done))) ?_ | refine RL.as (t := 18) (v := .bool true) rfl rfl ?_
  refine RL.gq rfl rfl (Yld.move rfl) rfl ?_
  refine RL.ge rfl rfl (Eff.callV ent125 [103] [103] rfl .nil (itC2_ct b3 x) rfl rfl rfl rfl (by rintro _ _ ⟨_, rfl⟩; rfl)) rfl ?_
  rintro _ _ ⟨_, ⟨rfl, rfl⟩, rfl⟩
  refine RL.q Yld.pk rfl ?_
  refine RL.q (Yld.move rfl) rfl ?_
  refine' RL.and (t := 22) (d := 27) 5 rfl (.of [2, 3, 6, 16, 17, 18, 19, 20, 21] rfl) (.of [0, 1, 102, 103, 107] rfl) ?_ ?_ ?_
  rotate_left 1
  ·
   intro hg22
   refine RL.gq rfl rfl (Yld.ldW 102 Tryz.underlying29 sz29 rfl rfl rfl rfl) rfl ?_
   refine RL.gq rfl rfl (Yld.fieldAddr fo64_6 rfl) rfl ?_
   refine RL.gq rfl rfl (Yld.ld 103 Tryz.underlying55 rfl rfl rfl rfl) rfl ?_
   refine RL.ge rfl rfl (Eff.call ent127 [1] [1] (.cons rfl (.cons rfl .nil)) (machines_ct m H1 hM x.on _ _ hon) rfl rfl rfl rfl (by rintro _ _ ⟨_, rfl⟩; rfl)) rfl ?_
   rintro _ _ ⟨_, ⟨rfl, rfl⟩, rfl⟩
   refine RL.q Yld.pk rfl ?_
   exact RL.nil (N.meet (.to rfl) (.to rfl))
  ·
   intro hg22
   refine RL.gskip rfl rfl rfl rfl ?_
   refine RL.gskip rfl rfl rfl rfl ?_
   refine RL.gskip rfl rfl rfl rfl ?_
   refine RL.gskip rfl rfl rfl rfl ?_
   refine RL.q Yld.pk rfl ?_
   exact RL.nil (N.meet (.to rfl) (.to rfl))
  refine RL.q (Yld.move rfl) rfl ?_
  refine' RL.and (t := 28) (d := 32) 4 rfl (.of [2, 3, 6, 16, 17, 18, 19, 20, 21, 27] rfl) (.of [0, 1, 102, 103, 107] rfl) ?_ ?_ ?_
  rotate_left 1
  ·
   intro hg28
   refine RL.gq rfl rfl (Yld.fieldAddr fo64_3 rfl) rfl ?_
   refine RL.gq rfl rfl (Yld.ld 103 Tryz.underlying3 rfl rfl rfl rfl) rfl ?_
   refine RL.ge rfl rfl (Eff.call ent67 [] [] (.cons rfl (.cons rfl (.cons rfl .nil))) (within_ct x.ld 0 1048576) rfl rfl rfl rfl (by rintro _ _ ⟨_, rfl⟩; rfl)) rfl ?_
   rintro _ _ ⟨_, ⟨rfl, rfl⟩, rfl⟩
   refine RL.q Yld.pk rfl ?_
   exact RL.nil (N.meet (.to rfl) (.to rfl))
  ·
   intro hg28
   refine RL.gskip rfl rfl rfl rfl ?_
   refine RL.gskip rfl rfl rfl rfl ?_
   refine RL.gskip rfl rfl rfl rfl ?_
   refine RL.q Yld.pk rfl ?_
   exact RL.nil (N.meet (.to rfl) (.to rfl))
  refine RL.q (Yld.move rfl) rfl ?_
  refine' RL.and (t := 33) (d := 37) 4 rfl (.of [2, 3, 6, 16, 17, 18, 19, 20, 21, 27, 32] rfl) (.of [0, 1, 102, 103, 107] rfl) ?_ ?_ ?_
  rotate_left 1
  ·
   intro hg33
   refine RL.gq rfl rfl (Yld.fieldAddr fo64_4 rfl) rfl ?_
   refine RL.gq rfl rfl (Yld.ld 103 Tryz.underlying3 rfl rfl rfl rfl) rfl ?_
   refine RL.ge rfl rfl (Eff.call ent67 [] [] (.cons rfl (.cons rfl (.cons rfl .nil))) (within_ct x.sz 0 1048576) rfl rfl rfl rfl (by rintro _ _ ⟨_, rfl⟩; rfl)) rfl ?_
   rintro _ _ ⟨_, ⟨rfl, rfl⟩, rfl⟩
   refine RL.q Yld.pk rfl ?_
   exact RL.nil (N.meet (.to rfl) (.to rfl))
  ·
   intro hg33
   refine RL.gskip rfl rfl rfl rfl ?_
   refine RL.gskip rfl rfl rfl rfl ?_
   refine RL.gskip rfl rfl rfl rfl ?_
   refine RL.q Yld.pk rfl ?_
   exact RL.nil (N.meet (.to rfl) (.to rfl))
  refine RL.q (Yld.move rfl) rfl ?_
  refine' RL.and (t := 38) (d := 42) 4 rfl (.of [2, 3, 6, 16, 17, 18, 19, 20, 21, 27, 32, 37] rfl) (.of [0, 1, 102, 103, 107] rfl) ?_ ?_ ?_
  rotate_left 1
  ·
   intro hg38
   refine RL.gq rfl rfl (Yld.fieldAddr fo64_5 rfl) rfl ?_
   refine RL.gq rfl rfl (Yld.ld 103 Tryz.underlying3 rfl rfl rfl rfl) rfl ?_
   refine RL.ge rfl rfl (Eff.call ent67 [] [] (.cons rfl (.cons rfl (.cons rfl .nil))) (within_ct x.sh 1 1048576) rfl rfl rfl rfl (by rintro _ _ ⟨_, rfl⟩; rfl)) rfl ?_
   rintro _ _ ⟨_, ⟨rfl, rfl⟩, rfl⟩
   refine RL.q Yld.pk rfl ?_
   exact RL.nil (N.meet (.to rfl) (.to rfl))
  ·
   intro hg38
   refine RL.gskip rfl rfl rfl rfl ?_
   refine RL.gskip rfl rfl rfl rfl ?_
   refine RL.gskip rfl rfl rfl rfl ?_
   refine RL.q Yld.pk rfl ?_
   exact RL.nil (N.meet (.to rfl) (.to rfl))
  refine RL.q (Yld.assign rfl) rfl ?_
  refine RL.nil ?_
  refine N.next ?_
  refine W.keep (.of [4] rfl) (.of [0, 1, 102, 103, 107] rfl) ?_
  refine W.ret ?_
  exact N.retBy [1] (.cons (.tmp rfl) .nil) rfl rfl rfl rfl ⟨by unfold itB; rw [hcv]; rfl, rfl⟩

set_option maxRecDepth 100000 in
set_option maxHeartbeats 1600000 in
theorem validItem2_ct (m : Md) (H1 : PH) (hM : m.In H1) (x : It) (hon : Sl H1 x.po x.co 1 (iz x.on)) (hk : x.kd = 2) : Ct Tryz.prog 72 [.agg [.slice m.psi m.si.length m.csi, .slice m.pfe m.fe.length m.cfe, .slice m.prk m.rk.length m.crk, .slice m.pmc m.mc.length m.cmc, .slice m.pln m.ln.length m.cln, .slice m.pis m.is.length m.cis, .int .i64 m.da, .int .i64 m.sl, .int .i64 m.re, .int .i64 m.fa, .slice m.prl m.rl.length m.crl].toArray, .agg [.string x.nm, .int .i64 x.kd, .int .i64 x.cnt, .int .i64 x.ld, .int .i64 x.sz, .int .i64 x.sh, .slice x.po x.on.length x.co].toArray] [H1] (fun v Hs => v = .bool (itB m x) ∧ Hs = [H1]) := by
  refine Ct.body Tryz.func72 rfl Tryz.ntmps72 rfl ?_
  intro E F
  have hcv : countV x = (decide (x.cnt = 1) && decide ((x.on.length : Int) = 1)) := by unfold countV; rw [if_neg (by omega), if_neg (by omega), if_pos hk]
  have hM0 : MapP (fun a : Int => Value.int .i64 a) #[] 0 [] := MapP.empty _
  refine W.seq ?_
  refine W.region ?_
  refine RL.e (Eff.box 102 _ rfl rfl) rfl ?_
  rintro _ _ ⟨b2, rfl, rfl⟩
  refine RL.e (Eff.box 103 _ rfl rfl) rfl ?_
  rintro _ _ ⟨b3, rfl, rfl⟩
  refine RL.q (Yld.assign rfl) rfl ?_
  refine RL.nil ?_
  refine N.next ?_
  refine W.seq ?_
  refine W.region ?_
  refine RL.e (Eff.makeMap 107) rfl ?_
  rintro _ _ ⟨b7, rfl, rfl⟩
  refine RL.q (Yld.makeFunc eval0 (eval1 rfl)) rfl ?_
  refine RL.e0 (Eff.insert (c := 107) Tryz.underlying172 (keyInt Tryz.underlying3) rfl rfl rfl rfl (by assumption)) ?_
  rintro _ _ ⟨es1, ck1, hM1, rfl⟩
  refine RL.q (Yld.makeFunc eval0 (eval1 rfl)) rfl ?_
  refine RL.e0 (Eff.insert (c := 107) Tryz.underlying172 (keyInt Tryz.underlying3) rfl rfl rfl rfl (by assumption)) ?_
  rintro _ _ ⟨es2, ck2, hM2, rfl⟩
  refine RL.q (Yld.makeFunc eval0 (eval1 rfl)) rfl ?_
  refine RL.e0 (Eff.insert (c := 107) Tryz.underlying172 (keyInt Tryz.underlying3) rfl rfl rfl rfl (by assumption)) ?_
  rintro _ _ ⟨es3, ck3, hM3, rfl⟩
  refine RL.q (Yld.move rfl) rfl ?_
  refine RL.q (Yld.assign rfl) rfl ?_
  refine RL.nil ?_
  refine N.next ?_
  refine W.keep (.of [2, 3, 5] rfl) (.of [0, 1, 102, 103, 107] rfl) ?_
  refine W.seq ?_
  refine W.region ?_
  refine RL.q (Yld.move rfl) rfl ?_
  refine RL.q (Yld.fieldAddr fo64_1 rfl) rfl ?_
  refine RL.q (Yld.ld 103 Tryz.underlying3 rfl rfl rfl rfl) rfl ?_
  refine RL.q (Yld.eq (v' := .func (.func 126) [].toArray [Value.pointer (some ⟨b3, 0, none⟩)].toArray) (Yld.lookup (c := 107) Tryz.underlying172 (keyInt Tryz.underlying3) zv32 rfl rfl rfl (by assumption)) (by rw [mget_mset, mget_mset, mget_mset]; simp [hk]; try rfl)) rfl ?_
  refine RL.q (Yld.assign rfl) rfl ?_
  refine RL.nil ?_
  refine N.next ?_
  refine W.keep (.of [2, 3, 6] rfl) (.of [0, 1, 102, 103, 107] rfl) ?_
  refine W.seq ?_
  refine W.region ?_
  refine RL.q (Yld.move rfl) rfl ?_
  refine RL.q (by first | exact Yld.bin rfl rfl (BinV.neqFN Tryz.underlying32) | exact Yld.bin rfl rfl (BinV.neqNN Tryz.underlying32)) rfl ?_
  refine RL.q (Yld.move rfl) rfl ?_
  first | refine RL.as (t := 18) rfl (boolT (by first | assumption | omega | (simp; done))) ?_ | refine RL.as (t := 18) (v := .bool true) rfl rfl ?_
  refine RL.gq rfl rfl (Yld.move rfl) rfl ?_
  refine RL.ge rfl rfl (Eff.callV ent126 [103] [103] rfl .nil (itC3_ct b3 x) rfl rfl rfl rfl (by rintro _ _ ⟨_, rfl⟩; rfl)) rfl ?_
  rintro _ _ ⟨_, ⟨rfl, rfl⟩, rfl⟩
  refine RL.q Yld.pk rfl ?_
  refine RL.q (Yld.move rfl) rfl ?_
  refine' RL.and (t := 22) (d := 27) 5 rfl (.of [2, 3, 6, 16, 17, 18, 19, 20, 21] rfl) (.of [0, 1, 102, 103, 107] rfl) ?_ ?_ ?_
  rotate_left 1
  ·
   intro hg22
   refine RL.gq rfl rfl (Yld.ldW 102 Tryz.underlying29 sz29 rfl rfl rfl rfl) rfl ?_
   refine RL.gq rfl rfl (Yld.fieldAddr fo64_6 rfl) rfl ?_
   refine RL.gq rfl rfl (Yld.ld 103 Tryz.underlying55 rfl rfl rfl rfl) rfl ?_
   refine RL.ge rfl rfl (Eff.call ent127 [1] [1] (.cons rfl (.cons rfl .nil)) (machines_ct m H1 hM x.on _ _ hon) rfl rfl rfl rfl (by rintro _ _ ⟨_, rfl⟩; rfl)) rfl ?_
   rintro _ _ ⟨_, ⟨rfl, rfl⟩, rfl⟩
   refine RL.q Yld.pk rfl ?_
   exact RL.nil (N.meet (.to rfl) (.to rfl))
  ·
   intro hg22
   refine RL.gskip rfl rfl rfl rfl ?_
   refine RL.gskip rfl rfl rfl rfl ?_
   refine RL.gskip rfl rfl rfl rfl ?_
   refine RL.gskip rfl rfl rfl rfl ?_
   refine RL.q Yld.pk rfl ?_
   exact RL.nil (N.meet (.to rfl) (.to rfl))
  refine RL.q (Yld.move rfl) rfl ?_
  refine' RL.and (t := 28) (d := 32) 4 rfl (.of [2, 3, 6, 16, 17, 18, 19, 20, 21, 27] rfl) (.of [0, 1, 102, 103, 107] rfl) ?_ ?_ ?_
  rotate_left 1
  ·
   intro hg28
   refine RL.gq rfl rfl (Yld.fieldAddr fo64_3 rfl) rfl ?_
   refine RL.gq rfl rfl (Yld.ld 103 Tryz.underlying3 rfl rfl rfl rfl) rfl ?_
   refine RL.ge rfl rfl (Eff.call ent67 [] [] (.cons rfl (.cons rfl (.cons rfl .nil))) (within_ct x.ld 0 1048576) rfl rfl rfl rfl (by rintro _ _ ⟨_, rfl⟩; rfl)) rfl ?_
   rintro _ _ ⟨_, ⟨rfl, rfl⟩, rfl⟩
   refine RL.q Yld.pk rfl ?_
   exact RL.nil (N.meet (.to rfl) (.to rfl))
  ·
   intro hg28
   refine RL.gskip rfl rfl rfl rfl ?_
   refine RL.gskip rfl rfl rfl rfl ?_
   refine RL.gskip rfl rfl rfl rfl ?_
   refine RL.q Yld.pk rfl ?_
   exact RL.nil (N.meet (.to rfl) (.to rfl))
  refine RL.q (Yld.move rfl) rfl ?_
  refine' RL.and (t := 33) (d := 37) 4 rfl (.of [2, 3, 6, 16, 17, 18, 19, 20, 21, 27, 32] rfl) (.of [0, 1, 102, 103, 107] rfl) ?_ ?_ ?_
  rotate_left 1
  ·
   intro hg33
   refine RL.gq rfl rfl (Yld.fieldAddr fo64_4 rfl) rfl ?_
   refine RL.gq rfl rfl (Yld.ld 103 Tryz.underlying3 rfl rfl rfl rfl) rfl ?_
   refine RL.ge rfl rfl (Eff.call ent67 [] [] (.cons rfl (.cons rfl (.cons rfl .nil))) (within_ct x.sz 0 1048576) rfl rfl rfl rfl (by rintro _ _ ⟨_, rfl⟩; rfl)) rfl ?_
   rintro _ _ ⟨_, ⟨rfl, rfl⟩, rfl⟩
   refine RL.q Yld.pk rfl ?_
   exact RL.nil (N.meet (.to rfl) (.to rfl))
  ·
   intro hg33
   refine RL.gskip rfl rfl rfl rfl ?_
   refine RL.gskip rfl rfl rfl rfl ?_
   refine RL.gskip rfl rfl rfl rfl ?_
   refine RL.q Yld.pk rfl ?_
   exact RL.nil (N.meet (.to rfl) (.to rfl))
  refine RL.q (Yld.move rfl) rfl ?_
  refine' RL.and (t := 38) (d := 42) 4 rfl (.of [2, 3, 6, 16, 17, 18, 19, 20, 21, 27, 32, 37] rfl) (.of [0, 1, 102, 103, 107] rfl) ?_ ?_ ?_
  rotate_left 1
  ·
   intro hg38
   refine RL.gq rfl rfl (Yld.fieldAddr fo64_5 rfl) rfl ?_
   refine RL.gq rfl rfl (Yld.ld 103 Tryz.underlying3 rfl rfl rfl rfl) rfl ?_
   refine RL.ge rfl rfl (Eff.call ent67 [] [] (.cons rfl (.cons rfl (.cons rfl .nil))) (within_ct x.sh 1 1048576) rfl rfl rfl rfl (by rintro _ _ ⟨_, rfl⟩; rfl)) rfl ?_
   rintro _ _ ⟨_, ⟨rfl, rfl⟩, rfl⟩
   refine RL.q Yld.pk rfl ?_
   exact RL.nil (N.meet (.to rfl) (.to rfl))
  ·
   intro hg38
   refine RL.gskip rfl rfl rfl rfl ?_
   refine RL.gskip rfl rfl rfl rfl ?_
   refine RL.gskip rfl rfl rfl rfl ?_
   refine RL.q Yld.pk rfl ?_
   exact RL.nil (N.meet (.to rfl) (.to rfl))
  refine RL.q (Yld.assign rfl) rfl ?_
  refine RL.nil ?_
  refine N.next ?_
  refine W.keep (.of [4] rfl) (.of [0, 1, 102, 103, 107] rfl) ?_
  refine W.ret ?_
  exact N.retBy [1] (.cons (.tmp rfl) .nil) rfl rfl rfl rfl ⟨by unfold itB; rw [hcv]; rfl, rfl⟩

set_option maxRecDepth 100000 in
set_option maxHeartbeats 1600000 in
theorem validItem3_ct (m : Md) (H1 : PH) (hM : m.In H1) (x : It) (hon : Sl H1 x.po x.co 1 (iz x.on)) (hk : x.kd ≠ 0 ∧ x.kd ≠ 1 ∧ x.kd ≠ 2) : Ct Tryz.prog 72 [.agg [.slice m.psi m.si.length m.csi, .slice m.pfe m.fe.length m.cfe, .slice m.prk m.rk.length m.crk, .slice m.pmc m.mc.length m.cmc, .slice m.pln m.ln.length m.cln, .slice m.pis m.is.length m.cis, .int .i64 m.da, .int .i64 m.sl, .int .i64 m.re, .int .i64 m.fa, .slice m.prl m.rl.length m.crl].toArray, .agg [.string x.nm, .int .i64 x.kd, .int .i64 x.cnt, .int .i64 x.ld, .int .i64 x.sz, .int .i64 x.sh, .slice x.po x.on.length x.co].toArray] [H1] (fun v Hs => v = .bool (itB m x) ∧ Hs = [H1]) := by
  refine Ct.body Tryz.func72 rfl Tryz.ntmps72 rfl ?_
  intro E F
  have hcv : countV x = (false) := by unfold countV; rw [if_neg hk.1, if_neg hk.2.1, if_neg hk.2.2]
  have hM0 : MapP (fun a : Int => Value.int .i64 a) #[] 0 [] := MapP.empty _
  refine W.seq ?_
  refine W.region ?_
  refine RL.e (Eff.box 102 _ rfl rfl) rfl ?_
  rintro _ _ ⟨b2, rfl, rfl⟩
  refine RL.e (Eff.box 103 _ rfl rfl) rfl ?_
  rintro _ _ ⟨b3, rfl, rfl⟩
  refine RL.q (Yld.assign rfl) rfl ?_
  refine RL.nil ?_
  refine N.next ?_
  refine W.seq ?_
  refine W.region ?_
  refine RL.e (Eff.makeMap 107) rfl ?_
  rintro _ _ ⟨b7, rfl, rfl⟩
  refine RL.q (Yld.makeFunc eval0 (eval1 rfl)) rfl ?_
  refine RL.e0 (Eff.insert (c := 107) Tryz.underlying172 (keyInt Tryz.underlying3) rfl rfl rfl rfl (by assumption)) ?_
  rintro _ _ ⟨es1, ck1, hM1, rfl⟩
  refine RL.q (Yld.makeFunc eval0 (eval1 rfl)) rfl ?_
  refine RL.e0 (Eff.insert (c := 107) Tryz.underlying172 (keyInt Tryz.underlying3) rfl rfl rfl rfl (by assumption)) ?_
  rintro _ _ ⟨es2, ck2, hM2, rfl⟩
  refine RL.q (Yld.makeFunc eval0 (eval1 rfl)) rfl ?_
  refine RL.e0 (Eff.insert (c := 107) Tryz.underlying172 (keyInt Tryz.underlying3) rfl rfl rfl rfl (by assumption)) ?_
  rintro _ _ ⟨es3, ck3, hM3, rfl⟩
  refine RL.q (Yld.move rfl) rfl ?_
  refine RL.q (Yld.assign rfl) rfl ?_
  refine RL.nil ?_
  refine N.next ?_
  refine W.keep (.of [2, 3, 5] rfl) (.of [0, 1, 102, 103, 107] rfl) ?_
  refine W.seq ?_
  refine W.region ?_
  refine RL.q (Yld.move rfl) rfl ?_
  refine RL.q (Yld.fieldAddr fo64_1 rfl) rfl ?_
  refine RL.q (Yld.ld 103 Tryz.underlying3 rfl rfl rfl rfl) rfl ?_
  refine RL.q (Yld.eq (v' := .nilFunc) (Yld.lookup (c := 107) Tryz.underlying172 (keyInt Tryz.underlying3) zv32 rfl rfl rfl (by assumption)) (by rw [mget_mset, mget_mset, mget_mset, if_neg (Ne.symm hk.2.2), if_neg (Ne.symm hk.2.1), if_neg (Ne.symm hk.1)]; rfl)) rfl ?_
  refine RL.q (Yld.assign rfl) rfl ?_
  refine RL.nil ?_
  refine N.next ?_
  refine W.keep (.of [2, 3, 6] rfl) (.of [0, 1, 102, 103, 107] rfl) ?_
  refine W.seq ?_
  refine W.region ?_
  refine RL.q (Yld.move rfl) rfl ?_
  refine RL.q (by first | exact Yld.bin rfl rfl (BinV.neqFN Tryz.underlying32) | exact Yld.bin rfl rfl (BinV.neqNN Tryz.underlying32)) rfl ?_
  refine RL.q (Yld.move rfl) rfl ?_
  first | refine RL.as (t := 18) rfl (boolF (by first | assumption | omega | (simp; done))) ?_ | refine RL.as (t := 18) (v := .bool false) rfl rfl ?_
  refine RL.gskip rfl rfl rfl rfl ?_
  refine RL.gskip rfl rfl rfl rfl ?_
  refine RL.q Yld.pk rfl ?_
  refine RL.q (Yld.move rfl) rfl ?_
  first | refine RL.as (t := 22) rfl (boolF (by first | assumption | omega | (simp; done))) ?_ | refine RL.as (t := 22) (v := .bool false) rfl rfl ?_
  refine RL.gskip rfl rfl rfl rfl ?_
  refine RL.gskip rfl rfl rfl rfl ?_
  refine RL.gskip rfl rfl rfl rfl ?_
  refine RL.gskip rfl rfl rfl rfl ?_
  refine RL.q Yld.pk rfl ?_
  refine RL.q (Yld.move rfl) rfl ?_
  first | refine RL.as (t := 28) rfl (boolF (by first | assumption | omega | (simp; done))) ?_ | refine RL.as (t := 28) (v := .bool false) rfl rfl ?_
  refine RL.gskip rfl rfl rfl rfl ?_
  refine RL.gskip rfl rfl rfl rfl ?_
  refine RL.gskip rfl rfl rfl rfl ?_
  refine RL.q Yld.pk rfl ?_
  refine RL.q (Yld.move rfl) rfl ?_
  first | refine RL.as (t := 33) rfl (boolF (by first | assumption | omega | (simp; done))) ?_ | refine RL.as (t := 33) (v := .bool false) rfl rfl ?_
  refine RL.gskip rfl rfl rfl rfl ?_
  refine RL.gskip rfl rfl rfl rfl ?_
  refine RL.gskip rfl rfl rfl rfl ?_
  refine RL.q Yld.pk rfl ?_
  refine RL.q (Yld.move rfl) rfl ?_
  first | refine RL.as (t := 38) rfl (boolF (by first | assumption | omega | (simp; done))) ?_ | refine RL.as (t := 38) (v := .bool false) rfl rfl ?_
  refine RL.gskip rfl rfl rfl rfl ?_
  refine RL.gskip rfl rfl rfl rfl ?_
  refine RL.gskip rfl rfl rfl rfl ?_
  refine RL.q Yld.pk rfl ?_
  refine RL.q (Yld.assign rfl) rfl ?_
  refine RL.nil ?_
  refine N.next ?_
  refine W.keep (.of [4] rfl) (.of [0, 1, 102, 103, 107] rfl) ?_
  refine W.ret ?_
  exact N.retBy [1] (.cons (.tmp rfl) .nil) rfl rfl rfl rfl ⟨by unfold itB; rw [hcv]; rfl, rfl⟩

theorem validItem_ct (m : Md) (H1 : PH) (hM : m.In H1) (x : It) (hon : Sl H1 x.po x.co 1 (iz x.on)) : Ct Tryz.prog 72 [.agg [.slice m.psi m.si.length m.csi, .slice m.pfe m.fe.length m.cfe, .slice m.prk m.rk.length m.crk, .slice m.pmc m.mc.length m.cmc, .slice m.pln m.ln.length m.cln, .slice m.pis m.is.length m.cis, .int .i64 m.da, .int .i64 m.sl, .int .i64 m.re, .int .i64 m.fa, .slice m.prl m.rl.length m.crl].toArray, .agg [.string x.nm, .int .i64 x.kd, .int .i64 x.cnt, .int .i64 x.ld, .int .i64 x.sz, .int .i64 x.sh, .slice x.po x.on.length x.co].toArray] [H1] (fun v Hs => v = .bool (itB m x) ∧ Hs = [H1]) := by
  by_cases h0 : x.kd = 0
  · exact validItem0_ct m H1 hM x hon h0
  by_cases h1 : x.kd = 1
  · exact validItem1_ct m H1 hM x hon h1
  by_cases h2 : x.kd = 2
  · exact validItem2_ct m H1 hM x hon h2
  exact validItem3_ct m H1 hM x hon ⟨h0, h1, h2⟩

end Go.Proofs.YtboapdcmaeojgaaGreatDoor
/- Rules. Written by program (walk2.py). -/
namespace Go.Proofs.YtboapdcmaeojgaaGreatDoor
open SL Cat
set_option linter.unusedVariables false
set_option linter.unusedSimpArgs false
theorem fo29_5 : fieldOff Tryz.prog 29 5 = some 5 := by kernel_rfl
theorem fo97_1 : fieldOff Tryz.prog 97 1 = some 1 := by kernel_rfl
theorem ent167 : Ent Tryz.prog 167 := ⟨_, _, Tryz.func167, by kernel_rfl, rfl⟩
theorem zc97 : zc Tryz.prog 97 [.int .i64 0, .int .i64 0, .int .i64 0, .int .i64 0, .int .i64 0, .bool false, .slice none 0 0] := (by kernel_rfl : ((Tryz.prog.info? 97).bind (·.zero)).map (fun v => v.cells.toList) = some [.int .i64 0, .int .i64 0, .int .i64 0, .int .i64 0, .int .i64 0, .bool false, .slice none 0 0])
theorem lay97 : layS Tryz.prog 97 = some ([.int .i64 0, .int .i64 0, .int .i64 0, .int .i64 0, .int .i64 0, .bool false, .slice none 0 0], [(0, 1), (1, 1), (2, 1), (3, 1), (4, 1), (5, 1), (6, 1)]) := by kernel_rfl
theorem fo97_3 : fieldOff Tryz.prog 97 3 = some 3 := by kernel_rfl
theorem fo97_5 : fieldOff Tryz.prog 97 5 = some 5 := by kernel_rfl
theorem fo97_4 : fieldOff Tryz.prog 97 4 = some 4 := by kernel_rfl
theorem fo97_6 : fieldOff Tryz.prog 97 6 = some 6 := by kernel_rfl
theorem fo97_2 : fieldOff Tryz.prog 97 2 = some 2 := by kernel_rfl
theorem ent181 : Ent Tryz.prog 181 := ⟨_, _, Tryz.func181, by kernel_rfl, rfl⟩
theorem ent166 : Ent Tryz.prog 166 := ⟨_, _, Tryz.func166, by kernel_rfl, rfl⟩
theorem ent168 : Ent Tryz.prog 168 := ⟨_, _, Tryz.func168, by kernel_rfl, rfl⟩
theorem ent169 : Ent Tryz.prog 169 := ⟨_, _, Tryz.func169, by kernel_rfl, rfl⟩
theorem ent170 : Ent Tryz.prog 170 := ⟨_, _, Tryz.func170, by kernel_rfl, rfl⟩
theorem ent171 : Ent Tryz.prog 171 := ⟨_, _, Tryz.func171, by kernel_rfl, rfl⟩
theorem ent172 : Ent Tryz.prog 172 := ⟨_, _, Tryz.func172, by kernel_rfl, rfl⟩
theorem ent173 : Ent Tryz.prog 173 := ⟨_, _, Tryz.func173, by kernel_rfl, rfl⟩
theorem ent174 : Ent Tryz.prog 174 := ⟨_, _, Tryz.func174, by kernel_rfl, rfl⟩
theorem ent175 : Ent Tryz.prog 175 := ⟨_, _, Tryz.func175, by kernel_rfl, rfl⟩
theorem ent176 : Ent Tryz.prog 176 := ⟨_, _, Tryz.func176, by kernel_rfl, rfl⟩
theorem ent177 : Ent Tryz.prog 177 := ⟨_, _, Tryz.func177, by kernel_rfl, rfl⟩
theorem ent178 : Ent Tryz.prog 178 := ⟨_, _, Tryz.func178, by kernel_rfl, rfl⟩
theorem ent179 : Ent Tryz.prog 179 := ⟨_, _, Tryz.func179, by kernel_rfl, rfl⟩
theorem ent180 : Ent Tryz.prog 180 := ⟨_, _, Tryz.func180, by kernel_rfl, rfl⟩
theorem lay176 : layS Tryz.prog 176 = some ([.nilFunc, .nilFunc], [(0, 1), (1, 1)]) := by kernel_rfl
set_option maxRecDepth 100000 in
set_option maxHeartbeats 400000 in
theorem item_ct (m : Md) (H1 : PH) (hM : m.In H1) (z : Int) : Ct Tryz.prog 167 [.agg [.slice m.psi m.si.length m.csi, .slice m.pfe m.fe.length m.cfe, .slice m.prk m.rk.length m.crk, .slice m.pmc m.mc.length m.cmc, .slice m.pln m.ln.length m.cln, .slice m.pis m.is.length m.cis, .int .i64 m.da, .int .i64 m.sl, .int .i64 m.re, .int .i64 m.fa, .slice m.prl m.rl.length m.crl].toArray, .int .i64 z] [H1] (fun v Hs => v = .bool (decide (InR z 1 m.is.length)) ∧ Hs = [H1]) := by
  refine Ct.body Tryz.func167 rfl Tryz.ntmps167 rfl ?_
  intro E F
  refine W.seq ?_
  refine W.region ?_
  refine RL.e (Eff.box 102 _ rfl rfl) rfl ?_
  rintro _ _ ⟨b2, rfl, rfl⟩
  refine RL.q (Yld.assign rfl) rfl ?_
  refine RL.nil ?_
  refine N.next ?_
  refine W.seq ?_
  refine W.region ?_
  refine RL.q (Yld.move rfl) rfl ?_
  refine RL.q (Yld.fieldAddr fo29_5 rfl) rfl ?_
  refine RL.q (Yld.ld 102 Tryz.underlying26 rfl rfl rfl rfl) rfl ?_
  refine RL.q (Yld.lenSl Tryz.underlying26 rfl) rfl ?_
  refine RL.e (Eff.call ent67 [] [] (.cons rfl (.cons rfl (.cons rfl .nil))) (within_ct z 1 m.is.length) rfl rfl rfl rfl (by rintro _ _ ⟨_, rfl⟩; rfl)) rfl ?_
  rintro _ _ ⟨_, ⟨rfl, rfl⟩, rfl⟩
  refine RL.q (Yld.assign rfl) rfl ?_
  refine RL.nil ?_
  refine N.next ?_
  refine W.keep (.of [4] rfl) (.of [0, 1, 102] rfl) ?_
  refine W.ret ?_
  exact N.retBy [1] (.cons (.tmp rfl) .nil) rfl rfl rfl rfl ⟨rfl, rfl⟩

set_option maxRecDepth 100000 in
set_option maxHeartbeats 400000 in
theorem rok0_ct (m : Md) (H1 : PH) (hM : m.In H1) (x : Rl) (hms : Sl H1 x.pm x.cm 1 (iz x.ms)) : Ct Tryz.prog 166 [.agg [.slice m.psi m.si.length m.csi, .slice m.pfe m.fe.length m.cfe, .slice m.prk m.rk.length m.crk, .slice m.pmc m.mc.length m.cmc, .slice m.pln m.ln.length m.cln, .slice m.pis m.is.length m.cis, .int .i64 m.da, .int .i64 m.sl, .int .i64 m.re, .int .i64 m.fa, .slice m.prl m.rl.length m.crl].toArray, .agg [.int .i64 x.kd, .int .i64 x.it, .int .i64 x.ot, .int .i64 x.n, .int .i64 x.bq, .bool x.al, .slice x.pm x.ms.length x.cm].toArray] [H1] (fun v Hs => v = .bool (decide (InR x.it 1 m.is.length) && decide (kdOf m x.it = 0)) ∧ Hs = [H1]) := by
  refine Ct.body Tryz.func166 rfl Tryz.ntmps166 rfl ?_
  intro E F
  have hMis := hM.is
  have hmi := hM.is.len_le
  simp only [List.length_map, maxLen] at hmi
  refine W.seq ?_
  refine W.region ?_
  refine RL.e (Eff.box 102 _ rfl rfl) rfl ?_
  rintro _ _ ⟨b2, rfl, rfl⟩
  refine RL.e (Eff.box 103 _ rfl rfl) rfl ?_
  rintro _ _ ⟨b3, rfl, rfl⟩
  refine RL.q (Yld.assign rfl) rfl ?_
  refine RL.nil ?_
  refine N.next ?_
  refine W.seq ?_
  refine W.region ?_
  refine RL.q (Yld.ldW 102 Tryz.underlying29 sz29 rfl rfl rfl rfl) rfl ?_
  refine RL.q (Yld.fieldAddr fo97_1 rfl) rfl ?_
  refine RL.q (Yld.ld 103 Tryz.underlying3 rfl rfl rfl rfl) rfl ?_
  refine RL.e (Eff.call ent167 [1] [1] (.cons rfl (.cons rfl .nil)) (item_ct m H1 hM x.it) rfl rfl rfl rfl (by rintro _ _ ⟨_, rfl⟩; rfl)) rfl ?_
  rintro _ _ ⟨_, ⟨rfl, rfl⟩, rfl⟩
  refine RL.q (Yld.move rfl) rfl ?_
  refine' RL.and (t := 9) (d := 19) 10 rfl (.of [0, 1, 2, 3, 4, 5, 6, 7, 8] rfl) (.of [0, 1, 102, 103] rfl) ?_ ?_ ?_
  rotate_left 1
  ·
   intro hg9
   obtain ⟨hi1, hi2⟩ := of_decide_eq_true hg9
   obtain ⟨y, hy, hky⟩ := kdOf_in ⟨hi1, hi2⟩
   have hly : (m.is.map It.c)[(x.it - 1).toNat]? = some y.c := by rw [List.getElem?_map, hy]; rfl
   refine RL.gq rfl rfl (Yld.fieldAddr fo29_5 rfl) rfl ?_
   refine RL.gq rfl rfl (Yld.ld 102 Tryz.underlying26 rfl rfl rfl rfl) rfl ?_
   refine RL.gq rfl rfl (Yld.fieldAddr fo97_1 rfl) rfl ?_
   refine RL.gq rfl rfl (Yld.ld 103 Tryz.underlying3 rfl rfl rfl rfl) rfl ?_
   refine RL.gq rfl rfl (Yld.bin rfl rfl (by first | exact BinV.sub (by omega) (by omega) | exact BinV.subW)) rfl ?_
   refine RL.gq rfl rfl (Yld.ixr Tryz.underlying26 sz64 rfl rfl) rfl ?_
   refine RL.gq rfl rfl (Yld.fieldAddr fo64_1 rfl) rfl ?_
   refine RL.gq rfl rfl (Yld.eq (v' := .int .i64 (kdOf m x.it)) (by first | exact Yld.lrF 1 1 Tryz.underlying3 rfl rfl rfl rfl | exact Yld.lrF 103 1 Tryz.underlying3 rfl rfl rfl rfl | exact Yld.lrF 102 1 Tryz.underlying3 rfl rfl rfl rfl) (by rw [hky])) rfl ?_
   refine RL.gq rfl rfl (Yld.bin rfl rfl BinV.eql) rfl ?_
   refine RL.q Yld.pk rfl ?_
   exact RL.nil (N.meet (.to rfl) (.to rfl))
  ·
   intro hg9
   refine RL.gskip rfl rfl rfl rfl ?_
   refine RL.gskip rfl rfl rfl rfl ?_
   refine RL.gskip rfl rfl rfl rfl ?_
   refine RL.gskip rfl rfl rfl rfl ?_
   refine RL.gskip rfl rfl rfl rfl ?_
   refine RL.gskip rfl rfl rfl rfl ?_
   refine RL.gskip rfl rfl rfl rfl ?_
   refine RL.gskip rfl rfl rfl rfl ?_
   refine RL.gskip rfl rfl rfl rfl ?_
   refine RL.q Yld.pk rfl ?_
   exact RL.nil (N.meet (.to rfl) (.to rfl))
  refine RL.q (Yld.assign rfl) rfl ?_
  refine RL.nil ?_
  refine N.next ?_
  refine W.keep (.of [4] rfl) (.of [0, 1, 102, 103] rfl) ?_
  refine W.ret ?_
  exact N.retBy [1] (.cons (.tmp rfl) .nil) rfl rfl rfl rfl ⟨rfl, rfl⟩

set_option maxRecDepth 100000 in
set_option maxHeartbeats 400000 in
theorem ron0_ct (x : Rl) : Ct Tryz.prog 168 [.agg [.int .i64 x.kd, .int .i64 x.it, .int .i64 x.ot, .int .i64 x.n, .int .i64 x.bq, .bool x.al, .slice x.pm x.ms.length x.cm].toArray] [] (fun v Hs => v = .agg (Rl.c ⟨0, x.it, 0, 0, 0, false, none, [], 0⟩).toArray ∧ Hs = []) := by
  refine Ct.body Tryz.func168 rfl Tryz.ntmps168 rfl ?_
  intro E F
  refine W.seq ?_
  refine W.region ?_
  refine RL.e (Eff.box 101 _ rfl rfl) rfl ?_
  rintro _ _ ⟨b1, rfl, rfl⟩
  refine RL.e (Eff.alloc 102 zc97) rfl ?_
  rintro _ _ ⟨b2, rfl, rfl⟩
  refine RL.nil ?_
  refine N.next ?_
  refine W.seq ?_
  refine W.region ?_
  refine RL.q (Yld.fieldAddr fo97_1 rfl) rfl ?_
  refine RL.q (Yld.ld 101 Tryz.underlying3 rfl rfl rfl rfl) rfl ?_
  refine RL.q (Yld.buildP lay97 (.cons rfl rfl .nil) rfl) rfl ?_
  refine RL.e0 (Eff.storeS (c := 102) _ sz97 rfl rfl rfl rfl rfl rfl rfl (by (try simp only [putAt, List.take, List.drop, List.nil_append, List.cons_append, List.append_nil, List.length_cons, List.length_nil, Nat.add_zero, Nat.zero_add, Nat.reduceAdd]); rfl)) ?_
  rintro _ _ rfl
  refine RL.nil ?_
  refine N.next ?_
  refine W.keep (.of [2] rfl) (.of [0, 101, 102] rfl) ?_
  refine W.ret ?_
  exact N.retBy [] (.cons (by first | exact .cell (c := 102) rfl rfl (fun w hs => run_loadVarA Tryz.underlying97 rfl sz97 rfl (fun j u hj => by rw [Nat.zero_add, PH.sub.cell hs (by first | exact single_self _ _ | exact pset_self _ _ _ | assumption)]; exact hj))) .nil) rfl rfl rfl rfl ⟨rfl, rfl⟩

set_option maxRecDepth 100000 in
set_option maxHeartbeats 400000 in
theorem rok1_ct (m : Md) (H1 : PH) (hM : m.In H1) (x : Rl) (hms : Sl H1 x.pm x.cm 1 (iz x.ms)) : Ct Tryz.prog 169 [.agg [.slice m.psi m.si.length m.csi, .slice m.pfe m.fe.length m.cfe, .slice m.prk m.rk.length m.crk, .slice m.pmc m.mc.length m.cmc, .slice m.pln m.ln.length m.cln, .slice m.pis m.is.length m.cis, .int .i64 m.da, .int .i64 m.sl, .int .i64 m.re, .int .i64 m.fa, .slice m.prl m.rl.length m.crl].toArray, .agg [.int .i64 x.kd, .int .i64 x.it, .int .i64 x.ot, .int .i64 x.n, .int .i64 x.bq, .bool x.al, .slice x.pm x.ms.length x.cm].toArray] [H1] (fun v Hs => v = .bool (decide (InR x.it 1 m.is.length) && decide (InR x.n 0 16)) ∧ Hs = [H1]) := by
  refine Ct.body Tryz.func169 rfl Tryz.ntmps169 rfl ?_
  intro E F
  have hMis := hM.is
  have hmi := hM.is.len_le
  simp only [List.length_map, maxLen] at hmi
  refine W.seq ?_
  refine W.region ?_
  refine RL.e (Eff.box 102 _ rfl rfl) rfl ?_
  rintro _ _ ⟨b2, rfl, rfl⟩
  refine RL.e (Eff.box 103 _ rfl rfl) rfl ?_
  rintro _ _ ⟨b3, rfl, rfl⟩
  refine RL.q (Yld.assign rfl) rfl ?_
  refine RL.nil ?_
  refine N.next ?_
  refine W.seq ?_
  refine W.region ?_
  refine RL.q (Yld.ldW 102 Tryz.underlying29 sz29 rfl rfl rfl rfl) rfl ?_
  refine RL.q (Yld.fieldAddr fo97_1 rfl) rfl ?_
  refine RL.q (Yld.ld 103 Tryz.underlying3 rfl rfl rfl rfl) rfl ?_
  refine RL.e (Eff.call ent167 [1] [1] (.cons rfl (.cons rfl .nil)) (item_ct m H1 hM x.it) rfl rfl rfl rfl (by rintro _ _ ⟨_, rfl⟩; rfl)) rfl ?_
  rintro _ _ ⟨_, ⟨rfl, rfl⟩, rfl⟩
  refine RL.q (Yld.move rfl) rfl ?_
  refine' RL.and (t := 9) (d := 13) 4 rfl (.of [0, 1, 2, 3, 4, 5, 6, 7, 8] rfl) (.of [0, 1, 102, 103] rfl) ?_ ?_ ?_
  rotate_left 1
  ·
   intro hg9
   refine RL.gq rfl rfl (Yld.fieldAddr fo97_3 rfl) rfl ?_
   refine RL.gq rfl rfl (Yld.ld 103 Tryz.underlying3 rfl rfl rfl rfl) rfl ?_
   refine RL.ge rfl rfl (Eff.call ent67 [] [] (.cons rfl (.cons rfl (.cons rfl .nil))) (within_ct x.n 0 16) rfl rfl rfl rfl (by rintro _ _ ⟨_, rfl⟩; rfl)) rfl ?_
   rintro _ _ ⟨_, ⟨rfl, rfl⟩, rfl⟩
   refine RL.q Yld.pk rfl ?_
   exact RL.nil (N.meet (.to rfl) (.to rfl))
  ·
   intro hg9
   refine RL.gskip rfl rfl rfl rfl ?_
   refine RL.gskip rfl rfl rfl rfl ?_
   refine RL.gskip rfl rfl rfl rfl ?_
   refine RL.q Yld.pk rfl ?_
   exact RL.nil (N.meet (.to rfl) (.to rfl))
  refine RL.q (Yld.assign rfl) rfl ?_
  refine RL.nil ?_
  refine N.next ?_
  refine W.keep (.of [4] rfl) (.of [0, 1, 102, 103] rfl) ?_
  refine W.ret ?_
  exact N.retBy [1] (.cons (.tmp rfl) .nil) rfl rfl rfl rfl ⟨rfl, rfl⟩

set_option maxRecDepth 100000 in
set_option maxHeartbeats 400000 in
theorem ron1_ct (x : Rl) : Ct Tryz.prog 170 [.agg [.int .i64 x.kd, .int .i64 x.it, .int .i64 x.ot, .int .i64 x.n, .int .i64 x.bq, .bool x.al, .slice x.pm x.ms.length x.cm].toArray] [] (fun v Hs => v = .agg (Rl.c ⟨0, x.it, 0, x.n, 0, x.al, none, [], 0⟩).toArray ∧ Hs = []) := by
  refine Ct.body Tryz.func170 rfl Tryz.ntmps170 rfl ?_
  intro E F
  refine W.seq ?_
  refine W.region ?_
  refine RL.e (Eff.box 101 _ rfl rfl) rfl ?_
  rintro _ _ ⟨b1, rfl, rfl⟩
  refine RL.e (Eff.alloc 102 zc97) rfl ?_
  rintro _ _ ⟨b2, rfl, rfl⟩
  refine RL.nil ?_
  refine N.next ?_
  refine W.seq ?_
  refine W.region ?_
  refine RL.q (Yld.fieldAddr fo97_1 rfl) rfl ?_
  refine RL.q (Yld.ld 101 Tryz.underlying3 rfl rfl rfl rfl) rfl ?_
  refine RL.q (Yld.fieldAddr fo97_3 rfl) rfl ?_
  refine RL.q (Yld.ld 101 Tryz.underlying3 rfl rfl rfl rfl) rfl ?_
  refine RL.q (Yld.fieldAddr fo97_5 rfl) rfl ?_
  refine RL.q (Yld.ld 101 Tryz.underlying4 rfl rfl rfl rfl) rfl ?_
  refine RL.q (Yld.buildP lay97 (.cons rfl rfl (.cons rfl rfl (.cons rfl rfl .nil))) rfl) rfl ?_
  refine RL.e0 (Eff.storeS (c := 102) _ sz97 rfl rfl rfl rfl rfl rfl rfl (by (try simp only [putAt, List.take, List.drop, List.nil_append, List.cons_append, List.append_nil, List.length_cons, List.length_nil, Nat.add_zero, Nat.zero_add, Nat.reduceAdd]); rfl)) ?_
  rintro _ _ rfl
  refine RL.nil ?_
  refine N.next ?_
  refine W.keep (.of [2] rfl) (.of [0, 101, 102] rfl) ?_
  refine W.ret ?_
  exact N.retBy [] (.cons (by first | exact .cell (c := 102) rfl rfl (fun w hs => run_loadVarA Tryz.underlying97 rfl sz97 rfl (fun j u hj => by rw [Nat.zero_add, PH.sub.cell hs (by first | exact single_self _ _ | exact pset_self _ _ _ | assumption)]; exact hj))) .nil) rfl rfl rfl rfl ⟨rfl, rfl⟩

set_option maxRecDepth 100000 in
set_option maxHeartbeats 400000 in
theorem rok2_ct (m : Md) (H1 : PH) (hM : m.In H1) (x : Rl) (hms : Sl H1 x.pm x.cm 1 (iz x.ms)) : Ct Tryz.prog 171 [.agg [.slice m.psi m.si.length m.csi, .slice m.pfe m.fe.length m.cfe, .slice m.prk m.rk.length m.crk, .slice m.pmc m.mc.length m.cmc, .slice m.pln m.ln.length m.cln, .slice m.pis m.is.length m.cis, .int .i64 m.da, .int .i64 m.sl, .int .i64 m.re, .int .i64 m.fa, .slice m.prl m.rl.length m.crl].toArray, .agg [.int .i64 x.kd, .int .i64 x.it, .int .i64 x.ot, .int .i64 x.n, .int .i64 x.bq, .bool x.al, .slice x.pm x.ms.length x.cm].toArray] [H1] (fun v Hs => v = .bool (decide (InR x.it 1 m.is.length) && decide (InR x.n 0 16) && decide (x.bq ∈ [(2 : Int), 3, 4])) ∧ Hs = [H1]) := by
  refine Ct.body Tryz.func171 rfl Tryz.ntmps171 rfl ?_
  intro E F
  have hMis := hM.is
  have hmi := hM.is.len_le
  simp only [List.length_map, maxLen] at hmi
  refine W.seq ?_
  refine W.region ?_
  refine RL.e (Eff.box 102 _ rfl rfl) rfl ?_
  rintro _ _ ⟨b2, rfl, rfl⟩
  refine RL.e (Eff.box 103 _ rfl rfl) rfl ?_
  rintro _ _ ⟨b3, rfl, rfl⟩
  refine RL.q (Yld.assign rfl) rfl ?_
  refine RL.nil ?_
  refine N.next ?_
  refine W.seq ?_
  refine W.region ?_
  refine RL.q (Yld.ldW 102 Tryz.underlying29 sz29 rfl rfl rfl rfl) rfl ?_
  refine RL.q (Yld.fieldAddr fo97_1 rfl) rfl ?_
  refine RL.q (Yld.ld 103 Tryz.underlying3 rfl rfl rfl rfl) rfl ?_
  refine RL.e (Eff.call ent167 [1] [1] (.cons rfl (.cons rfl .nil)) (item_ct m H1 hM x.it) rfl rfl rfl rfl (by rintro _ _ ⟨_, rfl⟩; rfl)) rfl ?_
  rintro _ _ ⟨_, ⟨rfl, rfl⟩, rfl⟩
  refine RL.q (Yld.move rfl) rfl ?_
  refine' RL.and (t := 9) (d := 13) 4 rfl (.of [0, 1, 2, 3, 4, 5, 6, 7, 8] rfl) (.of [0, 1, 102, 103] rfl) ?_ ?_ ?_
  rotate_left 1
  ·
   intro hg9
   refine RL.gq rfl rfl (Yld.fieldAddr fo97_3 rfl) rfl ?_
   refine RL.gq rfl rfl (Yld.ld 103 Tryz.underlying3 rfl rfl rfl rfl) rfl ?_
   refine RL.ge rfl rfl (Eff.call ent67 [] [] (.cons rfl (.cons rfl (.cons rfl .nil))) (within_ct x.n 0 16) rfl rfl rfl rfl (by rintro _ _ ⟨_, rfl⟩; rfl)) rfl ?_
   rintro _ _ ⟨_, ⟨rfl, rfl⟩, rfl⟩
   refine RL.q Yld.pk rfl ?_
   exact RL.nil (N.meet (.to rfl) (.to rfl))
  ·
   intro hg9
   refine RL.gskip rfl rfl rfl rfl ?_
   refine RL.gskip rfl rfl rfl rfl ?_
   refine RL.gskip rfl rfl rfl rfl ?_
   refine RL.q Yld.pk rfl ?_
   exact RL.nil (N.meet (.to rfl) (.to rfl))
  refine RL.q (Yld.move rfl) rfl ?_
  refine' RL.and (t := 14) (d := 19) 5 rfl (.of [0, 1, 2, 3, 4, 5, 6, 7, 8, 13] rfl) (.of [0, 1, 102, 103] rfl) ?_ ?_ ?_
  rotate_left 1
  ·
   intro hg14
   refine RL.ge rfl rfl (Eff.buildSlice 115 Tryz.underlying55 sz3 zc3 rfl rfl (.cons rfl rfl (.cons rfl rfl (.cons rfl rfl .nil))) rfl) rfl ?_
   rintro _ _ ⟨b15, rfl, rfl⟩
   refine RL.gq rfl rfl (Yld.fieldAddr fo97_4 rfl) rfl ?_
   refine RL.gq rfl rfl (Yld.ld 103 Tryz.underlying3 rfl rfl rfl rfl) rfl ?_
   refine RL.ge rfl rfl (Eff.call ent35 [115] [115] (.cons rfl (.cons rfl .nil)) (contains_ct [2, 3, 4] _ _ _ (Own.mk (e := 3) (n := 1) (c := 3) [] (by simp [iz, Value.oneCell']) (by simp) (by simp [maxLen]) (by rfl) (by rfl)).sl x.bq) rfl rfl rfl rfl (by rintro _ _ ⟨_, rfl⟩; rfl)) rfl ?_
   rintro _ _ ⟨_, ⟨rfl, rfl⟩, rfl⟩
   refine RL.q Yld.pk rfl ?_
   exact RL.nil (N.meet (.to rfl) (.to rfl))
  ·
   intro hg14
   refine RL.gskip rfl rfl rfl rfl ?_
   refine RL.gskip rfl rfl rfl rfl ?_
   refine RL.gskip rfl rfl rfl rfl ?_
   refine RL.gskip rfl rfl rfl rfl ?_
   refine RL.q Yld.pk rfl ?_
   exact RL.nil (N.meet (.to rfl) (.to rfl))
  refine RL.q (Yld.assign rfl) rfl ?_
  refine RL.nil ?_
  refine N.next ?_
  refine W.keep (.of [4] rfl) (.of [0, 1, 102, 103] rfl) ?_
  refine W.ret ?_
  exact N.retBy [1] (.cons (.tmp rfl) .nil) rfl rfl rfl rfl ⟨rfl, rfl⟩

set_option maxRecDepth 100000 in
set_option maxHeartbeats 400000 in
theorem ron2_ct (x : Rl) : Ct Tryz.prog 172 [.agg [.int .i64 x.kd, .int .i64 x.it, .int .i64 x.ot, .int .i64 x.n, .int .i64 x.bq, .bool x.al, .slice x.pm x.ms.length x.cm].toArray] [] (fun v Hs => v = .agg (Rl.c ⟨0, x.it, 0, x.n, x.bq, false, none, [], 0⟩).toArray ∧ Hs = []) := by
  refine Ct.body Tryz.func172 rfl Tryz.ntmps172 rfl ?_
  intro E F
  refine W.seq ?_
  refine W.region ?_
  refine RL.e (Eff.box 101 _ rfl rfl) rfl ?_
  rintro _ _ ⟨b1, rfl, rfl⟩
  refine RL.e (Eff.alloc 102 zc97) rfl ?_
  rintro _ _ ⟨b2, rfl, rfl⟩
  refine RL.nil ?_
  refine N.next ?_
  refine W.seq ?_
  refine W.region ?_
  refine RL.q (Yld.fieldAddr fo97_1 rfl) rfl ?_
  refine RL.q (Yld.ld 101 Tryz.underlying3 rfl rfl rfl rfl) rfl ?_
  refine RL.q (Yld.fieldAddr fo97_3 rfl) rfl ?_
  refine RL.q (Yld.ld 101 Tryz.underlying3 rfl rfl rfl rfl) rfl ?_
  refine RL.q (Yld.fieldAddr fo97_4 rfl) rfl ?_
  refine RL.q (Yld.ld 101 Tryz.underlying3 rfl rfl rfl rfl) rfl ?_
  refine RL.q (Yld.buildP lay97 (.cons rfl rfl (.cons rfl rfl (.cons rfl rfl .nil))) rfl) rfl ?_
  refine RL.e0 (Eff.storeS (c := 102) _ sz97 rfl rfl rfl rfl rfl rfl rfl (by (try simp only [putAt, List.take, List.drop, List.nil_append, List.cons_append, List.append_nil, List.length_cons, List.length_nil, Nat.add_zero, Nat.zero_add, Nat.reduceAdd]); rfl)) ?_
  rintro _ _ rfl
  refine RL.nil ?_
  refine N.next ?_
  refine W.keep (.of [2] rfl) (.of [0, 101, 102] rfl) ?_
  refine W.ret ?_
  exact N.retBy [] (.cons (by first | exact .cell (c := 102) rfl rfl (fun w hs => run_loadVarA Tryz.underlying97 rfl sz97 rfl (fun j u hj => by rw [Nat.zero_add, PH.sub.cell hs (by first | exact single_self _ _ | exact pset_self _ _ _ | assumption)]; exact hj))) .nil) rfl rfl rfl rfl ⟨rfl, rfl⟩

set_option maxRecDepth 100000 in
set_option maxHeartbeats 400000 in
theorem rok3_ct (m : Md) (H1 : PH) (hM : m.In H1) (x : Rl) (hms : Sl H1 x.pm x.cm 1 (iz x.ms)) : Ct Tryz.prog 173 [.agg [.slice m.psi m.si.length m.csi, .slice m.pfe m.fe.length m.cfe, .slice m.prk m.rk.length m.crk, .slice m.pmc m.mc.length m.cmc, .slice m.pln m.ln.length m.cln, .slice m.pis m.is.length m.cis, .int .i64 m.da, .int .i64 m.sl, .int .i64 m.re, .int .i64 m.fa, .slice m.prl m.rl.length m.crl].toArray, .agg [.int .i64 x.kd, .int .i64 x.it, .int .i64 x.ot, .int .i64 x.n, .int .i64 x.bq, .bool x.al, .slice x.pm x.ms.length x.cm].toArray] [H1] (fun v Hs => v = .bool (decide (InR x.it 1 m.is.length) && pB (MsV m.mc.length x.ms)) ∧ Hs = [H1]) := by
  refine Ct.body Tryz.func173 rfl Tryz.ntmps173 rfl ?_
  intro E F
  have hMis := hM.is
  have hmi := hM.is.len_le
  simp only [List.length_map, maxLen] at hmi
  refine W.seq ?_
  refine W.region ?_
  refine RL.e (Eff.box 102 _ rfl rfl) rfl ?_
  rintro _ _ ⟨b2, rfl, rfl⟩
  refine RL.e (Eff.box 103 _ rfl rfl) rfl ?_
  rintro _ _ ⟨b3, rfl, rfl⟩
  refine RL.q (Yld.assign rfl) rfl ?_
  refine RL.nil ?_
  refine N.next ?_
  refine W.seq ?_
  refine W.region ?_
  refine RL.q (Yld.ldW 102 Tryz.underlying29 sz29 rfl rfl rfl rfl) rfl ?_
  refine RL.q (Yld.fieldAddr fo97_1 rfl) rfl ?_
  refine RL.q (Yld.ld 103 Tryz.underlying3 rfl rfl rfl rfl) rfl ?_
  refine RL.e (Eff.call ent167 [1] [1] (.cons rfl (.cons rfl .nil)) (item_ct m H1 hM x.it) rfl rfl rfl rfl (by rintro _ _ ⟨_, rfl⟩; rfl)) rfl ?_
  rintro _ _ ⟨_, ⟨rfl, rfl⟩, rfl⟩
  refine RL.q (Yld.move rfl) rfl ?_
  refine' RL.and (t := 9) (d := 14) 5 rfl (.of [0, 1, 2, 3, 4, 5, 6, 7, 8] rfl) (.of [0, 1, 102, 103] rfl) ?_ ?_ ?_
  rotate_left 1
  ·
   intro hg9
   refine RL.gq rfl rfl (Yld.ldW 102 Tryz.underlying29 sz29 rfl rfl rfl rfl) rfl ?_
   refine RL.gq rfl rfl (Yld.fieldAddr fo97_6 rfl) rfl ?_
   refine RL.gq rfl rfl (Yld.ld 103 Tryz.underlying55 rfl rfl rfl rfl) rfl ?_
   refine RL.ge rfl rfl (Eff.call ent127 [1] [1] (.cons rfl (.cons rfl .nil)) (machines_ct m H1 hM x.ms _ _ hms) rfl rfl rfl rfl (by rintro _ _ ⟨_, rfl⟩; rfl)) rfl ?_
   rintro _ _ ⟨_, ⟨rfl, rfl⟩, rfl⟩
   refine RL.q Yld.pk rfl ?_
   exact RL.nil (N.meet (.to rfl) (.to rfl))
  ·
   intro hg9
   refine RL.gskip rfl rfl rfl rfl ?_
   refine RL.gskip rfl rfl rfl rfl ?_
   refine RL.gskip rfl rfl rfl rfl ?_
   refine RL.gskip rfl rfl rfl rfl ?_
   refine RL.q Yld.pk rfl ?_
   exact RL.nil (N.meet (.to rfl) (.to rfl))
  refine RL.q (Yld.assign rfl) rfl ?_
  refine RL.nil ?_
  refine N.next ?_
  refine W.keep (.of [4] rfl) (.of [0, 1, 102, 103] rfl) ?_
  refine W.ret ?_
  exact N.retBy [1] (.cons (.tmp rfl) .nil) rfl rfl rfl rfl ⟨rfl, rfl⟩

set_option maxRecDepth 100000 in
set_option maxHeartbeats 400000 in
theorem ron3_ct (x : Rl) : Ct Tryz.prog 174 [.agg [.int .i64 x.kd, .int .i64 x.it, .int .i64 x.ot, .int .i64 x.n, .int .i64 x.bq, .bool x.al, .slice x.pm x.ms.length x.cm].toArray] [] (fun v Hs => v = .agg (Rl.c ⟨0, x.it, 0, 0, 0, false, x.pm, x.ms, x.cm⟩).toArray ∧ Hs = []) := by
  refine Ct.body Tryz.func174 rfl Tryz.ntmps174 rfl ?_
  intro E F
  refine W.seq ?_
  refine W.region ?_
  refine RL.e (Eff.box 101 _ rfl rfl) rfl ?_
  rintro _ _ ⟨b1, rfl, rfl⟩
  refine RL.e (Eff.alloc 102 zc97) rfl ?_
  rintro _ _ ⟨b2, rfl, rfl⟩
  refine RL.nil ?_
  refine N.next ?_
  refine W.seq ?_
  refine W.region ?_
  refine RL.q (Yld.fieldAddr fo97_1 rfl) rfl ?_
  refine RL.q (Yld.ld 101 Tryz.underlying3 rfl rfl rfl rfl) rfl ?_
  refine RL.q (Yld.fieldAddr fo97_6 rfl) rfl ?_
  refine RL.q (Yld.ld 101 Tryz.underlying55 rfl rfl rfl rfl) rfl ?_
  refine RL.q (Yld.buildP lay97 (.cons rfl rfl (.cons rfl rfl .nil)) rfl) rfl ?_
  refine RL.e0 (Eff.storeS (c := 102) _ sz97 rfl rfl rfl rfl rfl rfl rfl (by (try simp only [putAt, List.take, List.drop, List.nil_append, List.cons_append, List.append_nil, List.length_cons, List.length_nil, Nat.add_zero, Nat.zero_add, Nat.reduceAdd]); rfl)) ?_
  rintro _ _ rfl
  refine RL.nil ?_
  refine N.next ?_
  refine W.keep (.of [2] rfl) (.of [0, 101, 102] rfl) ?_
  refine W.ret ?_
  exact N.retBy [] (.cons (by first | exact .cell (c := 102) rfl rfl (fun w hs => run_loadVarA Tryz.underlying97 rfl sz97 rfl (fun j u hj => by rw [Nat.zero_add, PH.sub.cell hs (by first | exact single_self _ _ | exact pset_self _ _ _ | assumption)]; exact hj))) .nil) rfl rfl rfl rfl ⟨rfl, rfl⟩

set_option maxRecDepth 100000 in
set_option maxHeartbeats 400000 in
theorem rok4_ct (m : Md) (H1 : PH) (hM : m.In H1) (x : Rl) (hms : Sl H1 x.pm x.cm 1 (iz x.ms)) : Ct Tryz.prog 175 [.agg [.slice m.psi m.si.length m.csi, .slice m.pfe m.fe.length m.cfe, .slice m.prk m.rk.length m.crk, .slice m.pmc m.mc.length m.cmc, .slice m.pln m.ln.length m.cln, .slice m.pis m.is.length m.cis, .int .i64 m.da, .int .i64 m.sl, .int .i64 m.re, .int .i64 m.fa, .slice m.prl m.rl.length m.crl].toArray, .agg [.int .i64 x.kd, .int .i64 x.it, .int .i64 x.ot, .int .i64 x.n, .int .i64 x.bq, .bool x.al, .slice x.pm x.ms.length x.cm].toArray] [H1] (fun v Hs => v = .bool (decide (InR x.it 1 m.is.length) && decide (InR x.ot 1 m.is.length) && decide (x.it ≠ x.ot)) ∧ Hs = [H1]) := by
  refine Ct.body Tryz.func175 rfl Tryz.ntmps175 rfl ?_
  intro E F
  have hMis := hM.is
  have hmi := hM.is.len_le
  simp only [List.length_map, maxLen] at hmi
  refine W.seq ?_
  refine W.region ?_
  refine RL.e (Eff.box 102 _ rfl rfl) rfl ?_
  rintro _ _ ⟨b2, rfl, rfl⟩
  refine RL.e (Eff.box 103 _ rfl rfl) rfl ?_
  rintro _ _ ⟨b3, rfl, rfl⟩
  refine RL.q (Yld.assign rfl) rfl ?_
  refine RL.nil ?_
  refine N.next ?_
  refine W.seq ?_
  refine W.region ?_
  refine RL.q (Yld.ldW 102 Tryz.underlying29 sz29 rfl rfl rfl rfl) rfl ?_
  refine RL.q (Yld.fieldAddr fo97_1 rfl) rfl ?_
  refine RL.q (Yld.ld 103 Tryz.underlying3 rfl rfl rfl rfl) rfl ?_
  refine RL.e (Eff.call ent167 [1] [1] (.cons rfl (.cons rfl .nil)) (item_ct m H1 hM x.it) rfl rfl rfl rfl (by rintro _ _ ⟨_, rfl⟩; rfl)) rfl ?_
  rintro _ _ ⟨_, ⟨rfl, rfl⟩, rfl⟩
  refine RL.q (Yld.move rfl) rfl ?_
  refine' RL.and (t := 9) (d := 14) 5 rfl (.of [0, 1, 2, 3, 4, 5, 6, 7, 8] rfl) (.of [0, 1, 102, 103] rfl) ?_ ?_ ?_
  rotate_left 1
  ·
   intro hg9
   refine RL.gq rfl rfl (Yld.ldW 102 Tryz.underlying29 sz29 rfl rfl rfl rfl) rfl ?_
   refine RL.gq rfl rfl (Yld.fieldAddr fo97_2 rfl) rfl ?_
   refine RL.gq rfl rfl (Yld.ld 103 Tryz.underlying3 rfl rfl rfl rfl) rfl ?_
   refine RL.ge rfl rfl (Eff.call ent167 [1] [1] (.cons rfl (.cons rfl .nil)) (item_ct m H1 hM x.ot) rfl rfl rfl rfl (by rintro _ _ ⟨_, rfl⟩; rfl)) rfl ?_
   rintro _ _ ⟨_, ⟨rfl, rfl⟩, rfl⟩
   refine RL.q Yld.pk rfl ?_
   exact RL.nil (N.meet (.to rfl) (.to rfl))
  ·
   intro hg9
   refine RL.gskip rfl rfl rfl rfl ?_
   refine RL.gskip rfl rfl rfl rfl ?_
   refine RL.gskip rfl rfl rfl rfl ?_
   refine RL.gskip rfl rfl rfl rfl ?_
   refine RL.q Yld.pk rfl ?_
   exact RL.nil (N.meet (.to rfl) (.to rfl))
  refine RL.q (Yld.move rfl) rfl ?_
  refine' RL.and (t := 15) (d := 21) 6 rfl (.of [0, 1, 2, 3, 4, 5, 6, 7, 8, 14] rfl) (.of [0, 1, 102, 103] rfl) ?_ ?_ ?_
  rotate_left 1
  ·
   intro hg15
   refine RL.gq rfl rfl (Yld.fieldAddr fo97_1 rfl) rfl ?_
   refine RL.gq rfl rfl (Yld.ld 103 Tryz.underlying3 rfl rfl rfl rfl) rfl ?_
   refine RL.gq rfl rfl (Yld.fieldAddr fo97_2 rfl) rfl ?_
   refine RL.gq rfl rfl (Yld.ld 103 Tryz.underlying3 rfl rfl rfl rfl) rfl ?_
   refine RL.gq rfl rfl (Yld.bin rfl rfl BinV.neq) rfl ?_
   refine RL.q Yld.pk rfl ?_
   exact RL.nil (N.meet (.to rfl) (.to rfl))
  ·
   intro hg15
   refine RL.gskip rfl rfl rfl rfl ?_
   refine RL.gskip rfl rfl rfl rfl ?_
   refine RL.gskip rfl rfl rfl rfl ?_
   refine RL.gskip rfl rfl rfl rfl ?_
   refine RL.gskip rfl rfl rfl rfl ?_
   refine RL.q Yld.pk rfl ?_
   exact RL.nil (N.meet (.to rfl) (.to rfl))
  refine RL.q (Yld.assign rfl) rfl ?_
  refine RL.nil ?_
  refine N.next ?_
  refine W.keep (.of [4] rfl) (.of [0, 1, 102, 103] rfl) ?_
  refine W.ret ?_
  exact N.retBy [1] (.cons (.tmp rfl) .nil) rfl rfl rfl rfl ⟨rfl, rfl⟩

set_option maxRecDepth 100000 in
set_option maxHeartbeats 400000 in
theorem ron4_ct (x : Rl) : Ct Tryz.prog 176 [.agg [.int .i64 x.kd, .int .i64 x.it, .int .i64 x.ot, .int .i64 x.n, .int .i64 x.bq, .bool x.al, .slice x.pm x.ms.length x.cm].toArray] [] (fun v Hs => v = .agg (Rl.c ⟨0, x.it, x.ot, 0, 0, false, none, [], 0⟩).toArray ∧ Hs = []) := by
  refine Ct.body Tryz.func176 rfl Tryz.ntmps176 rfl ?_
  intro E F
  refine W.seq ?_
  refine W.region ?_
  refine RL.e (Eff.box 101 _ rfl rfl) rfl ?_
  rintro _ _ ⟨b1, rfl, rfl⟩
  refine RL.e (Eff.alloc 102 zc97) rfl ?_
  rintro _ _ ⟨b2, rfl, rfl⟩
  refine RL.nil ?_
  refine N.next ?_
  refine W.seq ?_
  refine W.region ?_
  refine RL.q (Yld.fieldAddr fo97_1 rfl) rfl ?_
  refine RL.q (Yld.ld 101 Tryz.underlying3 rfl rfl rfl rfl) rfl ?_
  refine RL.q (Yld.fieldAddr fo97_2 rfl) rfl ?_
  refine RL.q (Yld.ld 101 Tryz.underlying3 rfl rfl rfl rfl) rfl ?_
  refine RL.q (Yld.buildP lay97 (.cons rfl rfl (.cons rfl rfl .nil)) rfl) rfl ?_
  refine RL.e0 (Eff.storeS (c := 102) _ sz97 rfl rfl rfl rfl rfl rfl rfl (by (try simp only [putAt, List.take, List.drop, List.nil_append, List.cons_append, List.append_nil, List.length_cons, List.length_nil, Nat.add_zero, Nat.zero_add, Nat.reduceAdd]); rfl)) ?_
  rintro _ _ rfl
  refine RL.nil ?_
  refine N.next ?_
  refine W.keep (.of [2] rfl) (.of [0, 101, 102] rfl) ?_
  refine W.ret ?_
  exact N.retBy [] (.cons (by first | exact .cell (c := 102) rfl rfl (fun w hs => run_loadVarA Tryz.underlying97 rfl sz97 rfl (fun j u hj => by rw [Nat.zero_add, PH.sub.cell hs (by first | exact single_self _ _ | exact pset_self _ _ _ | assumption)]; exact hj))) .nil) rfl rfl rfl rfl ⟨rfl, rfl⟩

set_option maxRecDepth 100000 in
set_option maxHeartbeats 400000 in
theorem rok5_ct (m : Md) (H1 : PH) (hM : m.In H1) (x : Rl) (hms : Sl H1 x.pm x.cm 1 (iz x.ms)) : Ct Tryz.prog 177 [.agg [.slice m.psi m.si.length m.csi, .slice m.pfe m.fe.length m.cfe, .slice m.prk m.rk.length m.crk, .slice m.pmc m.mc.length m.cmc, .slice m.pln m.ln.length m.cln, .slice m.pis m.is.length m.cis, .int .i64 m.da, .int .i64 m.sl, .int .i64 m.re, .int .i64 m.fa, .slice m.prl m.rl.length m.crl].toArray, .agg [.int .i64 x.kd, .int .i64 x.it, .int .i64 x.ot, .int .i64 x.n, .int .i64 x.bq, .bool x.al, .slice x.pm x.ms.length x.cm].toArray] [H1] (fun v Hs => v = .bool (decide (InR x.n 0 200)) ∧ Hs = [H1]) := by
  refine Ct.body Tryz.func177 rfl Tryz.ntmps177 rfl ?_
  intro E F
  have hMis := hM.is
  have hmi := hM.is.len_le
  simp only [List.length_map, maxLen] at hmi
  refine W.seq ?_
  refine W.region ?_
  refine RL.e (Eff.box 102 _ rfl rfl) rfl ?_
  rintro _ _ ⟨b2, rfl, rfl⟩
  refine RL.e (Eff.box 103 _ rfl rfl) rfl ?_
  rintro _ _ ⟨b3, rfl, rfl⟩
  refine RL.q (Yld.assign rfl) rfl ?_
  refine RL.nil ?_
  refine N.next ?_
  refine W.keep (.of [3] rfl) (.of [0, 1, 102, 103] rfl) ?_
  refine W.seq ?_
  refine W.region ?_
  refine RL.q (Yld.fieldAddr fo97_3 rfl) rfl ?_
  refine RL.q (Yld.ld 103 Tryz.underlying3 rfl rfl rfl rfl) rfl ?_
  refine RL.e (Eff.call ent67 [] [] (.cons rfl (.cons rfl (.cons rfl .nil))) (within_ct x.n 0 200) rfl rfl rfl rfl (by rintro _ _ ⟨_, rfl⟩; rfl)) rfl ?_
  rintro _ _ ⟨_, ⟨rfl, rfl⟩, rfl⟩
  refine RL.q (Yld.assign rfl) rfl ?_
  refine RL.nil ?_
  refine N.next ?_
  refine W.keep (.of [4] rfl) (.of [0, 1, 102, 103] rfl) ?_
  refine W.ret ?_
  exact N.retBy [1] (.cons (.tmp rfl) .nil) rfl rfl rfl rfl ⟨rfl, rfl⟩

set_option maxRecDepth 100000 in
set_option maxHeartbeats 400000 in
theorem ron5_ct (x : Rl) : Ct Tryz.prog 178 [.agg [.int .i64 x.kd, .int .i64 x.it, .int .i64 x.ot, .int .i64 x.n, .int .i64 x.bq, .bool x.al, .slice x.pm x.ms.length x.cm].toArray] [] (fun v Hs => v = .agg (Rl.c ⟨0, 0, 0, x.n, 0, false, none, [], 0⟩).toArray ∧ Hs = []) := by
  refine Ct.body Tryz.func178 rfl Tryz.ntmps178 rfl ?_
  intro E F
  refine W.seq ?_
  refine W.region ?_
  refine RL.e (Eff.box 101 _ rfl rfl) rfl ?_
  rintro _ _ ⟨b1, rfl, rfl⟩
  refine RL.e (Eff.alloc 102 zc97) rfl ?_
  rintro _ _ ⟨b2, rfl, rfl⟩
  refine RL.nil ?_
  refine N.next ?_
  refine W.seq ?_
  refine W.region ?_
  refine RL.q (Yld.fieldAddr fo97_3 rfl) rfl ?_
  refine RL.q (Yld.ld 101 Tryz.underlying3 rfl rfl rfl rfl) rfl ?_
  refine RL.q (Yld.buildP lay97 (.cons rfl rfl .nil) rfl) rfl ?_
  refine RL.e0 (Eff.storeS (c := 102) _ sz97 rfl rfl rfl rfl rfl rfl rfl (by (try simp only [putAt, List.take, List.drop, List.nil_append, List.cons_append, List.append_nil, List.length_cons, List.length_nil, Nat.add_zero, Nat.zero_add, Nat.reduceAdd]); rfl)) ?_
  rintro _ _ rfl
  refine RL.nil ?_
  refine N.next ?_
  refine W.keep (.of [2] rfl) (.of [0, 101, 102] rfl) ?_
  refine W.ret ?_
  exact N.retBy [] (.cons (by first | exact .cell (c := 102) rfl rfl (fun w hs => run_loadVarA Tryz.underlying97 rfl sz97 rfl (fun j u hj => by rw [Nat.zero_add, PH.sub.cell hs (by first | exact single_self _ _ | exact pset_self _ _ _ | assumption)]; exact hj))) .nil) rfl rfl rfl rfl ⟨rfl, rfl⟩

set_option maxRecDepth 100000 in
set_option maxHeartbeats 400000 in
theorem rok6_ct (m : Md) (H1 : PH) (hM : m.In H1) (x : Rl) (hms : Sl H1 x.pm x.cm 1 (iz x.ms)) : Ct Tryz.prog 179 [.agg [.slice m.psi m.si.length m.csi, .slice m.pfe m.fe.length m.cfe, .slice m.prk m.rk.length m.crk, .slice m.pmc m.mc.length m.cmc, .slice m.pln m.ln.length m.cln, .slice m.pis m.is.length m.cis, .int .i64 m.da, .int .i64 m.sl, .int .i64 m.re, .int .i64 m.fa, .slice m.prl m.rl.length m.crl].toArray, .agg [.int .i64 x.kd, .int .i64 x.it, .int .i64 x.ot, .int .i64 x.n, .int .i64 x.bq, .bool x.al, .slice x.pm x.ms.length x.cm].toArray] [H1] (fun v Hs => v = .bool (decide (InR x.it 1 m.is.length) && decide (InR x.n 0 16)) ∧ Hs = [H1]) := by
  refine Ct.body Tryz.func179 rfl Tryz.ntmps179 rfl ?_
  intro E F
  have hMis := hM.is
  have hmi := hM.is.len_le
  simp only [List.length_map, maxLen] at hmi
  refine W.seq ?_
  refine W.region ?_
  refine RL.e (Eff.box 102 _ rfl rfl) rfl ?_
  rintro _ _ ⟨b2, rfl, rfl⟩
  refine RL.e (Eff.box 103 _ rfl rfl) rfl ?_
  rintro _ _ ⟨b3, rfl, rfl⟩
  refine RL.q (Yld.assign rfl) rfl ?_
  refine RL.nil ?_
  refine N.next ?_
  refine W.seq ?_
  refine W.region ?_
  refine RL.q (Yld.ldW 102 Tryz.underlying29 sz29 rfl rfl rfl rfl) rfl ?_
  refine RL.q (Yld.fieldAddr fo97_1 rfl) rfl ?_
  refine RL.q (Yld.ld 103 Tryz.underlying3 rfl rfl rfl rfl) rfl ?_
  refine RL.e (Eff.call ent167 [1] [1] (.cons rfl (.cons rfl .nil)) (item_ct m H1 hM x.it) rfl rfl rfl rfl (by rintro _ _ ⟨_, rfl⟩; rfl)) rfl ?_
  rintro _ _ ⟨_, ⟨rfl, rfl⟩, rfl⟩
  refine RL.q (Yld.move rfl) rfl ?_
  refine' RL.and (t := 9) (d := 13) 4 rfl (.of [0, 1, 2, 3, 4, 5, 6, 7, 8] rfl) (.of [0, 1, 102, 103] rfl) ?_ ?_ ?_
  rotate_left 1
  ·
   intro hg9
   refine RL.gq rfl rfl (Yld.fieldAddr fo97_3 rfl) rfl ?_
   refine RL.gq rfl rfl (Yld.ld 103 Tryz.underlying3 rfl rfl rfl rfl) rfl ?_
   refine RL.ge rfl rfl (Eff.call ent67 [] [] (.cons rfl (.cons rfl (.cons rfl .nil))) (within_ct x.n 0 16) rfl rfl rfl rfl (by rintro _ _ ⟨_, rfl⟩; rfl)) rfl ?_
   rintro _ _ ⟨_, ⟨rfl, rfl⟩, rfl⟩
   refine RL.q Yld.pk rfl ?_
   exact RL.nil (N.meet (.to rfl) (.to rfl))
  ·
   intro hg9
   refine RL.gskip rfl rfl rfl rfl ?_
   refine RL.gskip rfl rfl rfl rfl ?_
   refine RL.gskip rfl rfl rfl rfl ?_
   refine RL.q Yld.pk rfl ?_
   exact RL.nil (N.meet (.to rfl) (.to rfl))
  refine RL.q (Yld.assign rfl) rfl ?_
  refine RL.nil ?_
  refine N.next ?_
  refine W.keep (.of [4] rfl) (.of [0, 1, 102, 103] rfl) ?_
  refine W.ret ?_
  exact N.retBy [1] (.cons (.tmp rfl) .nil) rfl rfl rfl rfl ⟨rfl, rfl⟩

set_option maxRecDepth 100000 in
set_option maxHeartbeats 400000 in
theorem ron6_ct (x : Rl) : Ct Tryz.prog 180 [.agg [.int .i64 x.kd, .int .i64 x.it, .int .i64 x.ot, .int .i64 x.n, .int .i64 x.bq, .bool x.al, .slice x.pm x.ms.length x.cm].toArray] [] (fun v Hs => v = .agg (Rl.c ⟨0, x.it, 0, x.n, 0, false, none, [], 0⟩).toArray ∧ Hs = []) := by
  refine Ct.body Tryz.func180 rfl Tryz.ntmps180 rfl ?_
  intro E F
  refine W.seq ?_
  refine W.region ?_
  refine RL.e (Eff.box 101 _ rfl rfl) rfl ?_
  rintro _ _ ⟨b1, rfl, rfl⟩
  refine RL.e (Eff.alloc 102 zc97) rfl ?_
  rintro _ _ ⟨b2, rfl, rfl⟩
  refine RL.nil ?_
  refine N.next ?_
  refine W.seq ?_
  refine W.region ?_
  refine RL.q (Yld.fieldAddr fo97_1 rfl) rfl ?_
  refine RL.q (Yld.ld 101 Tryz.underlying3 rfl rfl rfl rfl) rfl ?_
  refine RL.q (Yld.fieldAddr fo97_3 rfl) rfl ?_
  refine RL.q (Yld.ld 101 Tryz.underlying3 rfl rfl rfl rfl) rfl ?_
  refine RL.q (Yld.buildP lay97 (.cons rfl rfl (.cons rfl rfl .nil)) rfl) rfl ?_
  refine RL.e0 (Eff.storeS (c := 102) _ sz97 rfl rfl rfl rfl rfl rfl rfl (by (try simp only [putAt, List.take, List.drop, List.nil_append, List.cons_append, List.append_nil, List.length_cons, List.length_nil, Nat.add_zero, Nat.zero_add, Nat.reduceAdd]); rfl)) ?_
  rintro _ _ rfl
  refine RL.nil ?_
  refine N.next ?_
  refine W.keep (.of [2] rfl) (.of [0, 101, 102] rfl) ?_
  refine W.ret ?_
  exact N.retBy [] (.cons (by first | exact .cell (c := 102) rfl rfl (fun w hs => run_loadVarA Tryz.underlying97 rfl sz97 rfl (fun j u hj => by rw [Nat.zero_add, PH.sub.cell hs (by first | exact single_self _ _ | exact pset_self _ _ _ | assumption)]; exact hj))) .nil) rfl rfl rfl rfl ⟨rfl, rfl⟩

set_option maxRecDepth 100000 in
set_option maxHeartbeats 800000 in
theorem sameR_ct (x y : Rl) (H1 : PH) (hx : Sl H1 x.pm x.cm 1 (iz x.ms)) (hy : Sl H1 y.pm y.cm 1 (iz y.ms)) : Ct Tryz.prog 130 [.agg [.int .i64 x.kd, .int .i64 x.it, .int .i64 x.ot, .int .i64 x.n, .int .i64 x.bq, .bool x.al, .slice x.pm x.ms.length x.cm].toArray, .agg [.int .i64 y.kd, .int .i64 y.it, .int .i64 y.ot, .int .i64 y.n, .int .i64 y.bq, .bool y.al, .slice y.pm y.ms.length y.cm].toArray] [H1] (fun v Hs => v = .bool (sameV x y) ∧ Hs = [H1]) := by
  refine Ct.body Tryz.func130 rfl Tryz.ntmps130 rfl ?_
  intro E F
  refine W.seq ?_
  refine W.region ?_
  refine RL.e (Eff.box 102 _ rfl rfl) rfl ?_
  rintro _ _ ⟨b2, rfl, rfl⟩
  refine RL.e (Eff.box 103 _ rfl rfl) rfl ?_
  rintro _ _ ⟨b3, rfl, rfl⟩
  refine RL.q (Yld.assign rfl) rfl ?_
  refine RL.nil ?_
  refine N.next ?_
  refine W.seq ?_
  refine W.region ?_
  refine RL.q (Yld.fieldAddr fo97_1 rfl) rfl ?_
  refine RL.q (Yld.ld 102 Tryz.underlying3 rfl rfl rfl rfl) rfl ?_
  refine RL.q (Yld.fieldAddr fo97_1 rfl) rfl ?_
  refine RL.q (Yld.ld 103 Tryz.underlying3 rfl rfl rfl rfl) rfl ?_
  refine RL.q (Yld.bin rfl rfl BinV.eql) rfl ?_
  refine RL.q (Yld.move rfl) rfl ?_
  refine' RL.and (t := 10) (d := 16) 6 rfl (.of [0, 1, 2, 3, 4, 5, 6, 7, 8, 9] rfl) (.of [0, 1, 102, 103] rfl) ?_ ?_ ?_
  rotate_left 1
  ·
   intro hg10
   refine RL.gq rfl rfl (Yld.fieldAddr fo97_2 rfl) rfl ?_
   refine RL.gq rfl rfl (Yld.ld 102 Tryz.underlying3 rfl rfl rfl rfl) rfl ?_
   refine RL.gq rfl rfl (Yld.fieldAddr fo97_2 rfl) rfl ?_
   refine RL.gq rfl rfl (Yld.ld 103 Tryz.underlying3 rfl rfl rfl rfl) rfl ?_
   refine RL.gq rfl rfl (Yld.bin rfl rfl BinV.eql) rfl ?_
   refine RL.q Yld.pk rfl ?_
   exact RL.nil (N.meet (.to rfl) (.to rfl))
  ·
   intro hg10
   refine RL.gskip rfl rfl rfl rfl ?_
   refine RL.gskip rfl rfl rfl rfl ?_
   refine RL.gskip rfl rfl rfl rfl ?_
   refine RL.gskip rfl rfl rfl rfl ?_
   refine RL.gskip rfl rfl rfl rfl ?_
   refine RL.q Yld.pk rfl ?_
   exact RL.nil (N.meet (.to rfl) (.to rfl))
  refine RL.q (Yld.move rfl) rfl ?_
  refine' RL.and (t := 17) (d := 23) 6 rfl (.of [0, 1, 2, 3, 4, 5, 6, 7, 8, 9, 16] rfl) (.of [0, 1, 102, 103] rfl) ?_ ?_ ?_
  rotate_left 1
  ·
   intro hg17
   refine RL.gq rfl rfl (Yld.fieldAddr fo97_3 rfl) rfl ?_
   refine RL.gq rfl rfl (Yld.ld 102 Tryz.underlying3 rfl rfl rfl rfl) rfl ?_
   refine RL.gq rfl rfl (Yld.fieldAddr fo97_3 rfl) rfl ?_
   refine RL.gq rfl rfl (Yld.ld 103 Tryz.underlying3 rfl rfl rfl rfl) rfl ?_
   refine RL.gq rfl rfl (Yld.bin rfl rfl BinV.eql) rfl ?_
   refine RL.q Yld.pk rfl ?_
   exact RL.nil (N.meet (.to rfl) (.to rfl))
  ·
   intro hg17
   refine RL.gskip rfl rfl rfl rfl ?_
   refine RL.gskip rfl rfl rfl rfl ?_
   refine RL.gskip rfl rfl rfl rfl ?_
   refine RL.gskip rfl rfl rfl rfl ?_
   refine RL.gskip rfl rfl rfl rfl ?_
   refine RL.q Yld.pk rfl ?_
   exact RL.nil (N.meet (.to rfl) (.to rfl))
  refine RL.q (Yld.move rfl) rfl ?_
  refine' RL.and (t := 24) (d := 30) 6 rfl (.of [0, 1, 2, 3, 4, 5, 6, 7, 8, 9, 16, 23] rfl) (.of [0, 1, 102, 103] rfl) ?_ ?_ ?_
  rotate_left 1
  ·
   intro hg24
   refine RL.gq rfl rfl (Yld.fieldAddr fo97_4 rfl) rfl ?_
   refine RL.gq rfl rfl (Yld.ld 102 Tryz.underlying3 rfl rfl rfl rfl) rfl ?_
   refine RL.gq rfl rfl (Yld.fieldAddr fo97_4 rfl) rfl ?_
   refine RL.gq rfl rfl (Yld.ld 103 Tryz.underlying3 rfl rfl rfl rfl) rfl ?_
   refine RL.gq rfl rfl (Yld.bin rfl rfl BinV.eql) rfl ?_
   refine RL.q Yld.pk rfl ?_
   exact RL.nil (N.meet (.to rfl) (.to rfl))
  ·
   intro hg24
   refine RL.gskip rfl rfl rfl rfl ?_
   refine RL.gskip rfl rfl rfl rfl ?_
   refine RL.gskip rfl rfl rfl rfl ?_
   refine RL.gskip rfl rfl rfl rfl ?_
   refine RL.gskip rfl rfl rfl rfl ?_
   refine RL.q Yld.pk rfl ?_
   exact RL.nil (N.meet (.to rfl) (.to rfl))
  refine RL.q (Yld.move rfl) rfl ?_
  refine' RL.and (t := 31) (d := 37) 6 rfl (.of [0, 1, 2, 3, 4, 5, 6, 7, 8, 9, 16, 23, 30] rfl) (.of [0, 1, 102, 103] rfl) ?_ ?_ ?_
  rotate_left 1
  ·
   intro hg31
   refine RL.gq rfl rfl (Yld.fieldAddr fo97_5 rfl) rfl ?_
   refine RL.gq rfl rfl (Yld.ld 102 Tryz.underlying4 rfl rfl rfl rfl) rfl ?_
   refine RL.gq rfl rfl (Yld.fieldAddr fo97_5 rfl) rfl ?_
   refine RL.gq rfl rfl (Yld.ld 103 Tryz.underlying4 rfl rfl rfl rfl) rfl ?_
   refine RL.gq rfl rfl (Yld.bin rfl rfl (BinV.eqlB Tryz.underlying4)) rfl ?_
   refine RL.q Yld.pk rfl ?_
   exact RL.nil (N.meet (.to rfl) (.to rfl))
  ·
   intro hg31
   refine RL.gskip rfl rfl rfl rfl ?_
   refine RL.gskip rfl rfl rfl rfl ?_
   refine RL.gskip rfl rfl rfl rfl ?_
   refine RL.gskip rfl rfl rfl rfl ?_
   refine RL.gskip rfl rfl rfl rfl ?_
   refine RL.q Yld.pk rfl ?_
   exact RL.nil (N.meet (.to rfl) (.to rfl))
  refine RL.q (Yld.move rfl) rfl ?_
  refine' RL.and (t := 38) (d := 44) 6 rfl (.of [0, 1, 2, 3, 4, 5, 6, 7, 8, 9, 16, 23, 30, 37] rfl) (.of [0, 1, 102, 103] rfl) ?_ ?_ ?_
  rotate_left 1
  ·
   intro hg38
   refine RL.gq rfl rfl (Yld.fieldAddr fo97_6 rfl) rfl ?_
   refine RL.gq rfl rfl (Yld.ld 102 Tryz.underlying55 rfl rfl rfl rfl) rfl ?_
   refine RL.gq rfl rfl (Yld.fieldAddr fo97_6 rfl) rfl ?_
   refine RL.gq rfl rfl (Yld.ld 103 Tryz.underlying55 rfl rfl rfl rfl) rfl ?_
   refine RL.ge rfl rfl (Eff.call ent181 [1] [1] (.cons rfl (.cons rfl .nil)) (equalI_ct x.ms y.ms _ _ _ _ _ hx hy) rfl rfl rfl rfl (by rintro _ _ ⟨_, rfl⟩; rfl)) rfl ?_
   rintro _ _ ⟨_, ⟨rfl, rfl⟩, rfl⟩
   refine RL.q Yld.pk rfl ?_
   exact RL.nil (N.meet (.to rfl) (.to rfl))
  ·
   intro hg38
   refine RL.gskip rfl rfl rfl rfl ?_
   refine RL.gskip rfl rfl rfl rfl ?_
   refine RL.gskip rfl rfl rfl rfl ?_
   refine RL.gskip rfl rfl rfl rfl ?_
   refine RL.gskip rfl rfl rfl rfl ?_
   refine RL.q Yld.pk rfl ?_
   exact RL.nil (N.meet (.to rfl) (.to rfl))
  refine RL.q (Yld.assign rfl) rfl ?_
  refine RL.nil ?_
  refine N.next ?_
  refine W.keep (.of [4] rfl) (.of [0, 1, 102, 103] rfl) ?_
  refine W.ret ?_
  exact N.retBy [1] (.cons (.tmp rfl) .nil) rfl rfl rfl rfl ⟨by first | rfl | (show Value.bool _ = Value.bool _; congr 1; rw [Bool.eq_iff_iff]; unfold sameV; simp), rfl⟩

def Cat.formsM : List (Int × Value) := (mset (mset (mset (mset (mset (mset (mset ([] : List (Int × Value)) 0 (.agg [.func (.func 166) [].toArray [].toArray, .func (.func 168) [].toArray [].toArray].toArray)) 1 (.agg [.func (.func 169) [].toArray [].toArray, .func (.func 170) [].toArray [].toArray].toArray)) 2 (.agg [.func (.func 171) [].toArray [].toArray, .func (.func 172) [].toArray [].toArray].toArray)) 3 (.agg [.func (.func 173) [].toArray [].toArray, .func (.func 174) [].toArray [].toArray].toArray)) 4 (.agg [.func (.func 175) [].toArray [].toArray, .func (.func 176) [].toArray [].toArray].toArray)) 5 (.agg [.func (.func 177) [].toArray [].toArray, .func (.func 178) [].toArray [].toArray].toArray)) 6 (.agg [.func (.func 179) [].toArray [].toArray, .func (.func 180) [].toArray [].toArray].toArray))
theorem sl_nil1 (H : PH) : Sl H none 0 1 (iz []) := (Own.nil 3 1).sl.mono (fun _ _ h => nomatch h)

set_option maxRecDepth 100000 in
set_option maxHeartbeats 1600000 in
theorem forms_ct  : Ct Tryz.prog 129 [] [] (fun v Hs => ∃ b es ck, v = .map (some b) ∧ MapP (fun a : Int => Value.int .i64 a) es ck formsM ∧ Hs = [single b (.map es ck)]) := by
  refine Ct.body Tryz.func129 rfl Tryz.ntmps129 rfl ?_
  intro E F
  have hM0 : MapP (fun a : Int => Value.int .i64 a) #[] 0 [] := MapP.empty _
  refine W.seq ?_
  refine W.region ?_
  refine RL.q (Yld.assign rfl) rfl ?_
  refine RL.nil ?_
  refine N.next ?_
  refine W.seq ?_
  refine W.region ?_
  refine RL.e (Eff.makeMap 101) rfl ?_
  rintro _ _ ⟨b1, rfl, rfl⟩
  refine RL.q (Yld.buildP lay176 (.cons rfl rfl (.cons rfl rfl .nil)) rfl) rfl ?_
  refine RL.e0 (Eff.insert (c := 101) Tryz.underlying178 (keyInt Tryz.underlying3) rfl rfl rfl rfl (by assumption)) ?_
  rintro _ _ ⟨es1, ck1, hM1, rfl⟩
  refine RL.q (Yld.buildP lay176 (.cons rfl rfl (.cons rfl rfl .nil)) rfl) rfl ?_
  refine RL.e0 (Eff.insert (c := 101) Tryz.underlying178 (keyInt Tryz.underlying3) rfl rfl rfl rfl (by assumption)) ?_
  rintro _ _ ⟨es2, ck2, hM2, rfl⟩
  refine RL.q (Yld.buildP lay176 (.cons rfl rfl (.cons rfl rfl .nil)) rfl) rfl ?_
  refine RL.e0 (Eff.insert (c := 101) Tryz.underlying178 (keyInt Tryz.underlying3) rfl rfl rfl rfl (by assumption)) ?_
  rintro _ _ ⟨es3, ck3, hM3, rfl⟩
  refine RL.q (Yld.buildP lay176 (.cons rfl rfl (.cons rfl rfl .nil)) rfl) rfl ?_
  refine RL.e0 (Eff.insert (c := 101) Tryz.underlying178 (keyInt Tryz.underlying3) rfl rfl rfl rfl (by assumption)) ?_
  rintro _ _ ⟨es4, ck4, hM4, rfl⟩
  refine RL.q (Yld.buildP lay176 (.cons rfl rfl (.cons rfl rfl .nil)) rfl) rfl ?_
  refine RL.e0 (Eff.insert (c := 101) Tryz.underlying178 (keyInt Tryz.underlying3) rfl rfl rfl rfl (by assumption)) ?_
  rintro _ _ ⟨es5, ck5, hM5, rfl⟩
  refine RL.q (Yld.buildP lay176 (.cons rfl rfl (.cons rfl rfl .nil)) rfl) rfl ?_
  refine RL.e0 (Eff.insert (c := 101) Tryz.underlying178 (keyInt Tryz.underlying3) rfl rfl rfl rfl (by assumption)) ?_
  rintro _ _ ⟨es6, ck6, hM6, rfl⟩
  refine RL.q (Yld.buildP lay176 (.cons rfl rfl (.cons rfl rfl .nil)) rfl) rfl ?_
  refine RL.e0 (Eff.insert (c := 101) Tryz.underlying178 (keyInt Tryz.underlying3) rfl rfl rfl rfl (by assumption)) ?_
  rintro _ _ ⟨es7, ck7, hM7, rfl⟩
  refine RL.q (Yld.move rfl) rfl ?_
  refine RL.q (Yld.assign rfl) rfl ?_
  refine RL.nil ?_
  refine N.next ?_
  refine W.keep (.of [0] rfl) (.of [0, 101] rfl) ?_
  refine W.ret ?_
  exact N.retBy [101] (.cons (.tmp rfl) .nil) rfl rfl rfl rfl ⟨_, _, _, rfl, (by assumption), rfl⟩

end Go.Proofs.YtboapdcmaeojgaaGreatDoor
/- Valid rules. Written by program (walk2.py). -/
namespace Go.Proofs.YtboapdcmaeojgaaGreatDoor
open SL Cat
set_option linter.unusedVariables false
set_option linter.unusedSimpArgs false
theorem fo97_0 : fieldOff Tryz.prog 97 0 = some 0 := by kernel_rfl
theorem ent129 : Ent Tryz.prog 129 := ⟨_, _, Tryz.func129, by kernel_rfl, rfl⟩
theorem zv176 : zv Tryz.prog 176 (.agg #[.nilFunc, .nilFunc]) := (by kernel_rfl : (Tryz.prog.info? 176).bind (·.zero) = some (.agg #[.nilFunc, .nilFunc]))
theorem zc176 : zc Tryz.prog 176 [.nilFunc, .nilFunc] := (by kernel_rfl : ((Tryz.prog.info? 176).bind (·.zero)).map (fun v => v.cells.toList) = some [.nilFunc, .nilFunc])
theorem sz176 : sz Tryz.prog 176 2 := (by kernel_rfl : (Tryz.prog.info? 176).map (·.size) = some 2)
theorem fo176_0 : fieldOff Tryz.prog 176 0 = some 0 := by kernel_rfl
theorem fo176_1 : fieldOff Tryz.prog 176 1 = some 1 := by kernel_rfl
theorem ent130 : Ent Tryz.prog 130 := ⟨_, _, Tryz.func130, by kernel_rfl, rfl⟩
set_option maxRecDepth 100000 in
set_option maxHeartbeats 3200000 in
theorem validRuleG_ct (m : Md) (H1 : PH) (hM : m.In H1) (x : Rl) (hms : Sl H1 x.pm x.cm 1 (iz x.ms)) (F1 F2 : Nat) (OK : Bool) (on : Rl) (hent1 : Ent Tryz.prog F1) (hent2 : Ent Tryz.prog F2) (h1 : Ct Tryz.prog F1 [.agg [.slice m.psi m.si.length m.csi, .slice m.pfe m.fe.length m.cfe, .slice m.prk m.rk.length m.crk, .slice m.pmc m.mc.length m.cmc, .slice m.pln m.ln.length m.cln, .slice m.pis m.is.length m.cis, .int .i64 m.da, .int .i64 m.sl, .int .i64 m.re, .int .i64 m.fa, .slice m.prl m.rl.length m.crl].toArray, .agg [.int .i64 x.kd, .int .i64 x.it, .int .i64 x.ot, .int .i64 x.n, .int .i64 x.bq, .bool x.al, .slice x.pm x.ms.length x.cm].toArray] [H1] (fun v Hs => v = .bool OK ∧ Hs = [H1])) (h2 : Ct Tryz.prog F2 [.agg [.int .i64 x.kd, .int .i64 x.it, .int .i64 x.ot, .int .i64 x.n, .int .i64 x.bq, .bool x.al, .slice x.pm x.ms.length x.cm].toArray] [] (fun v Hs => v = .agg on.c.toArray ∧ Hs = [])) (hso : Sl H1 on.pm on.cm 1 (iz on.ms)) (hlk : mget formsM x.kd = some (.agg [.func (.func F1) [].toArray [].toArray, .func (.func F2) [].toArray [].toArray].toArray)) (hrl : rlB m x = (OK && sameV x on)) : Ct Tryz.prog 75 [.agg [.slice m.psi m.si.length m.csi, .slice m.pfe m.fe.length m.cfe, .slice m.prk m.rk.length m.crk, .slice m.pmc m.mc.length m.cmc, .slice m.pln m.ln.length m.cln, .slice m.pis m.is.length m.cis, .int .i64 m.da, .int .i64 m.sl, .int .i64 m.re, .int .i64 m.fa, .slice m.prl m.rl.length m.crl].toArray, .agg [.int .i64 x.kd, .int .i64 x.it, .int .i64 x.ot, .int .i64 x.n, .int .i64 x.bq, .bool x.al, .slice x.pm x.ms.length x.cm].toArray] [H1] (fun v Hs => v = .bool (rlB m x) ∧ Hs = [H1]) := by
  refine Ct.body Tryz.func75 rfl Tryz.ntmps75 rfl ?_
  intro E F
  refine W.seq ?_
  refine W.region ?_
  refine RL.e (Eff.box 102 _ rfl rfl) rfl ?_
  rintro _ _ ⟨b2, rfl, rfl⟩
  refine RL.e (Eff.box 103 _ rfl rfl) rfl ?_
  rintro _ _ ⟨b3, rfl, rfl⟩
  refine RL.q (Yld.assign rfl) rfl ?_
  refine RL.nil ?_
  refine N.next ?_
  refine W.seq ?_
  refine W.draw (.q 1 (.q 2 (.two 0 (.two 3 (.q 4 (.q 5 (.q 6 (.one 7 (.one 8 (.q 9 .done)))))) 7 (.one 3 (.q 4 (.q 5 (.q 6 (.one 8 (.q 9 .done))))))) 7 (.one 0 (.one 3 (.q 4 (.q 5 (.q 6 (.one 8 (.q 9 .done)))))))))) (.of [0, 1, 102, 103] rfl) mix (by kernel_rfl) (by kernel_rfl) ?_
  refine DL.q rfl (Yld.fieldAddr fo97_0 rfl) rfl ?_
  refine DL.q rfl (Yld.ld 103 Tryz.underlying3 rfl rfl rfl rfl) rfl ?_
  refine DL.two ?_ ?_
  ·
   refine DL.one rfl (Eff.call ent129 [] [140] .nil forms_ct rfl rfl rfl rfl (by rintro _ _ ⟨_, _, _, _, _, rfl⟩; rfl)) rfl (by rintro _ _ ⟨_, ⟨bm, esm, ckm, rfl, hMf, rfl⟩, rfl⟩; repeat (first | exact .nil | refine .cons rfl ?_)) ?_
   rintro _ _ ⟨_, ⟨bm, esm, ckm, rfl, hMf, rfl⟩, rfl⟩
   refine DL.two ?_ ?_
   ·
    refine DL.one rfl (Yld.eff (Yld.eq (v' := .tuple [.agg [.func (.func F1) [].toArray [].toArray, .func (.func F2) [].toArray [].toArray].toArray, .bool true].toArray) (Yld.lookupOk (c := 140) Tryz.underlying178 (keyInt Tryz.underlying3) zv176 rfl rfl rfl (by assumption)) (by rw [hlk]; rfl))) rfl (by rintro _ _ ⟨rfl, rfl⟩; repeat (first | exact .nil | refine .cons rfl ?_)) ?_
    rintro _ _ ⟨rfl, rfl⟩
    refine DL.q rfl (Yld.move rfl) rfl ?_
    refine DL.q rfl (Yld.extract rfl rfl) rfl ?_
    refine DL.q rfl (Yld.extract rfl rfl) rfl ?_
    refine DL.one rfl (Eff.alloc 105 zc176) rfl (by rintro _ _ ⟨b5, rfl, rfl⟩; repeat (first | exact .nil | refine .cons rfl ?_)) ?_
    rintro _ _ ⟨b5, rfl, rfl⟩
    refine DL.one0 rfl (Eff.storeS (c := 105) _ sz176 rfl rfl rfl rfl rfl rfl rfl (by (try simp only [putAt, List.take, List.drop, List.nil_append, List.cons_append, List.append_nil, List.length_cons, List.length_nil, Nat.add_zero, Nat.zero_add, Nat.reduceAdd]); rfl)) (by rintro _ _ rfl; repeat (first | exact .nil | refine .cons rfl ?_)) ?_
    rintro _ _ rfl
    refine DL.q rfl (Yld.assign rfl) rfl ?_
    refine DL.done ?_
    refine N.next ?_
    refine W.keep (.of [2, 3, 5, 6] rfl) (.of [0, 1, 102, 103, 105, 140] rfl) ?_
    refine W.seq ?_
    refine W.draw (.q 0 (.q 1 (.q 2 (.q 3 (.q 4 (.q 5 (.one 6 (.q 7 (.q 8 (.q 9 (.q 10 (.q 11 (.q 12 (.one 13 (.one 14 (.q 15 (.q 16 .done))))))))))))))))) (.of [0, 102, 103, 105, 140] rfl) mix (by kernel_rfl) (by kernel_rfl) ?_
    refine DL.q rfl (Yld.move rfl) rfl ?_
    refine DL.q rfl (Yld.move rfl) rfl ?_
    first | refine DL.as (t := 15) rfl (boolT (by first | assumption | omega | (simp; done))) ?_ | refine DL.as (t := 15) (v := .bool true) rfl rfl ?_
    refine DL.gq rfl rfl rfl (Yld.fieldAddr fo176_0 rfl) rfl ?_
    refine DL.gq rfl rfl rfl (Yld.ld 105 Tryz.underlying99 rfl rfl rfl rfl) rfl ?_
    refine DL.gq rfl rfl rfl (Yld.ldW 102 Tryz.underlying29 sz29 rfl rfl rfl rfl) rfl ?_
    refine DL.gq rfl rfl rfl (Yld.ldW 103 Tryz.underlying97 sz97 rfl rfl rfl rfl) rfl ?_
    refine DL.gone rfl rfl rfl (Eff.callV hent1 [1] [1] rfl (.cons rfl (.cons rfl .nil)) h1 rfl rfl rfl rfl (by rintro _ _ ⟨_, rfl⟩; rfl)) rfl (by rintro _ _ ⟨_, ⟨rfl, rfl⟩, rfl⟩; repeat (first | exact .nil | refine .cons rfl ?_)) ?_
    rintro _ _ ⟨_, ⟨rfl, rfl⟩, rfl⟩
    refine DL.q rfl Yld.pk rfl ?_
    refine DL.q rfl (Yld.move rfl) rfl ?_
    refine' DL.and (t := 22) (d := 29) 7 rfl (.of [2, 3, 5, 6, 14, 15, 16, 17, 18, 19, 20, 21] rfl) (.of [0, 1, 102, 103, 105, 140] rfl) ?_ ?_ ?_
    rotate_left 1
    ·
     intro hg22
     refine DL.gq rfl rfl rfl (Yld.ldW 103 Tryz.underlying97 sz97 rfl rfl rfl rfl) rfl ?_
     refine DL.gq rfl rfl rfl (Yld.fieldAddr fo176_1 rfl) rfl ?_
     refine DL.gq rfl rfl rfl (Yld.ld 105 Tryz.underlying174 rfl rfl rfl rfl) rfl ?_
     refine DL.gq rfl rfl rfl (Yld.ldW 103 Tryz.underlying97 sz97 rfl rfl rfl rfl) rfl ?_
     refine DL.gone rfl rfl rfl (Eff.callV hent2 [] [] rfl (.cons rfl .nil) h2 rfl rfl rfl rfl (by rintro _ _ ⟨_, rfl⟩; rfl)) rfl (by rintro _ _ ⟨_, ⟨rfl, rfl⟩, rfl⟩; repeat (first | exact .nil | refine .cons rfl ?_)) ?_
     rintro _ _ ⟨_, ⟨rfl, rfl⟩, rfl⟩
     refine DL.gone rfl rfl rfl (Eff.call ent130 [1] [1] (.cons rfl (.cons rfl .nil)) (sameR_ct x on H1 hms hso) rfl rfl rfl rfl (by rintro _ _ ⟨_, rfl⟩; rfl)) rfl (by rintro _ _ ⟨_, ⟨rfl, rfl⟩, rfl⟩; repeat (first | exact .nil | refine .cons rfl ?_)) ?_
     rintro _ _ ⟨_, ⟨rfl, rfl⟩, rfl⟩
     refine DL.q rfl Yld.pk rfl ?_
     exact DL.meet (.to rfl) (.to rfl)
    ·
     intro hg22
     refine DL.gskip rfl rfl rfl rfl rfl ?_
     refine DL.gskip rfl rfl rfl rfl rfl ?_
     refine DL.gskip rfl rfl rfl rfl rfl ?_
     refine DL.gskip rfl rfl rfl rfl rfl ?_
     refine DL.gskip1 rfl rfl rfl rfl rfl ?_
     refine DL.gskip1 rfl rfl rfl rfl rfl ?_
     refine DL.q rfl Yld.pk rfl ?_
     exact DL.meet (.to rfl) (.to rfl)
    refine DL.q rfl (Yld.assign rfl) rfl ?_
    refine DL.done ?_
    refine N.next ?_
    refine W.keep (.of [4] rfl) (.of [0, 1, 102, 103, 105, 140] rfl) ?_
    refine W.ret ?_
    exact N.retBy [1] (.cons (.tmp rfl) .nil) rfl rfl rfl rfl ⟨by rw [hrl]; rfl, rfl⟩
   ·
    refine DL.one rfl (Eff.alloc 105 zc176) rfl (by rintro _ _ ⟨b5, rfl, rfl⟩; repeat (first | exact .nil | refine .cons rfl ?_)) ?_
    rintro _ _ ⟨b5, rfl, rfl⟩
    refine DL.one rfl (Yld.eff (Yld.eq (v' := .tuple [.agg [.func (.func F1) [].toArray [].toArray, .func (.func F2) [].toArray [].toArray].toArray, .bool true].toArray) (Yld.lookupOk (c := 140) Tryz.underlying178 (keyInt Tryz.underlying3) zv176 rfl rfl rfl (by assumption)) (by rw [hlk]; rfl))) rfl (by rintro _ _ ⟨rfl, rfl⟩; repeat (first | exact .nil | refine .cons rfl ?_)) ?_
    rintro _ _ ⟨rfl, rfl⟩
    refine DL.q rfl (Yld.move rfl) rfl ?_
    refine DL.q rfl (Yld.extract rfl rfl) rfl ?_
    refine DL.q rfl (Yld.extract rfl rfl) rfl ?_
    refine DL.one0 rfl (Eff.storeS (c := 105) _ sz176 rfl rfl rfl rfl rfl rfl rfl (by (try simp only [putAt, List.take, List.drop, List.nil_append, List.cons_append, List.append_nil, List.length_cons, List.length_nil, Nat.add_zero, Nat.zero_add, Nat.reduceAdd]); rfl)) (by rintro _ _ rfl; repeat (first | exact .nil | refine .cons rfl ?_)) ?_
    rintro _ _ rfl
    refine DL.q rfl (Yld.assign rfl) rfl ?_
    refine DL.done ?_
    refine N.next ?_
    refine W.keep (.of [2, 3, 5, 6] rfl) (.of [0, 1, 102, 103, 105, 140] rfl) ?_
    refine W.seq ?_
    refine W.draw (.q 0 (.q 1 (.q 2 (.q 3 (.q 4 (.q 5 (.one 6 (.q 7 (.q 8 (.q 9 (.q 10 (.q 11 (.q 12 (.one 13 (.one 14 (.q 15 (.q 16 .done))))))))))))))))) (.of [0, 102, 103, 105, 140] rfl) mix (by kernel_rfl) (by kernel_rfl) ?_
    refine DL.q rfl (Yld.move rfl) rfl ?_
    refine DL.q rfl (Yld.move rfl) rfl ?_
    first | refine DL.as (t := 15) rfl (boolT (by first | assumption | omega | (simp; done))) ?_ | refine DL.as (t := 15) (v := .bool true) rfl rfl ?_
    refine DL.gq rfl rfl rfl (Yld.fieldAddr fo176_0 rfl) rfl ?_
    refine DL.gq rfl rfl rfl (Yld.ld 105 Tryz.underlying99 rfl rfl rfl rfl) rfl ?_
    refine DL.gq rfl rfl rfl (Yld.ldW 102 Tryz.underlying29 sz29 rfl rfl rfl rfl) rfl ?_
    refine DL.gq rfl rfl rfl (Yld.ldW 103 Tryz.underlying97 sz97 rfl rfl rfl rfl) rfl ?_
    refine DL.gone rfl rfl rfl (Eff.callV hent1 [1] [1] rfl (.cons rfl (.cons rfl .nil)) h1 rfl rfl rfl rfl (by rintro _ _ ⟨_, rfl⟩; rfl)) rfl (by rintro _ _ ⟨_, ⟨rfl, rfl⟩, rfl⟩; repeat (first | exact .nil | refine .cons rfl ?_)) ?_
    rintro _ _ ⟨_, ⟨rfl, rfl⟩, rfl⟩
    refine DL.q rfl Yld.pk rfl ?_
    refine DL.q rfl (Yld.move rfl) rfl ?_
    refine' DL.and (t := 22) (d := 29) 7 rfl (.of [2, 3, 5, 6, 14, 15, 16, 17, 18, 19, 20, 21] rfl) (.of [0, 1, 102, 103, 105, 140] rfl) ?_ ?_ ?_
    rotate_left 1
    ·
     intro hg22
     refine DL.gq rfl rfl rfl (Yld.ldW 103 Tryz.underlying97 sz97 rfl rfl rfl rfl) rfl ?_
     refine DL.gq rfl rfl rfl (Yld.fieldAddr fo176_1 rfl) rfl ?_
     refine DL.gq rfl rfl rfl (Yld.ld 105 Tryz.underlying174 rfl rfl rfl rfl) rfl ?_
     refine DL.gq rfl rfl rfl (Yld.ldW 103 Tryz.underlying97 sz97 rfl rfl rfl rfl) rfl ?_
     refine DL.gone rfl rfl rfl (Eff.callV hent2 [] [] rfl (.cons rfl .nil) h2 rfl rfl rfl rfl (by rintro _ _ ⟨_, rfl⟩; rfl)) rfl (by rintro _ _ ⟨_, ⟨rfl, rfl⟩, rfl⟩; repeat (first | exact .nil | refine .cons rfl ?_)) ?_
     rintro _ _ ⟨_, ⟨rfl, rfl⟩, rfl⟩
     refine DL.gone rfl rfl rfl (Eff.call ent130 [1] [1] (.cons rfl (.cons rfl .nil)) (sameR_ct x on H1 hms hso) rfl rfl rfl rfl (by rintro _ _ ⟨_, rfl⟩; rfl)) rfl (by rintro _ _ ⟨_, ⟨rfl, rfl⟩, rfl⟩; repeat (first | exact .nil | refine .cons rfl ?_)) ?_
     rintro _ _ ⟨_, ⟨rfl, rfl⟩, rfl⟩
     refine DL.q rfl Yld.pk rfl ?_
     exact DL.meet (.to rfl) (.to rfl)
    ·
     intro hg22
     refine DL.gskip rfl rfl rfl rfl rfl ?_
     refine DL.gskip rfl rfl rfl rfl rfl ?_
     refine DL.gskip rfl rfl rfl rfl rfl ?_
     refine DL.gskip rfl rfl rfl rfl rfl ?_
     refine DL.gskip1 rfl rfl rfl rfl rfl ?_
     refine DL.gskip1 rfl rfl rfl rfl rfl ?_
     refine DL.q rfl Yld.pk rfl ?_
     exact DL.meet (.to rfl) (.to rfl)
    refine DL.q rfl (Yld.assign rfl) rfl ?_
    refine DL.done ?_
    refine N.next ?_
    refine W.keep (.of [4] rfl) (.of [0, 1, 102, 103, 105, 140] rfl) ?_
    refine W.ret ?_
    exact N.retBy [1] (.cons (.tmp rfl) .nil) rfl rfl rfl rfl ⟨by rw [hrl]; rfl, rfl⟩
  ·
   refine DL.one rfl (Eff.alloc 105 zc176) rfl (by rintro _ _ ⟨b5, rfl, rfl⟩; repeat (first | exact .nil | refine .cons rfl ?_)) ?_
   rintro _ _ ⟨b5, rfl, rfl⟩
   refine DL.one rfl (Eff.call ent129 [] [140] .nil forms_ct rfl rfl rfl rfl (by rintro _ _ ⟨_, _, _, _, _, rfl⟩; rfl)) rfl (by rintro _ _ ⟨_, ⟨bm, esm, ckm, rfl, hMf, rfl⟩, rfl⟩; repeat (first | exact .nil | refine .cons rfl ?_)) ?_
   rintro _ _ ⟨_, ⟨bm, esm, ckm, rfl, hMf, rfl⟩, rfl⟩
   refine DL.one rfl (Yld.eff (Yld.eq (v' := .tuple [.agg [.func (.func F1) [].toArray [].toArray, .func (.func F2) [].toArray [].toArray].toArray, .bool true].toArray) (Yld.lookupOk (c := 140) Tryz.underlying178 (keyInt Tryz.underlying3) zv176 rfl rfl rfl (by assumption)) (by rw [hlk]; rfl))) rfl (by rintro _ _ ⟨rfl, rfl⟩; repeat (first | exact .nil | refine .cons rfl ?_)) ?_
   rintro _ _ ⟨rfl, rfl⟩
   refine DL.q rfl (Yld.move rfl) rfl ?_
   refine DL.q rfl (Yld.extract rfl rfl) rfl ?_
   refine DL.q rfl (Yld.extract rfl rfl) rfl ?_
   refine DL.one0 rfl (Eff.storeS (c := 105) _ sz176 rfl rfl rfl rfl rfl rfl rfl (by (try simp only [putAt, List.take, List.drop, List.nil_append, List.cons_append, List.append_nil, List.length_cons, List.length_nil, Nat.add_zero, Nat.zero_add, Nat.reduceAdd]); rfl)) (by rintro _ _ rfl; repeat (first | exact .nil | refine .cons rfl ?_)) ?_
   rintro _ _ rfl
   refine DL.q rfl (Yld.assign rfl) rfl ?_
   refine DL.done ?_
   refine N.next ?_
   refine W.keep (.of [2, 3, 5, 6] rfl) (.of [0, 1, 102, 103, 105, 140] rfl) ?_
   refine W.seq ?_
   refine W.draw (.q 0 (.q 1 (.q 2 (.q 3 (.q 4 (.q 5 (.one 6 (.q 7 (.q 8 (.q 9 (.q 10 (.q 11 (.q 12 (.one 13 (.one 14 (.q 15 (.q 16 .done))))))))))))))))) (.of [0, 102, 103, 105, 140] rfl) mix (by kernel_rfl) (by kernel_rfl) ?_
   refine DL.q rfl (Yld.move rfl) rfl ?_
   refine DL.q rfl (Yld.move rfl) rfl ?_
   first | refine DL.as (t := 15) rfl (boolT (by first | assumption | omega | (simp; done))) ?_ | refine DL.as (t := 15) (v := .bool true) rfl rfl ?_
   refine DL.gq rfl rfl rfl (Yld.fieldAddr fo176_0 rfl) rfl ?_
   refine DL.gq rfl rfl rfl (Yld.ld 105 Tryz.underlying99 rfl rfl rfl rfl) rfl ?_
   refine DL.gq rfl rfl rfl (Yld.ldW 102 Tryz.underlying29 sz29 rfl rfl rfl rfl) rfl ?_
   refine DL.gq rfl rfl rfl (Yld.ldW 103 Tryz.underlying97 sz97 rfl rfl rfl rfl) rfl ?_
   refine DL.gone rfl rfl rfl (Eff.callV hent1 [1] [1] rfl (.cons rfl (.cons rfl .nil)) h1 rfl rfl rfl rfl (by rintro _ _ ⟨_, rfl⟩; rfl)) rfl (by rintro _ _ ⟨_, ⟨rfl, rfl⟩, rfl⟩; repeat (first | exact .nil | refine .cons rfl ?_)) ?_
   rintro _ _ ⟨_, ⟨rfl, rfl⟩, rfl⟩
   refine DL.q rfl Yld.pk rfl ?_
   refine DL.q rfl (Yld.move rfl) rfl ?_
   refine' DL.and (t := 22) (d := 29) 7 rfl (.of [2, 3, 5, 6, 14, 15, 16, 17, 18, 19, 20, 21] rfl) (.of [0, 1, 102, 103, 105, 140] rfl) ?_ ?_ ?_
   rotate_left 1
   ·
    intro hg22
    refine DL.gq rfl rfl rfl (Yld.ldW 103 Tryz.underlying97 sz97 rfl rfl rfl rfl) rfl ?_
    refine DL.gq rfl rfl rfl (Yld.fieldAddr fo176_1 rfl) rfl ?_
    refine DL.gq rfl rfl rfl (Yld.ld 105 Tryz.underlying174 rfl rfl rfl rfl) rfl ?_
    refine DL.gq rfl rfl rfl (Yld.ldW 103 Tryz.underlying97 sz97 rfl rfl rfl rfl) rfl ?_
    refine DL.gone rfl rfl rfl (Eff.callV hent2 [] [] rfl (.cons rfl .nil) h2 rfl rfl rfl rfl (by rintro _ _ ⟨_, rfl⟩; rfl)) rfl (by rintro _ _ ⟨_, ⟨rfl, rfl⟩, rfl⟩; repeat (first | exact .nil | refine .cons rfl ?_)) ?_
    rintro _ _ ⟨_, ⟨rfl, rfl⟩, rfl⟩
    refine DL.gone rfl rfl rfl (Eff.call ent130 [1] [1] (.cons rfl (.cons rfl .nil)) (sameR_ct x on H1 hms hso) rfl rfl rfl rfl (by rintro _ _ ⟨_, rfl⟩; rfl)) rfl (by rintro _ _ ⟨_, ⟨rfl, rfl⟩, rfl⟩; repeat (first | exact .nil | refine .cons rfl ?_)) ?_
    rintro _ _ ⟨_, ⟨rfl, rfl⟩, rfl⟩
    refine DL.q rfl Yld.pk rfl ?_
    exact DL.meet (.to rfl) (.to rfl)
   ·
    intro hg22
    refine DL.gskip rfl rfl rfl rfl rfl ?_
    refine DL.gskip rfl rfl rfl rfl rfl ?_
    refine DL.gskip rfl rfl rfl rfl rfl ?_
    refine DL.gskip rfl rfl rfl rfl rfl ?_
    refine DL.gskip1 rfl rfl rfl rfl rfl ?_
    refine DL.gskip1 rfl rfl rfl rfl rfl ?_
    refine DL.q rfl Yld.pk rfl ?_
    exact DL.meet (.to rfl) (.to rfl)
   refine DL.q rfl (Yld.assign rfl) rfl ?_
   refine DL.done ?_
   refine N.next ?_
   refine W.keep (.of [4] rfl) (.of [0, 1, 102, 103, 105, 140] rfl) ?_
   refine W.ret ?_
   exact N.retBy [1] (.cons (.tmp rfl) .nil) rfl rfl rfl rfl ⟨by rw [hrl]; rfl, rfl⟩

set_option maxRecDepth 100000 in
set_option maxHeartbeats 3200000 in
theorem validRule7_ct (m : Md) (H1 : PH) (hM : m.In H1) (x : Rl) (hms : Sl H1 x.pm x.cm 1 (iz x.ms)) (hk : ¬ (0 ≤ x.kd ∧ x.kd ≤ 6)) : Ct Tryz.prog 75 [.agg [.slice m.psi m.si.length m.csi, .slice m.pfe m.fe.length m.cfe, .slice m.prk m.rk.length m.crk, .slice m.pmc m.mc.length m.cmc, .slice m.pln m.ln.length m.cln, .slice m.pis m.is.length m.cis, .int .i64 m.da, .int .i64 m.sl, .int .i64 m.re, .int .i64 m.fa, .slice m.prl m.rl.length m.crl].toArray, .agg [.int .i64 x.kd, .int .i64 x.it, .int .i64 x.ot, .int .i64 x.n, .int .i64 x.bq, .bool x.al, .slice x.pm x.ms.length x.cm].toArray] [H1] (fun v Hs => v = .bool (rlB m x) ∧ Hs = [H1]) := by
  refine Ct.body Tryz.func75 rfl Tryz.ntmps75 rfl ?_
  intro E F
  have hrl : rlB m x = false := by unfold rlB; rw [decide_eq_false hk]; rfl
  refine W.seq ?_
  refine W.region ?_
  refine RL.e (Eff.box 102 _ rfl rfl) rfl ?_
  rintro _ _ ⟨b2, rfl, rfl⟩
  refine RL.e (Eff.box 103 _ rfl rfl) rfl ?_
  rintro _ _ ⟨b3, rfl, rfl⟩
  refine RL.q (Yld.assign rfl) rfl ?_
  refine RL.nil ?_
  refine N.next ?_
  refine W.seq ?_
  refine W.draw (.q 1 (.q 2 (.two 0 (.two 3 (.q 4 (.q 5 (.q 6 (.one 7 (.one 8 (.q 9 .done)))))) 7 (.one 3 (.q 4 (.q 5 (.q 6 (.one 8 (.q 9 .done))))))) 7 (.one 0 (.one 3 (.q 4 (.q 5 (.q 6 (.one 8 (.q 9 .done)))))))))) (.of [0, 1, 102, 103] rfl) mix (by kernel_rfl) (by kernel_rfl) ?_
  refine DL.q rfl (Yld.fieldAddr fo97_0 rfl) rfl ?_
  refine DL.q rfl (Yld.ld 103 Tryz.underlying3 rfl rfl rfl rfl) rfl ?_
  refine DL.two ?_ ?_
  ·
   refine DL.one rfl (Eff.call ent129 [] [140] .nil forms_ct rfl rfl rfl rfl (by rintro _ _ ⟨_, _, _, _, _, rfl⟩; rfl)) rfl (by rintro _ _ ⟨_, ⟨bm, esm, ckm, rfl, hMf, rfl⟩, rfl⟩; repeat (first | exact .nil | refine .cons rfl ?_)) ?_
   rintro _ _ ⟨_, ⟨bm, esm, ckm, rfl, hMf, rfl⟩, rfl⟩
   refine DL.two ?_ ?_
   ·
    refine DL.one rfl (Yld.eff (Yld.eq (v' := .tuple [.agg [.nilFunc, .nilFunc].toArray, .bool false].toArray) (Yld.lookupOk (c := 140) Tryz.underlying178 (keyInt Tryz.underlying3) zv176 rfl rfl rfl (by assumption)) (by unfold formsM; rw [mget_mset, mget_mset, mget_mset, mget_mset, mget_mset, mget_mset, mget_mset, if_neg (show ¬ (6 : Int) = x.kd by omega), if_neg (show ¬ (5 : Int) = x.kd by omega), if_neg (show ¬ (4 : Int) = x.kd by omega), if_neg (show ¬ (3 : Int) = x.kd by omega), if_neg (show ¬ (2 : Int) = x.kd by omega), if_neg (show ¬ (1 : Int) = x.kd by omega), if_neg (show ¬ (0 : Int) = x.kd by omega)]; rfl))) rfl (by rintro _ _ ⟨rfl, rfl⟩; repeat (first | exact .nil | refine .cons rfl ?_)) ?_
    rintro _ _ ⟨rfl, rfl⟩
    refine DL.q rfl (Yld.move rfl) rfl ?_
    refine DL.q rfl (Yld.extract rfl rfl) rfl ?_
    refine DL.q rfl (Yld.extract rfl rfl) rfl ?_
    refine DL.one rfl (Eff.alloc 105 zc176) rfl (by rintro _ _ ⟨b5, rfl, rfl⟩; repeat (first | exact .nil | refine .cons rfl ?_)) ?_
    rintro _ _ ⟨b5, rfl, rfl⟩
    refine DL.one0 rfl (Eff.storeS (c := 105) _ sz176 rfl rfl rfl rfl rfl rfl rfl (by (try simp only [putAt, List.take, List.drop, List.nil_append, List.cons_append, List.append_nil, List.length_cons, List.length_nil, Nat.add_zero, Nat.zero_add, Nat.reduceAdd]); rfl)) (by rintro _ _ rfl; repeat (first | exact .nil | refine .cons rfl ?_)) ?_
    rintro _ _ rfl
    refine DL.q rfl (Yld.assign rfl) rfl ?_
    refine DL.done ?_
    refine N.next ?_
    refine W.keep (.of [2, 3, 5, 6] rfl) (.of [0, 1, 102, 103, 105, 140] rfl) ?_
    refine W.seq ?_
    refine W.draw (.q 0 (.q 1 (.q 2 (.q 3 (.q 4 (.q 5 (.one 6 (.q 7 (.q 8 (.q 9 (.q 10 (.q 11 (.q 12 (.one 13 (.one 14 (.q 15 (.q 16 .done))))))))))))))))) (.of [0, 102, 103, 105, 140] rfl) mix (by kernel_rfl) (by kernel_rfl) ?_
    refine DL.q rfl (Yld.move rfl) rfl ?_
    refine DL.q rfl (Yld.move rfl) rfl ?_
    first | refine DL.as (t := 15) rfl (boolF (by first | assumption | omega | (simp; done))) ?_ | refine DL.as (t := 15) (v := .bool false) rfl rfl ?_
    refine DL.gskip rfl rfl rfl rfl rfl ?_
    refine DL.gskip rfl rfl rfl rfl rfl ?_
    refine DL.gskip rfl rfl rfl rfl rfl ?_
    refine DL.gskip rfl rfl rfl rfl rfl ?_
    refine DL.gskip1 rfl rfl rfl rfl rfl ?_
    refine DL.q rfl Yld.pk rfl ?_
    refine DL.q rfl (Yld.move rfl) rfl ?_
    first | refine DL.as (t := 22) rfl (boolF (by first | assumption | omega | (simp; done))) ?_ | refine DL.as (t := 22) (v := .bool false) rfl rfl ?_
    refine DL.gskip rfl rfl rfl rfl rfl ?_
    refine DL.gskip rfl rfl rfl rfl rfl ?_
    refine DL.gskip rfl rfl rfl rfl rfl ?_
    refine DL.gskip rfl rfl rfl rfl rfl ?_
    refine DL.gskip1 rfl rfl rfl rfl rfl ?_
    refine DL.gskip1 rfl rfl rfl rfl rfl ?_
    refine DL.q rfl Yld.pk rfl ?_
    refine DL.q rfl (Yld.assign rfl) rfl ?_
    refine DL.done ?_
    refine N.next ?_
    refine W.keep (.of [4] rfl) (.of [0, 1, 102, 103, 105, 140] rfl) ?_
    refine W.ret ?_
    exact N.retBy [1] (.cons (.tmp rfl) .nil) rfl rfl rfl rfl ⟨by rw [hrl]; rfl, rfl⟩
   ·
    refine DL.one rfl (Eff.alloc 105 zc176) rfl (by rintro _ _ ⟨b5, rfl, rfl⟩; repeat (first | exact .nil | refine .cons rfl ?_)) ?_
    rintro _ _ ⟨b5, rfl, rfl⟩
    refine DL.one rfl (Yld.eff (Yld.eq (v' := .tuple [.agg [.nilFunc, .nilFunc].toArray, .bool false].toArray) (Yld.lookupOk (c := 140) Tryz.underlying178 (keyInt Tryz.underlying3) zv176 rfl rfl rfl (by assumption)) (by unfold formsM; rw [mget_mset, mget_mset, mget_mset, mget_mset, mget_mset, mget_mset, mget_mset, if_neg (show ¬ (6 : Int) = x.kd by omega), if_neg (show ¬ (5 : Int) = x.kd by omega), if_neg (show ¬ (4 : Int) = x.kd by omega), if_neg (show ¬ (3 : Int) = x.kd by omega), if_neg (show ¬ (2 : Int) = x.kd by omega), if_neg (show ¬ (1 : Int) = x.kd by omega), if_neg (show ¬ (0 : Int) = x.kd by omega)]; rfl))) rfl (by rintro _ _ ⟨rfl, rfl⟩; repeat (first | exact .nil | refine .cons rfl ?_)) ?_
    rintro _ _ ⟨rfl, rfl⟩
    refine DL.q rfl (Yld.move rfl) rfl ?_
    refine DL.q rfl (Yld.extract rfl rfl) rfl ?_
    refine DL.q rfl (Yld.extract rfl rfl) rfl ?_
    refine DL.one0 rfl (Eff.storeS (c := 105) _ sz176 rfl rfl rfl rfl rfl rfl rfl (by (try simp only [putAt, List.take, List.drop, List.nil_append, List.cons_append, List.append_nil, List.length_cons, List.length_nil, Nat.add_zero, Nat.zero_add, Nat.reduceAdd]); rfl)) (by rintro _ _ rfl; repeat (first | exact .nil | refine .cons rfl ?_)) ?_
    rintro _ _ rfl
    refine DL.q rfl (Yld.assign rfl) rfl ?_
    refine DL.done ?_
    refine N.next ?_
    refine W.keep (.of [2, 3, 5, 6] rfl) (.of [0, 1, 102, 103, 105, 140] rfl) ?_
    refine W.seq ?_
    refine W.draw (.q 0 (.q 1 (.q 2 (.q 3 (.q 4 (.q 5 (.one 6 (.q 7 (.q 8 (.q 9 (.q 10 (.q 11 (.q 12 (.one 13 (.one 14 (.q 15 (.q 16 .done))))))))))))))))) (.of [0, 102, 103, 105, 140] rfl) mix (by kernel_rfl) (by kernel_rfl) ?_
    refine DL.q rfl (Yld.move rfl) rfl ?_
    refine DL.q rfl (Yld.move rfl) rfl ?_
    first | refine DL.as (t := 15) rfl (boolF (by first | assumption | omega | (simp; done))) ?_ | refine DL.as (t := 15) (v := .bool false) rfl rfl ?_
    refine DL.gskip rfl rfl rfl rfl rfl ?_
    refine DL.gskip rfl rfl rfl rfl rfl ?_
    refine DL.gskip rfl rfl rfl rfl rfl ?_
    refine DL.gskip rfl rfl rfl rfl rfl ?_
    refine DL.gskip1 rfl rfl rfl rfl rfl ?_
    refine DL.q rfl Yld.pk rfl ?_
    refine DL.q rfl (Yld.move rfl) rfl ?_
    first | refine DL.as (t := 22) rfl (boolF (by first | assumption | omega | (simp; done))) ?_ | refine DL.as (t := 22) (v := .bool false) rfl rfl ?_
    refine DL.gskip rfl rfl rfl rfl rfl ?_
    refine DL.gskip rfl rfl rfl rfl rfl ?_
    refine DL.gskip rfl rfl rfl rfl rfl ?_
    refine DL.gskip rfl rfl rfl rfl rfl ?_
    refine DL.gskip1 rfl rfl rfl rfl rfl ?_
    refine DL.gskip1 rfl rfl rfl rfl rfl ?_
    refine DL.q rfl Yld.pk rfl ?_
    refine DL.q rfl (Yld.assign rfl) rfl ?_
    refine DL.done ?_
    refine N.next ?_
    refine W.keep (.of [4] rfl) (.of [0, 1, 102, 103, 105, 140] rfl) ?_
    refine W.ret ?_
    exact N.retBy [1] (.cons (.tmp rfl) .nil) rfl rfl rfl rfl ⟨by rw [hrl]; rfl, rfl⟩
  ·
   refine DL.one rfl (Eff.alloc 105 zc176) rfl (by rintro _ _ ⟨b5, rfl, rfl⟩; repeat (first | exact .nil | refine .cons rfl ?_)) ?_
   rintro _ _ ⟨b5, rfl, rfl⟩
   refine DL.one rfl (Eff.call ent129 [] [140] .nil forms_ct rfl rfl rfl rfl (by rintro _ _ ⟨_, _, _, _, _, rfl⟩; rfl)) rfl (by rintro _ _ ⟨_, ⟨bm, esm, ckm, rfl, hMf, rfl⟩, rfl⟩; repeat (first | exact .nil | refine .cons rfl ?_)) ?_
   rintro _ _ ⟨_, ⟨bm, esm, ckm, rfl, hMf, rfl⟩, rfl⟩
   refine DL.one rfl (Yld.eff (Yld.eq (v' := .tuple [.agg [.nilFunc, .nilFunc].toArray, .bool false].toArray) (Yld.lookupOk (c := 140) Tryz.underlying178 (keyInt Tryz.underlying3) zv176 rfl rfl rfl (by assumption)) (by unfold formsM; rw [mget_mset, mget_mset, mget_mset, mget_mset, mget_mset, mget_mset, mget_mset, if_neg (show ¬ (6 : Int) = x.kd by omega), if_neg (show ¬ (5 : Int) = x.kd by omega), if_neg (show ¬ (4 : Int) = x.kd by omega), if_neg (show ¬ (3 : Int) = x.kd by omega), if_neg (show ¬ (2 : Int) = x.kd by omega), if_neg (show ¬ (1 : Int) = x.kd by omega), if_neg (show ¬ (0 : Int) = x.kd by omega)]; rfl))) rfl (by rintro _ _ ⟨rfl, rfl⟩; repeat (first | exact .nil | refine .cons rfl ?_)) ?_
   rintro _ _ ⟨rfl, rfl⟩
   refine DL.q rfl (Yld.move rfl) rfl ?_
   refine DL.q rfl (Yld.extract rfl rfl) rfl ?_
   refine DL.q rfl (Yld.extract rfl rfl) rfl ?_
   refine DL.one0 rfl (Eff.storeS (c := 105) _ sz176 rfl rfl rfl rfl rfl rfl rfl (by (try simp only [putAt, List.take, List.drop, List.nil_append, List.cons_append, List.append_nil, List.length_cons, List.length_nil, Nat.add_zero, Nat.zero_add, Nat.reduceAdd]); rfl)) (by rintro _ _ rfl; repeat (first | exact .nil | refine .cons rfl ?_)) ?_
   rintro _ _ rfl
   refine DL.q rfl (Yld.assign rfl) rfl ?_
   refine DL.done ?_
   refine N.next ?_
   refine W.keep (.of [2, 3, 5, 6] rfl) (.of [0, 1, 102, 103, 105, 140] rfl) ?_
   refine W.seq ?_
   refine W.draw (.q 0 (.q 1 (.q 2 (.q 3 (.q 4 (.q 5 (.one 6 (.q 7 (.q 8 (.q 9 (.q 10 (.q 11 (.q 12 (.one 13 (.one 14 (.q 15 (.q 16 .done))))))))))))))))) (.of [0, 102, 103, 105, 140] rfl) mix (by kernel_rfl) (by kernel_rfl) ?_
   refine DL.q rfl (Yld.move rfl) rfl ?_
   refine DL.q rfl (Yld.move rfl) rfl ?_
   first | refine DL.as (t := 15) rfl (boolF (by first | assumption | omega | (simp; done))) ?_ | refine DL.as (t := 15) (v := .bool false) rfl rfl ?_
   refine DL.gskip rfl rfl rfl rfl rfl ?_
   refine DL.gskip rfl rfl rfl rfl rfl ?_
   refine DL.gskip rfl rfl rfl rfl rfl ?_
   refine DL.gskip rfl rfl rfl rfl rfl ?_
   refine DL.gskip1 rfl rfl rfl rfl rfl ?_
   refine DL.q rfl Yld.pk rfl ?_
   refine DL.q rfl (Yld.move rfl) rfl ?_
   first | refine DL.as (t := 22) rfl (boolF (by first | assumption | omega | (simp; done))) ?_ | refine DL.as (t := 22) (v := .bool false) rfl rfl ?_
   refine DL.gskip rfl rfl rfl rfl rfl ?_
   refine DL.gskip rfl rfl rfl rfl rfl ?_
   refine DL.gskip rfl rfl rfl rfl rfl ?_
   refine DL.gskip rfl rfl rfl rfl rfl ?_
   refine DL.gskip1 rfl rfl rfl rfl rfl ?_
   refine DL.gskip1 rfl rfl rfl rfl rfl ?_
   refine DL.q rfl Yld.pk rfl ?_
   refine DL.q rfl (Yld.assign rfl) rfl ?_
   refine DL.done ?_
   refine N.next ?_
   refine W.keep (.of [4] rfl) (.of [0, 1, 102, 103, 105, 140] rfl) ?_
   refine W.ret ?_
   exact N.retBy [1] (.cons (.tmp rfl) .nil) rfl rfl rfl rfl ⟨by rw [hrl]; rfl, rfl⟩

theorem validRule0_ct (m : Md) (H1 : PH) (hM : m.In H1) (x : Rl) (hms : Sl H1 x.pm x.cm 1 (iz x.ms)) (hk : x.kd = 0) : Ct Tryz.prog 75 [.agg [.slice m.psi m.si.length m.csi, .slice m.pfe m.fe.length m.cfe, .slice m.prk m.rk.length m.crk, .slice m.pmc m.mc.length m.cmc, .slice m.pln m.ln.length m.cln, .slice m.pis m.is.length m.cis, .int .i64 m.da, .int .i64 m.sl, .int .i64 m.re, .int .i64 m.fa, .slice m.prl m.rl.length m.crl].toArray, .agg [.int .i64 x.kd, .int .i64 x.it, .int .i64 x.ot, .int .i64 x.n, .int .i64 x.bq, .bool x.al, .slice x.pm x.ms.length x.cm].toArray] [H1] (fun v Hs => v = .bool (rlB m x) ∧ Hs = [H1]) := by
  have hok : okV m x = (decide (InR x.it 1 m.is.length) && decide (kdOf m x.it = 0)) := by unfold okV; rw [if_pos hk]
  have hon : onlyV x = ⟨0, x.it, 0, 0, 0, false, none, [], 0⟩ := by unfold onlyV; rw [if_pos hk]
  have hrl : rlB m x = (okV m x && sameV x (onlyV x)) := by unfold rlB; rw [decide_eq_true (show 0 ≤ x.kd ∧ x.kd ≤ 6 by omega)]; rfl
  exact validRuleG_ct m H1 hM x hms 166 168 _ ⟨0, x.it, 0, 0, 0, false, none, [], 0⟩ ent166 ent168 (rok0_ct m H1 hM x hms) (ron0_ct x) (sl_nil1 H1) (by unfold formsM; rw [mget_mset, mget_mset, mget_mset, mget_mset, mget_mset, mget_mset, mget_mset]; simp [hk]) (by rw [hrl, hok, hon])

theorem validRule1_ct (m : Md) (H1 : PH) (hM : m.In H1) (x : Rl) (hms : Sl H1 x.pm x.cm 1 (iz x.ms)) (hk : x.kd = 1) : Ct Tryz.prog 75 [.agg [.slice m.psi m.si.length m.csi, .slice m.pfe m.fe.length m.cfe, .slice m.prk m.rk.length m.crk, .slice m.pmc m.mc.length m.cmc, .slice m.pln m.ln.length m.cln, .slice m.pis m.is.length m.cis, .int .i64 m.da, .int .i64 m.sl, .int .i64 m.re, .int .i64 m.fa, .slice m.prl m.rl.length m.crl].toArray, .agg [.int .i64 x.kd, .int .i64 x.it, .int .i64 x.ot, .int .i64 x.n, .int .i64 x.bq, .bool x.al, .slice x.pm x.ms.length x.cm].toArray] [H1] (fun v Hs => v = .bool (rlB m x) ∧ Hs = [H1]) := by
  have hok : okV m x = (decide (InR x.it 1 m.is.length) && decide (InR x.n 0 16)) := by unfold okV; rw [if_neg (show ¬ x.kd = 0 by omega), if_pos hk]
  have hon : onlyV x = ⟨0, x.it, 0, x.n, 0, x.al, none, [], 0⟩ := by unfold onlyV; rw [if_neg (show ¬ x.kd = 0 by omega), if_pos hk]
  have hrl : rlB m x = (okV m x && sameV x (onlyV x)) := by unfold rlB; rw [decide_eq_true (show 0 ≤ x.kd ∧ x.kd ≤ 6 by omega)]; rfl
  exact validRuleG_ct m H1 hM x hms 169 170 _ ⟨0, x.it, 0, x.n, 0, x.al, none, [], 0⟩ ent169 ent170 (rok1_ct m H1 hM x hms) (ron1_ct x) (sl_nil1 H1) (by unfold formsM; rw [mget_mset, mget_mset, mget_mset, mget_mset, mget_mset, mget_mset, mget_mset]; simp [hk]) (by rw [hrl, hok, hon])

theorem validRule2_ct (m : Md) (H1 : PH) (hM : m.In H1) (x : Rl) (hms : Sl H1 x.pm x.cm 1 (iz x.ms)) (hk : x.kd = 2) : Ct Tryz.prog 75 [.agg [.slice m.psi m.si.length m.csi, .slice m.pfe m.fe.length m.cfe, .slice m.prk m.rk.length m.crk, .slice m.pmc m.mc.length m.cmc, .slice m.pln m.ln.length m.cln, .slice m.pis m.is.length m.cis, .int .i64 m.da, .int .i64 m.sl, .int .i64 m.re, .int .i64 m.fa, .slice m.prl m.rl.length m.crl].toArray, .agg [.int .i64 x.kd, .int .i64 x.it, .int .i64 x.ot, .int .i64 x.n, .int .i64 x.bq, .bool x.al, .slice x.pm x.ms.length x.cm].toArray] [H1] (fun v Hs => v = .bool (rlB m x) ∧ Hs = [H1]) := by
  have hok : okV m x = (decide (InR x.it 1 m.is.length) && decide (InR x.n 0 16) && decide (x.bq ∈ [(2 : Int), 3, 4])) := by unfold okV; rw [if_neg (show ¬ x.kd = 0 by omega), if_neg (show ¬ x.kd = 1 by omega), if_pos hk]
  have hon : onlyV x = ⟨0, x.it, 0, x.n, x.bq, false, none, [], 0⟩ := by unfold onlyV; rw [if_neg (show ¬ x.kd = 0 by omega), if_neg (show ¬ x.kd = 1 by omega), if_pos hk]
  have hrl : rlB m x = (okV m x && sameV x (onlyV x)) := by unfold rlB; rw [decide_eq_true (show 0 ≤ x.kd ∧ x.kd ≤ 6 by omega)]; rfl
  exact validRuleG_ct m H1 hM x hms 171 172 _ ⟨0, x.it, 0, x.n, x.bq, false, none, [], 0⟩ ent171 ent172 (rok2_ct m H1 hM x hms) (ron2_ct x) (sl_nil1 H1) (by unfold formsM; rw [mget_mset, mget_mset, mget_mset, mget_mset, mget_mset, mget_mset, mget_mset]; simp [hk]) (by rw [hrl, hok, hon])

theorem validRule3_ct (m : Md) (H1 : PH) (hM : m.In H1) (x : Rl) (hms : Sl H1 x.pm x.cm 1 (iz x.ms)) (hk : x.kd = 3) : Ct Tryz.prog 75 [.agg [.slice m.psi m.si.length m.csi, .slice m.pfe m.fe.length m.cfe, .slice m.prk m.rk.length m.crk, .slice m.pmc m.mc.length m.cmc, .slice m.pln m.ln.length m.cln, .slice m.pis m.is.length m.cis, .int .i64 m.da, .int .i64 m.sl, .int .i64 m.re, .int .i64 m.fa, .slice m.prl m.rl.length m.crl].toArray, .agg [.int .i64 x.kd, .int .i64 x.it, .int .i64 x.ot, .int .i64 x.n, .int .i64 x.bq, .bool x.al, .slice x.pm x.ms.length x.cm].toArray] [H1] (fun v Hs => v = .bool (rlB m x) ∧ Hs = [H1]) := by
  have hok : okV m x = (decide (InR x.it 1 m.is.length) && pB (MsV m.mc.length x.ms)) := by unfold okV; rw [if_neg (show ¬ x.kd = 0 by omega), if_neg (show ¬ x.kd = 1 by omega), if_neg (show ¬ x.kd = 2 by omega), if_pos hk]
  have hon : onlyV x = ⟨0, x.it, 0, 0, 0, false, x.pm, x.ms, x.cm⟩ := by unfold onlyV; rw [if_neg (show ¬ x.kd = 0 by omega), if_neg (show ¬ x.kd = 1 by omega), if_neg (show ¬ x.kd = 2 by omega), if_pos hk]
  have hrl : rlB m x = (okV m x && sameV x (onlyV x)) := by unfold rlB; rw [decide_eq_true (show 0 ≤ x.kd ∧ x.kd ≤ 6 by omega)]; rfl
  exact validRuleG_ct m H1 hM x hms 173 174 _ ⟨0, x.it, 0, 0, 0, false, x.pm, x.ms, x.cm⟩ ent173 ent174 (rok3_ct m H1 hM x hms) (ron3_ct x) hms (by unfold formsM; rw [mget_mset, mget_mset, mget_mset, mget_mset, mget_mset, mget_mset, mget_mset]; simp [hk]) (by rw [hrl, hok, hon])

theorem validRule4_ct (m : Md) (H1 : PH) (hM : m.In H1) (x : Rl) (hms : Sl H1 x.pm x.cm 1 (iz x.ms)) (hk : x.kd = 4) : Ct Tryz.prog 75 [.agg [.slice m.psi m.si.length m.csi, .slice m.pfe m.fe.length m.cfe, .slice m.prk m.rk.length m.crk, .slice m.pmc m.mc.length m.cmc, .slice m.pln m.ln.length m.cln, .slice m.pis m.is.length m.cis, .int .i64 m.da, .int .i64 m.sl, .int .i64 m.re, .int .i64 m.fa, .slice m.prl m.rl.length m.crl].toArray, .agg [.int .i64 x.kd, .int .i64 x.it, .int .i64 x.ot, .int .i64 x.n, .int .i64 x.bq, .bool x.al, .slice x.pm x.ms.length x.cm].toArray] [H1] (fun v Hs => v = .bool (rlB m x) ∧ Hs = [H1]) := by
  have hok : okV m x = (decide (InR x.it 1 m.is.length) && decide (InR x.ot 1 m.is.length) && decide (x.it ≠ x.ot)) := by unfold okV; rw [if_neg (show ¬ x.kd = 0 by omega), if_neg (show ¬ x.kd = 1 by omega), if_neg (show ¬ x.kd = 2 by omega), if_neg (show ¬ x.kd = 3 by omega), if_pos hk]
  have hon : onlyV x = ⟨0, x.it, x.ot, 0, 0, false, none, [], 0⟩ := by unfold onlyV; rw [if_neg (show ¬ x.kd = 0 by omega), if_neg (show ¬ x.kd = 1 by omega), if_neg (show ¬ x.kd = 2 by omega), if_neg (show ¬ x.kd = 3 by omega), if_pos hk]
  have hrl : rlB m x = (okV m x && sameV x (onlyV x)) := by unfold rlB; rw [decide_eq_true (show 0 ≤ x.kd ∧ x.kd ≤ 6 by omega)]; rfl
  exact validRuleG_ct m H1 hM x hms 175 176 _ ⟨0, x.it, x.ot, 0, 0, false, none, [], 0⟩ ent175 ent176 (rok4_ct m H1 hM x hms) (ron4_ct x) (sl_nil1 H1) (by unfold formsM; rw [mget_mset, mget_mset, mget_mset, mget_mset, mget_mset, mget_mset, mget_mset]; simp [hk]) (by rw [hrl, hok, hon])

theorem validRule5_ct (m : Md) (H1 : PH) (hM : m.In H1) (x : Rl) (hms : Sl H1 x.pm x.cm 1 (iz x.ms)) (hk : x.kd = 5) : Ct Tryz.prog 75 [.agg [.slice m.psi m.si.length m.csi, .slice m.pfe m.fe.length m.cfe, .slice m.prk m.rk.length m.crk, .slice m.pmc m.mc.length m.cmc, .slice m.pln m.ln.length m.cln, .slice m.pis m.is.length m.cis, .int .i64 m.da, .int .i64 m.sl, .int .i64 m.re, .int .i64 m.fa, .slice m.prl m.rl.length m.crl].toArray, .agg [.int .i64 x.kd, .int .i64 x.it, .int .i64 x.ot, .int .i64 x.n, .int .i64 x.bq, .bool x.al, .slice x.pm x.ms.length x.cm].toArray] [H1] (fun v Hs => v = .bool (rlB m x) ∧ Hs = [H1]) := by
  have hok : okV m x = (decide (InR x.n 0 200)) := by unfold okV; rw [if_neg (show ¬ x.kd = 0 by omega), if_neg (show ¬ x.kd = 1 by omega), if_neg (show ¬ x.kd = 2 by omega), if_neg (show ¬ x.kd = 3 by omega), if_neg (show ¬ x.kd = 4 by omega), if_pos hk]
  have hon : onlyV x = ⟨0, 0, 0, x.n, 0, false, none, [], 0⟩ := by unfold onlyV; rw [if_neg (show ¬ x.kd = 0 by omega), if_neg (show ¬ x.kd = 1 by omega), if_neg (show ¬ x.kd = 2 by omega), if_neg (show ¬ x.kd = 3 by omega), if_neg (show ¬ x.kd = 4 by omega), if_pos hk]
  have hrl : rlB m x = (okV m x && sameV x (onlyV x)) := by unfold rlB; rw [decide_eq_true (show 0 ≤ x.kd ∧ x.kd ≤ 6 by omega)]; rfl
  exact validRuleG_ct m H1 hM x hms 177 178 _ ⟨0, 0, 0, x.n, 0, false, none, [], 0⟩ ent177 ent178 (rok5_ct m H1 hM x hms) (ron5_ct x) (sl_nil1 H1) (by unfold formsM; rw [mget_mset, mget_mset, mget_mset, mget_mset, mget_mset, mget_mset, mget_mset]; simp [hk]) (by rw [hrl, hok, hon])

theorem validRule6_ct (m : Md) (H1 : PH) (hM : m.In H1) (x : Rl) (hms : Sl H1 x.pm x.cm 1 (iz x.ms)) (hk : x.kd = 6) : Ct Tryz.prog 75 [.agg [.slice m.psi m.si.length m.csi, .slice m.pfe m.fe.length m.cfe, .slice m.prk m.rk.length m.crk, .slice m.pmc m.mc.length m.cmc, .slice m.pln m.ln.length m.cln, .slice m.pis m.is.length m.cis, .int .i64 m.da, .int .i64 m.sl, .int .i64 m.re, .int .i64 m.fa, .slice m.prl m.rl.length m.crl].toArray, .agg [.int .i64 x.kd, .int .i64 x.it, .int .i64 x.ot, .int .i64 x.n, .int .i64 x.bq, .bool x.al, .slice x.pm x.ms.length x.cm].toArray] [H1] (fun v Hs => v = .bool (rlB m x) ∧ Hs = [H1]) := by
  have hok : okV m x = (decide (InR x.it 1 m.is.length) && decide (InR x.n 0 16)) := by unfold okV; rw [if_neg (show ¬ x.kd = 0 by omega), if_neg (show ¬ x.kd = 1 by omega), if_neg (show ¬ x.kd = 2 by omega), if_neg (show ¬ x.kd = 3 by omega), if_neg (show ¬ x.kd = 4 by omega), if_neg (show ¬ x.kd = 5 by omega)]
  have hon : onlyV x = ⟨0, x.it, 0, x.n, 0, false, none, [], 0⟩ := by unfold onlyV; rw [if_neg (show ¬ x.kd = 0 by omega), if_neg (show ¬ x.kd = 1 by omega), if_neg (show ¬ x.kd = 2 by omega), if_neg (show ¬ x.kd = 3 by omega), if_neg (show ¬ x.kd = 4 by omega), if_neg (show ¬ x.kd = 5 by omega)]
  have hrl : rlB m x = (okV m x && sameV x (onlyV x)) := by unfold rlB; rw [decide_eq_true (show 0 ≤ x.kd ∧ x.kd ≤ 6 by omega)]; rfl
  exact validRuleG_ct m H1 hM x hms 179 180 _ ⟨0, x.it, 0, x.n, 0, false, none, [], 0⟩ ent179 ent180 (rok6_ct m H1 hM x hms) (ron6_ct x) (sl_nil1 H1) (by unfold formsM; rw [mget_mset, mget_mset, mget_mset, mget_mset, mget_mset, mget_mset, mget_mset]; simp [hk]) (by rw [hrl, hok, hon])

theorem validRule_ct (m : Md) (H1 : PH) (hM : m.In H1) (x : Rl) (hms : Sl H1 x.pm x.cm 1 (iz x.ms)) : Ct Tryz.prog 75 [.agg [.slice m.psi m.si.length m.csi, .slice m.pfe m.fe.length m.cfe, .slice m.prk m.rk.length m.crk, .slice m.pmc m.mc.length m.cmc, .slice m.pln m.ln.length m.cln, .slice m.pis m.is.length m.cis, .int .i64 m.da, .int .i64 m.sl, .int .i64 m.re, .int .i64 m.fa, .slice m.prl m.rl.length m.crl].toArray, .agg [.int .i64 x.kd, .int .i64 x.it, .int .i64 x.ot, .int .i64 x.n, .int .i64 x.bq, .bool x.al, .slice x.pm x.ms.length x.cm].toArray] [H1] (fun v Hs => v = .bool (rlB m x) ∧ Hs = [H1]) := by
  by_cases h0 : x.kd = 0
  · exact validRule0_ct m H1 hM x hms h0
  by_cases h1 : x.kd = 1
  · exact validRule1_ct m H1 hM x hms h1
  by_cases h2 : x.kd = 2
  · exact validRule2_ct m H1 hM x hms h2
  by_cases h3 : x.kd = 3
  · exact validRule3_ct m H1 hM x hms h3
  by_cases h4 : x.kd = 4
  · exact validRule4_ct m H1 hM x hms h4
  by_cases h5 : x.kd = 5
  · exact validRule5_ct m H1 hM x hms h5
  by_cases h6 : x.kd = 6
  · exact validRule6_ct m H1 hM x hms h6
  exact validRule7_ct m H1 hM x hms (by omega)

end Go.Proofs.YtboapdcmaeojgaaGreatDoor
