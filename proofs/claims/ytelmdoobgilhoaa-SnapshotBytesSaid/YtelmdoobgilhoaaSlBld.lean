/-
  What strings.Builder does: a row of bytes whose head may be frozen.
-/
import Derived.Test.YtelmdoobgilhoaaSlByt
import Derived.Lib.FrozenHead
import Derived.Lib.Builder
import Derived.Laws.Externs
namespace Go.Proofs.Ytelmdoobgilhoaa.SL
set_option linter.unusedVariables false
section
variable {X : Cx} {σ : Loc} {L : Sh} {ty : TypeId} {x y z : Operand}
def bv (l : List Int) : List Value := l.map fun z => Value.int .u8 z
def OwnF (H : PH) (p : Option Addr) (c e : Nat) (l : List Int) : Prop :=
  l.length ≤ c ∧ c ≤ maxLen ∧ match p with
  | none => l = [] ∧ c = 0 ∧ H = emp
  | some a => a.off = 0 ∧ a.spot = none ∧ 0 < c ∧ ∃ sp fz, H = single a.block (.cells (bv l ++ sp).toArray e fz) ∧ fz.2 ≤ l.length ∧ l.length + sp.length = c
theorem OwnF.nil (e : Nat) : OwnF emp none 0 e [] := ⟨Nat.le_refl _, by simp [maxLen], rfl, rfl, rfl⟩
theorem bv_len (l : List Int) : (bv l).length = l.length := by simp [bv]
theorem bv_app (l m : List Int) : bv (l ++ m) = bv l ++ bv m := by simp [bv]
theorem bv_str (s : ByteArray) : Lib.strCells s = bv (strZ s) := by unfold bv strZ Lib.strCells; rw [List.map_map]; rfl
/-- 'append(b, s...)' -/
theorem Eff.appendStrF {T Tn e tc : Nat} {p : Option Addr} {c len1 : Nat} {H : PH} {l : List Int} {s : ByteArray} (ht : X.P.underlying T = some (.slice e)) (htn : X.P.underlying Tn = some .string) (he : (X.P.info? e).map (fun i => (i.zero, i.size, i.bytes)) = some (some (.int .u8 0), 1, 1))
    (hx : ev σ x = some (.slice p len1 c)) (hy : ev σ y = some (.string s)) (hL : lk L tc = some H) (hO : OwnF H p c e l) (hl1 : len1 = l.length) (hmax : l.length + s.size ≤ 140737488355328) :
    Eff X (.call { callee := .builtin .append, args := #[x, y], argTypes := #[T, Tn] }) ty σ L (fun v L' => ∃ H' p' c', v = .slice p' (l ++ strZ s).length c' ∧ OwnF H' p' c' e (l ++ strZ s) ∧ L' = (tc, H') :: L) := fun a w ha hm o ho hty K Q hK => by
  subst hl1
  obtain ⟨i, hi, hz1, hz2, hz3⟩ : ∃ i, X.P.info? e = some i ∧ i.zero = some (.int .u8 0) ∧ i.size = 1 ∧ i.bytes = 1 := by
    cases h : X.P.info? e with
    | none => rw [h] at he; cases he
    | some i => rw [h] at he; simp at he; exact ⟨i, rfl, he.1, he.2.1, he.2.2⟩
  have hmx : l.length + s.size ≤ maxLen := by simp only [maxLen]; omega
  have hn : (l ++ strZ s).length = l.length + s.size := by rw [List.length_append, strZ_len]
  have hex : ∀ v w', (Builtin.append_ #[T, Tn] ty #[.slice p l.length c, .string s]).run X.P w = .ok v w' → (execOp a.eval o).run X.P w = .ok (.value v) w' := fun v w' hr => by
    simp only [execOp, ho, resolve, Sem.run_bind, Sem.run_pure, Result.andThen_ok, invoke, builtin, eval2 hx hy a ha, hty]
    rw [hr]; rfl
  have key : ∀ (g cap : Nat) (cur : Array Value) (fz : Nat × Nat) w', (Builtin.append_ #[T, Tn] ty #[.slice p l.length c, .string s]).run X.P w = .ok (.slice (some ⟨g, 0, none⟩) (l.length + s.size) cap) w' → w.grownBy w' (Value.ownBlock (.slice p l.length c)) → w'.heap[g]? = some (.cells cur e fz) → fz.2 ≤ l.length + s.size →
      l.length + s.size ≤ cap → cap ≤ maxLen → cur.size = cap → cur.toList.take (l.length + s.size) = bv l ++ Lib.strCells s → 0 < cap → ((∃ q, p = some q ∧ q.block = g) ∨ w.heap.size ≤ g) → o.wp X.P a w K Q := by
    intro g cap cur fz w' hr hg hh hfz hc1 hc2 hc3 htk hc0 hblk
    unfold Oper.wp
    rw [hex _ _ hr]
    have e1 : cur = (bv (l ++ strZ s) ++ cur.toList.drop (l.length + s.size)).toArray := by
      rw [bv_app, ← bv_str, ← htk, List.take_append_drop]
    refine hK _ _ w' ⟨single g (.cells cur e fz), some ⟨g, 0, none⟩, cap, by rw [hn], ⟨by rw [hn]; exact hc1, hc2, rfl, rfl, hc0, _, fz, by rw [← e1], by rw [hn]; exact hfz, by have hcl : cur.toList.length = cur.size := Array.length_toList; rw [List.length_append, strZ_len, List.length_drop, hcl]; omega⟩, rfl⟩ ?_
    refine hm.set tc (.inl hL) ⟨hg.os, hg.output, hg.size, fun b hb hD => hg.block b hb fun e => hD ?_⟩ (fun b x hb => by obtain ⟨rfl, rfl⟩ := single_inv hb; exact hh) fun b x hb => ?_
    · cases p with
      | none => simp [Value.ownBlock] at e
      | some a' =>
        simp [Value.ownBlock] at e
        obtain ⟨_, _, _, _, _, sp, fz', rfl, _⟩ := hO
        exact ⟨_, by rw [e]; exact single_self _ _⟩
    · obtain ⟨rfl, rfl⟩ := single_inv hb
      rcases hblk with ⟨q, rfl, rfl⟩ | h
      · obtain ⟨_, _, _, _, _, sp, fz', rfl, _⟩ := hO
        exact .inl ⟨_, single_self _ _⟩
      · exact .inr h
  obtain ⟨o1, o2, o3⟩ := hO
  cases p with
  | none =>
    obtain ⟨rfl, rfl, rfl⟩ := o3
    obtain ⟨v', w', hr, hown, hg, hnil⟩ := Lib.run_append_own_string (P := X.P) w w.heap.size T Tn ty e i ht htn hi hz1 hz2 hz3 (.slice none 0 0) 0 [] (World.ownsRow_nil w _ e 1) s (by simpa using hmx) (by simpa using hmax) (Nat.le_refl _)
    by_cases h0 : s.size = 0
    · obtain rfl := hnil.2 ⟨rfl, h0⟩
      unfold Oper.wp
      rw [hex _ _ hr]
      have hz : strZ s = [] := List.eq_nil_of_length_eq_zero (by rw [strZ_len]; exact h0)
      refine hK _ _ w' ⟨emp, none, 0, by rw [hz]; rfl, by rw [hz]; exact OwnF.nil e, rfl⟩ ?_
      exact hm.set tc (.inl hL) ⟨hg.os, hg.output, hg.size, fun b hb hD => hg.block b hb (by simp [Value.ownBlock])⟩ (fun b x hb => by cases hb) fun b x hb => by cases hb
    · rcases hown.2 with ⟨h1, h2⟩ | ⟨g, cap, cur, hv, hbg, hgh, h3, h4, h5, h6⟩
      · omega
      · subst hv
        exact key g cap cur (0, 0) w' (by simpa using hr) hg hgh (Nat.zero_le _) (by simpa using h3) h4 (by simpa using h5) (by simpa [bv] using h6) (by omega) (.inr hbg)
  | some q =>
    obtain ⟨q1, q2, q3, sp, fz, rfl, q4, q5⟩ := o3
    obtain ⟨b, q6, q7⟩ := q
    simp only at q1 q2
    subst q1; subst q2
    have hb : w.heap[b]? = some (.cells (bv l ++ sp).toArray e fz) := hm.sub _ _ hL b _ (single_self _ _)
    have hsz : (bv l ++ sp).length = c := by rw [List.length_append, bv_len]; exact q5
    have hown : w.ownsRowF 0 e 1 (.slice (some ⟨b, 0, none⟩) l.length c) l.length (bv l) := ⟨by rw [bv_len]; omega, .inr ⟨b, c, _, fz, rfl, Nat.zero_le _, hb, by omega, o1, o2, by simpa using hsz, by simp [← bv_len l]⟩⟩
    obtain ⟨v', w', hr, hown', hg, _⟩ := Lib.run_append_own_stringF (P := X.P) w 0 T Tn ty e i ht htn hi hz1 hz2 hz3 _ _ _ hown s hmx hmax (Nat.zero_le _)
    by_cases hroom : l.length + s.size ≤ c
    · have hr2 := Lib.run_append_room_stringF (P := X.P) w T Tn ty e i ht htn hi hz2 b l.length c _ fz hb q4 s hroom (by simp only [List.size_toArray, hsz]; exact hroom)
      rw [hr] at hr2
      injection hr2 with e1 e2
      subst e1
      rcases hown'.2 with ⟨h1, h2⟩ | ⟨g, cap, cur, fz', hv, _, hgh, h2, h3, h4, h5, h6⟩
      · cases h1
      · injection hv with ha _ hcap
        injection ha with ha
        injection ha with hgg _ _
        subst hgg; subst hcap
        exact key b c cur fz' w' hr hg hgh (by simpa using h2) h3 h4 (by simpa using h5) (by simpa using h6) q3 (.inl ⟨_, rfl, rfl⟩)
    · have holds : ∀ j u, (bv l)[j]? = some u → w.cell? ((⟨b, 0, none⟩ : Addr).add j) = some u := hown.cells (g := b) rfl
      have hr2 := Lib.run_append_grow_string (P := X.P) w T Tn ty e i (.int .u8 0) ht htn hi hz1 ⟨b, 0, none⟩ l.length c (bv l) (by rw [hz2, bv_len]; omega) holds s (by omega) (by omega) (by rw [hz3]; exact growslice_fits (by omega) (by omega))
      have hr3 := hr
      rw [hr] at hr2
      injection hr2 with e1 e2
      subst e1
      rcases hown'.2 with ⟨h1, h2⟩ | ⟨g, cap, cur, fz', hv, _, hgh, h2, h3, h4, h5, h6⟩
      · cases h1
      · injection hv with ha _ hcap
        injection ha with ha
        injection ha with hgg _ _
        subst hgg; subst hcap
        exact key _ _ cur fz' w' hr3 hg hgh (by simpa using h2) h3 h4 (by simpa using h5) (by simpa using h6) (by omega) (.inr (Nat.le_refl _))
/-- 'unsafe.SliceData(b)' -/
theorem Yld.sliceData {T e : Nat} {p : Option Addr} {c n : Nat} {H : PH} {l : List Int} (hx : ev σ x = some (.slice p n c)) (hO : OwnF H p c e l) :
    Yld X (.call { callee := .builtin .unsafeSliceData, args := #[x], argTypes := #[T] }) ty σ L (.pointer p) := fun a w ha hm o ho hty => by
  have hr : (Builtin.unsafeSliceData_ #[T] ty #[.slice p n c]).run X.P w = .ok (.pointer p) w := by
    cases p with
    | none => exact Lib.run_unsafeSliceData_nil _ _ _ _ _
    | some q => obtain ⟨_, _, _, _, h, _⟩ := hO; exact Lib.run_unsafeSliceData_row _ _ _ _ _ _ (by omega)
  have hb : ∀ ty cs vs, Go.builtin .unsafeSliceData #[T] ty cs vs = (do pure (.value (← Builtin.unsafeSliceData_ #[T] ty vs))) := fun _ _ _ => rfl
  simp only [execOp, ho, resolve, Sem.run_bind, Sem.run_pure, Result.andThen_ok, invoke, hb, eval1 hx a ha, hty, hr]
/-- 'unsafe.String(p, len(b))' -/
theorem Eff.unsafeStr {pt it e tc : Nat} {p : Option Addr} {c : Nat} {H : PH} {l : List Int} (hp : X.P.underlying pt = some (.pointer e)) (hc : X.P.cellsOf e = 1) (hx : ev σ x = some (.pointer p)) (hy : ev σ y = some (.int .i64 (l.length : Nat))) (hL : lk L tc = some H) (hO : OwnF H p c e l) (hb : ∀ z ∈ l, 0 ≤ z ∧ z ≤ 255) :
    Eff X (.call { callee := .builtin .unsafeString, args := #[x, y], argTypes := #[pt, it] }) ty σ L (fun v L' => v = .string (strOfNums l) ∧ ∃ H', OwnF H' p c e l ∧ L' = (tc, H') :: L) := fun a w ha hm o ho hty K Q hK => by
  have hex : ∀ v w', (Builtin.unsafeString_ #[pt, it] ty #[.pointer p, .int .i64 (l.length : Nat)]).run X.P w = .ok v w' → (execOp a.eval o).run X.P w = .ok (.value v) w' := fun v w' hr => by
    have hb : ∀ ty cs vs, Go.builtin .unsafeString #[pt, it] ty cs vs = (do pure (.value (← Builtin.unsafeString_ #[pt, it] ty vs))) := fun _ _ _ => rfl
    simp only [execOp, ho, resolve, Sem.run_bind, Sem.run_pure, Result.andThen_ok, invoke, hb, eval2 hx hy a ha, hty, hr]
  unfold Oper.wp
  by_cases h0 : l = []
  · subst h0
    rw [hex _ w (Lib.run_unsafeString_none (P := X.P) w pt it ty p)]
    exact hK _ _ w ⟨rfl, H, hO, rfl⟩ ((hm.weak fun i J h => by
      rw [lk_cons] at h
      split at h
      · rename_i e'; subst e'; cases h; exact hL
      · exact h))
  · cases p with
    | none => exact absurd hO.2.2.1 h0
    | some q =>
      obtain ⟨o1, o2, q1, q2, q3, sp, fz, rfl, q4, q5⟩ := hO
      obtain ⟨b, q6, q7⟩ := q
      simp only at q1 q2
      subst q1; subst q2
      have hbk : w.heap[b]? = some (.cells (bv l ++ sp).toArray e fz) := hm.sub _ _ hL b _ (single_self _ _)
      have hsz : (bv l ++ sp).length = c := by rw [List.length_append, bv_len]; exact q5
      have hu : (l.map fun z => UInt8.ofNat z.toNat).length = l.length := by simp
      have hr := Lib.run_unsafeString_row (P := X.P) w pt it ty e hp hc b c (by simp [World.shape?, hbk, hsz]) (l.map fun z => UInt8.ofNat z.toNat) (by simpa using h0) (by rw [hu]; exact o1) (by rw [hu]; simp only [maxLen] at o2; omega) (fun j u hj => by
        rw [List.getElem?_map] at hj
        cases hz : l[j]? with
        | none => rw [hz] at hj; cases hj
        | some z =>
          rw [hz] at hj
          obtain rfl : UInt8.ofNat z.toNat = u := Option.some.inj hj
          have hzb := hb z (List.mem_of_getElem? hz)
          have hjl := (List.getElem?_eq_some_iff.1 hz).1
          have e2 : ((UInt8.ofNat z.toNat).toNat : Int) = z := by simp; omega
          have hplain : (⟨b, 0, none⟩ : Addr).add j = ⟨b, 0 + j, none⟩ := by unfold Addr.add; split <;> simp_all
          rw [hplain, Nat.zero_add]
          simp only [World.cell?, hbk]
          rw [e2]
          simp [bv, List.getElem?_append_left (show j < (l.map fun z => Value.int .u8 z).length by simpa using hjl), hz])
      rw [hu] at hr
      rw [hex _ _ hr]
      have hl0 : l.length ≠ 0 := by simpa using h0
      have hw : (w.freeze ⟨b, 0, none⟩ l.length).heap = w.heap.modify b fun
          | .cells c elem (lo, hi) => .cells c elem (if lo == hi then (0, 0 + l.length) else (min lo 0, max hi (0 + l.length)))
          | o => o := by unfold World.freeze; rw [if_neg hl0]; rfl
      refine hK _ _ _ ⟨rfl, single b (.cells (bv l ++ sp).toArray e (if fz.1 == fz.2 then (0, 0 + l.length) else (min fz.1 0, max fz.2 (0 + l.length)))), ⟨o1, o2, rfl, rfl, q3, sp, _, rfl, by split <;> simp <;> omega, q5⟩, rfl⟩ ?_
      refine hm.set tc (.inl hL) ⟨by unfold World.freeze; rw [if_neg hl0], by unfold World.freeze; rw [if_neg hl0], by rw [hw]; simp, fun k hk hD => ?_⟩ (fun k x hk => ?_) fun k x hk => ?_
      · rw [hw, Array.getElem?_modify, if_neg (fun e => hD ⟨_, by rw [e]; exact single_self _ _⟩)]
      · obtain ⟨rfl, rfl⟩ := single_inv hk
        rw [hw, Array.getElem?_modify, if_pos rfl, hbk]; rfl
      · obtain ⟨rfl, rfl⟩ := single_inv hk
        exact .inl ⟨_, single_self _ _⟩
/-- a pointer held against itself -/
theorem BinV.neqPS {P : Program} {T e : TypeId} {q : Addr} (h : P.underlying T = some (.pointer e)) (hi : (P.info? e).isSome = true) : BinV P .neq T (.pointer (some q)) (.pointer (some q)) (.bool false) := fun w p r => by
  obtain ⟨j, hj⟩ := Option.isSome_iff_exists.1 hi
  exact Lib.run_neq_ptr_same w q h hj
theorem Yld.toUnsafe {src dst t e b o : Nat} {cs : List Value} {fr : Nat × Nat} {cl : Nat} {H : PH} (hs : X.P.underlying src = some (.pointer t)) (hd : X.P.underlying dst = some .unsafePointer) (ht : (X.P.info? t).map (fun j => Nat.beq j.size 0) = some false) (hx : ev σ x = some (.pointer (some ⟨b, o, none⟩))) (hL : lk L cl = some H) (hH : H b = some (.cells cs.toArray e fr)) (ho : Nat.blt o cs.length = true) :
    Yld X (.convert src dst x) ty σ L (.pointer (some ⟨b, o, none⟩)) :=
  Yld.of (fun ρ => convert src dst (ρ x)) (fun ρ o ho => by simp [execOp, ho]) fun a w ha hm => by
    rw [ha.ev hx]
    obtain ⟨j, hj, hj0⟩ := Option.map_eq_some_iff.1 ht
    exact Lib.run_to_unsafe w ⟨b, o, none⟩ hs hd hj (fun e => by rw [e] at hj0; cases hj0) (e := e) (cells := cs.length) (by have := hm.sub _ _ hL b _ hH; simp [World.shape?, this]) (lt_of_blt ho)
theorem Yld.fromUnsafe {src dst t e b o : Nat} {cs : List Value} {fr : Nat × Nat} {cl : Nat} {H : PH} (hs : X.P.underlying src = some .unsafePointer) (hd : X.P.underlying dst = some (.pointer t)) (ht : (X.P.info? t).isSome = true) (hx : ev σ x = some (.pointer (some ⟨b, o, none⟩))) (hL : lk L cl = some H) (hH : H b = some (.cells cs.toArray e fr)) (hlies : liesAt X.P X.P.depth e (cs.length / X.P.cellsOf e) o t 1 = true) :
    Yld X (.convert src dst x) ty σ L (.pointer (some ⟨b, o, none⟩)) :=
  Yld.of (fun ρ => convert src dst (ρ x)) (fun ρ o ho => by simp [execOp, ho]) fun a w ha hm => by
    rw [ha.ev hx]
    obtain ⟨j, hj⟩ := Option.isSome_iff_exists.1 ht
    exact Lib.run_from_unsafe w ⟨b, o, none⟩ hs hd hj (e := e) (cells := cs.length) (by have := hm.sub _ _ hL b _ hH; simp [World.shape?, this]) hlies
/-- a call of what has no body here -/
theorem Yld.ext {f : FuncId} {v : Value} {u : Value} {ts : Array TypeId} (hx : ev σ x = some u) (h : ∀ w, (callFunc f #[u]).run X.P w = .ok (.value v) w) : Yld X (.call { callee := .value (.func f), args := #[x], argTypes := ts }) ty σ L v := fun a w ha hm o ho hty => by
  have hmap : (#[x].map a.eval) = #[u] := by simp [ha.ev hx]
  simp only [execOp, ho, resolve, Act.eval, Deferred.ofValue, hmap, pure_bind, invoke]
  simpa using h w
end
end Go.Proofs.Ytelmdoobgilhoaa.SL
