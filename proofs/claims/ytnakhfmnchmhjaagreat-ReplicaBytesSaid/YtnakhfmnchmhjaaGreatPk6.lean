/- Several texts in one, in their build order: what the proofs of this seat share. -/
import Derived.Test.YtnakhfmnchmhjaaGreatPk4
import Derived.Lib.FrozenHead
import Derived.Lib.Builder
import Derived.Laws.Externs
import Derived.Test.YtnakhfmnchmhjaaGreatPk5
import Derived.Test.YtnakhfmnchmhjaaGreatPk3
set_option linter.unusedVariables false
set_option linter.unusedSimpArgs false
set_option linter.unusedSectionVars false
/-
  What strings.Builder does: a row of bytes whose head may be frozen.
-/
namespace Go.Proofs.YtnakhfmnchmhjaaGreat.SL
set_option linter.unusedVariables false
section
variable {X : Cx} {σ : Loc} {L : Sh} {ty : TypeId} {x y z : Operand}
def bv (l : List Int) : List Value := l.map fun z => Value.int .u8 z
def OwnF (H : PH) (p : Option Addr) (c e : Nat) (l : List Int) : Prop :=
  l.length ≤ c ∧ c ≤ maxLen ∧ match p with
  | none => l = [] ∧ c = 0 ∧ H = emp
  | some a => a.off = 0 ∧ a.spot = none ∧ 0 < c ∧ ∃ sp fz, H = single a.block (.cells (bv l ++ sp).toArray e fz) ∧ fz.2 ≤ l.length ∧ l.length + sp.length = c
theorem OwnF.nil (e : Nat) : OwnF emp none 0 e [] := ⟨Nat.le_refl _, by simp [maxLen], rfl, rfl, rfl⟩
theorem bv_len (l : List Int) : (bv l).length = l.length := by simp [bv]
theorem bv_app (l m : List Int) : bv (l ++ m) = bv l ++ bv m := by simp [bv]
theorem bv_str (s : ByteArray) : Lib.strCells s = bv (strZ s) := by unfold bv strZ Lib.strCells; rw [List.map_map]; rfl
/-- 'append(b, s...)' -/
theorem Eff.appendStrF {T Tn e tc : Nat} {p : Option Addr} {c len1 : Nat} {H : PH} {l : List Int} {s : ByteArray} (ht : X.P.underlying T = some (.slice e)) (htn : X.P.underlying Tn = some .string) (he : (X.P.info? e).map (fun i => (i.zero, i.size, i.bytes)) = some (some (.int .u8 0), 1, 1))
    (hx : ev σ x = some (.slice p len1 c)) (hy : ev σ y = some (.string s)) (hL : lk L tc = some H) (hO : OwnF H p c e l) (hl1 : len1 = l.length) (hmax : l.length + s.size ≤ 140737488355328) :
    Eff X (.call { callee := .builtin .append, args := #[x, y], argTypes := #[T, Tn] }) ty σ L (fun v L' => ∃ H' p' c', v = .slice p' (l ++ strZ s).length c' ∧ OwnF H' p' c' e (l ++ strZ s) ∧ L' = (tc, H') :: L) := fun a w ha hm o ho hty K Q hK => by
  subst hl1
  obtain ⟨i, hi, hz1, hz2, hz3⟩ : ∃ i, X.P.info? e = some i ∧ i.zero = some (.int .u8 0) ∧ i.size = 1 ∧ i.bytes = 1 := by
    cases h : X.P.info? e with
    | none => rw [h] at he; cases he
    | some i => rw [h] at he; simp at he; exact ⟨i, rfl, he.1, he.2.1, he.2.2⟩
  have hmx : l.length + s.size ≤ maxLen := by simp only [maxLen]; omega
  have hn : (l ++ strZ s).length = l.length + s.size := by rw [List.length_append, strZ_len]
  have hex : ∀ v w', (Builtin.append_ #[T, Tn] ty #[.slice p l.length c, .string s]).run X.P w = .ok v w' → (execOp a.eval o).run X.P w = .ok (.value v) w' := fun v w' hr => by
    simp only [execOp, ho, resolve, Sem.run_bind, Sem.run_pure, Result.andThen_ok, invoke, builtin, eval2 hx hy a ha, hty]
    rw [hr]; rfl
  have key : ∀ (g cap : Nat) (cur : Array Value) (fz : Nat × Nat) w', (Builtin.append_ #[T, Tn] ty #[.slice p l.length c, .string s]).run X.P w = .ok (.slice (some ⟨g, 0, none⟩) (l.length + s.size) cap) w' → w.grownBy w' (Value.ownBlock (.slice p l.length c)) → w'.heap[g]? = some (.cells cur e fz) → fz.2 ≤ l.length + s.size →
      l.length + s.size ≤ cap → cap ≤ maxLen → cur.size = cap → cur.toList.take (l.length + s.size) = bv l ++ Lib.strCells s → 0 < cap → ((∃ q, p = some q ∧ q.block = g) ∨ w.heap.size ≤ g) → o.wp X.P a w K Q := by
    intro g cap cur fz w' hr hg hh hfz hc1 hc2 hc3 htk hc0 hblk
    unfold Oper.wp
    rw [hex _ _ hr]
    have e1 : cur = (bv (l ++ strZ s) ++ cur.toList.drop (l.length + s.size)).toArray := by
      rw [bv_app, ← bv_str, ← htk, List.take_append_drop]
    refine hK _ _ w' ⟨single g (.cells cur e fz), some ⟨g, 0, none⟩, cap, by rw [hn], ⟨by rw [hn]; exact hc1, hc2, rfl, rfl, hc0, _, fz, by rw [← e1], by rw [hn]; exact hfz, by have hcl : cur.toList.length = cur.size := Array.length_toList; rw [List.length_append, strZ_len, List.length_drop, hcl]; omega⟩, rfl⟩ ?_
    refine hm.set tc (.inl hL) ⟨hg.os, hg.output, hg.size, fun b hb hD => hg.block b hb fun e => hD ?_⟩ (fun b x hb => by obtain ⟨rfl, rfl⟩ := single_inv hb; exact hh) fun b x hb => ?_
    · cases p with
      | none => simp [Value.ownBlock] at e
      | some a' =>
        simp [Value.ownBlock] at e
        obtain ⟨_, _, _, _, _, sp, fz', rfl, _⟩ := hO
        exact ⟨_, by rw [e]; exact single_self _ _⟩
    · obtain ⟨rfl, rfl⟩ := single_inv hb
      rcases hblk with ⟨q, rfl, rfl⟩ | h
      · obtain ⟨_, _, _, _, _, sp, fz', rfl, _⟩ := hO
        exact .inl ⟨_, single_self _ _⟩
      · exact .inr h
  obtain ⟨o1, o2, o3⟩ := hO
  cases p with
  | none =>
    obtain ⟨rfl, rfl, rfl⟩ := o3
    obtain ⟨v', w', hr, hown, hg, hnil⟩ := Lib.run_append_own_string (P := X.P) w w.heap.size T Tn ty e i ht htn hi hz1 hz2 hz3 (.slice none 0 0) 0 [] (World.ownsRow_nil w _ e 1) s (by simpa using hmx) (by simpa using hmax) (Nat.le_refl _)
    by_cases h0 : s.size = 0
    · obtain rfl := hnil.2 ⟨rfl, h0⟩
      unfold Oper.wp
      rw [hex _ _ hr]
      have hz : strZ s = [] := List.eq_nil_of_length_eq_zero (by rw [strZ_len]; exact h0)
      refine hK _ _ w' ⟨emp, none, 0, by rw [hz]; rfl, by rw [hz]; exact OwnF.nil e, rfl⟩ ?_
      exact hm.set tc (.inl hL) ⟨hg.os, hg.output, hg.size, fun b hb hD => hg.block b hb (by simp [Value.ownBlock])⟩ (fun b x hb => by cases hb) fun b x hb => by cases hb
    · rcases hown.2 with ⟨h1, h2⟩ | ⟨g, cap, cur, hv, hbg, hgh, h3, h4, h5, h6⟩
      · omega
      · subst hv
        exact key g cap cur (0, 0) w' (by simpa using hr) hg hgh (Nat.zero_le _) (by simpa using h3) h4 (by simpa using h5) (by simpa [bv] using h6) (by omega) (.inr hbg)
  | some q =>
    obtain ⟨q1, q2, q3, sp, fz, rfl, q4, q5⟩ := o3
    obtain ⟨b, q6, q7⟩ := q
    simp only at q1 q2
    subst q1; subst q2
    have hb : w.heap[b]? = some (.cells (bv l ++ sp).toArray e fz) := hm.sub _ _ hL b _ (single_self _ _)
    have hsz : (bv l ++ sp).length = c := by rw [List.length_append, bv_len]; exact q5
    have hown : w.ownsRowF 0 e 1 (.slice (some ⟨b, 0, none⟩) l.length c) l.length (bv l) := ⟨by rw [bv_len]; omega, .inr ⟨b, c, _, fz, rfl, Nat.zero_le _, hb, by omega, o1, o2, by simpa using hsz, by simp [← bv_len l]⟩⟩
    obtain ⟨v', w', hr, hown', hg, _⟩ := Lib.run_append_own_stringF (P := X.P) w 0 T Tn ty e i ht htn hi hz1 hz2 hz3 _ _ _ hown s hmx hmax (Nat.zero_le _)
    by_cases hroom : l.length + s.size ≤ c
    · have hr2 := Lib.run_append_room_stringF (P := X.P) w T Tn ty e i ht htn hi hz2 b l.length c _ fz hb q4 s hroom (by simp only [List.size_toArray, hsz]; exact hroom)
      rw [hr] at hr2
      injection hr2 with e1 e2
      subst e1
      rcases hown'.2 with ⟨h1, h2⟩ | ⟨g, cap, cur, fz', hv, _, hgh, h2, h3, h4, h5, h6⟩
      · cases h1
      · injection hv with ha _ hcap
        injection ha with ha
        injection ha with hgg _ _
        subst hgg; subst hcap
        exact key b c cur fz' w' hr hg hgh (by simpa using h2) h3 h4 (by simpa using h5) (by simpa using h6) q3 (.inl ⟨_, rfl, rfl⟩)
    · have holds : ∀ j u, (bv l)[j]? = some u → w.cell? ((⟨b, 0, none⟩ : Addr).add j) = some u := hown.cells (g := b) rfl
      have hr2 := Lib.run_append_grow_string (P := X.P) w T Tn ty e i (.int .u8 0) ht htn hi hz1 ⟨b, 0, none⟩ l.length c (bv l) (by rw [hz2, bv_len]; omega) holds s (by omega) (by omega) (by rw [hz3]; exact growslice_fits (by omega) (by omega))
      have hr3 := hr
      rw [hr] at hr2
      injection hr2 with e1 e2
      subst e1
      rcases hown'.2 with ⟨h1, h2⟩ | ⟨g, cap, cur, fz', hv, _, hgh, h2, h3, h4, h5, h6⟩
      · cases h1
      · injection hv with ha _ hcap
        injection ha with ha
        injection ha with hgg _ _
        subst hgg; subst hcap
        exact key _ _ cur fz' w' hr3 hg hgh (by simpa using h2) h3 h4 (by simpa using h5) (by simpa using h6) (by omega) (.inr (Nat.le_refl _))
/-- 'unsafe.SliceData(b)' -/
theorem Yld.sliceData {T e : Nat} {p : Option Addr} {c n : Nat} {H : PH} {l : List Int} (hx : ev σ x = some (.slice p n c)) (hO : OwnF H p c e l) :
    Yld X (.call { callee := .builtin .unsafeSliceData, args := #[x], argTypes := #[T] }) ty σ L (.pointer p) := fun a w ha hm o ho hty => by
  have hr : (Builtin.unsafeSliceData_ #[T] ty #[.slice p n c]).run X.P w = .ok (.pointer p) w := by
    cases p with
    | none => exact Lib.run_unsafeSliceData_nil _ _ _ _ _
    | some q => obtain ⟨_, _, _, _, h, _⟩ := hO; exact Lib.run_unsafeSliceData_row _ _ _ _ _ _ (by omega)
  have hb : ∀ ty cs vs, Go.builtin .unsafeSliceData #[T] ty cs vs = (do pure (.value (← Builtin.unsafeSliceData_ #[T] ty vs))) := fun _ _ _ => rfl
  simp only [execOp, ho, resolve, Sem.run_bind, Sem.run_pure, Result.andThen_ok, invoke, hb, eval1 hx a ha, hty, hr]
/-- 'unsafe.String(p, len(b))' -/
theorem Eff.unsafeStr {pt it e tc : Nat} {p : Option Addr} {c : Nat} {H : PH} {l : List Int} (hp : X.P.underlying pt = some (.pointer e)) (hc : X.P.cellsOf e = 1) (hx : ev σ x = some (.pointer p)) (hy : ev σ y = some (.int .i64 (l.length : Nat))) (hL : lk L tc = some H) (hO : OwnF H p c e l) (hb : ∀ z ∈ l, 0 ≤ z ∧ z ≤ 255) :
    Eff X (.call { callee := .builtin .unsafeString, args := #[x, y], argTypes := #[pt, it] }) ty σ L (fun v L' => v = .string (strOfNums l) ∧ ∃ H', OwnF H' p c e l ∧ L' = (tc, H') :: L) := fun a w ha hm o ho hty K Q hK => by
  have hex : ∀ v w', (Builtin.unsafeString_ #[pt, it] ty #[.pointer p, .int .i64 (l.length : Nat)]).run X.P w = .ok v w' → (execOp a.eval o).run X.P w = .ok (.value v) w' := fun v w' hr => by
    have hb : ∀ ty cs vs, Go.builtin .unsafeString #[pt, it] ty cs vs = (do pure (.value (← Builtin.unsafeString_ #[pt, it] ty vs))) := fun _ _ _ => rfl
    simp only [execOp, ho, resolve, Sem.run_bind, Sem.run_pure, Result.andThen_ok, invoke, hb, eval2 hx hy a ha, hty, hr]
  unfold Oper.wp
  by_cases h0 : l = []
  · subst h0
    rw [hex _ w (Lib.run_unsafeString_none (P := X.P) w pt it ty p)]
    exact hK _ _ w ⟨rfl, H, hO, rfl⟩ ((hm.weak fun i J h => by
      rw [lk_cons] at h
      split at h
      · rename_i e'; subst e'; cases h; exact hL
      · exact h))
  · cases p with
    | none => exact absurd hO.2.2.1 h0
    | some q =>
      obtain ⟨o1, o2, q1, q2, q3, sp, fz, rfl, q4, q5⟩ := hO
      obtain ⟨b, q6, q7⟩ := q
      simp only at q1 q2
      subst q1; subst q2
      have hbk : w.heap[b]? = some (.cells (bv l ++ sp).toArray e fz) := hm.sub _ _ hL b _ (single_self _ _)
      have hsz : (bv l ++ sp).length = c := by rw [List.length_append, bv_len]; exact q5
      have hu : (l.map fun z => UInt8.ofNat z.toNat).length = l.length := by simp
      have hr := Lib.run_unsafeString_row (P := X.P) w pt it ty e hp hc b c (by simp [World.shape?, hbk, hsz]) (l.map fun z => UInt8.ofNat z.toNat) (by simpa using h0) (by rw [hu]; exact o1) (by rw [hu]; simp only [maxLen] at o2; omega) (fun j u hj => by
        rw [List.getElem?_map] at hj
        cases hz : l[j]? with
        | none => rw [hz] at hj; cases hj
        | some z =>
          rw [hz] at hj
          obtain rfl : UInt8.ofNat z.toNat = u := Option.some.inj hj
          have hzb := hb z (List.mem_of_getElem? hz)
          have hjl := (List.getElem?_eq_some_iff.1 hz).1
          have e2 : ((UInt8.ofNat z.toNat).toNat : Int) = z := by simp; omega
          have hplain : (⟨b, 0, none⟩ : Addr).add j = ⟨b, 0 + j, none⟩ := by unfold Addr.add; split <;> simp_all
          rw [hplain, Nat.zero_add]
          simp only [World.cell?, hbk]
          rw [e2]
          simp [bv, List.getElem?_append_left (show j < (l.map fun z => Value.int .u8 z).length by simpa using hjl), hz])
      rw [hu] at hr
      rw [hex _ _ hr]
      have hl0 : l.length ≠ 0 := by simpa using h0
      have hw : (w.freeze ⟨b, 0, none⟩ l.length).heap = w.heap.modify b fun
          | .cells c elem (lo, hi) => .cells c elem (if lo == hi then (0, 0 + l.length) else (min lo 0, max hi (0 + l.length)))
          | o => o := by unfold World.freeze; rw [if_neg hl0]; rfl
      refine hK _ _ _ ⟨rfl, single b (.cells (bv l ++ sp).toArray e (if fz.1 == fz.2 then (0, 0 + l.length) else (min fz.1 0, max fz.2 (0 + l.length)))), ⟨o1, o2, rfl, rfl, q3, sp, _, rfl, by split <;> simp <;> omega, q5⟩, rfl⟩ ?_
      refine hm.set tc (.inl hL) ⟨by unfold World.freeze; rw [if_neg hl0], by unfold World.freeze; rw [if_neg hl0], by rw [hw]; simp, fun k hk hD => ?_⟩ (fun k x hk => ?_) fun k x hk => ?_
      · rw [hw, Array.getElem?_modify, if_neg (fun e => hD ⟨_, by rw [e]; exact single_self _ _⟩)]
      · obtain ⟨rfl, rfl⟩ := single_inv hk
        rw [hw, Array.getElem?_modify, if_pos rfl, hbk]; rfl
      · obtain ⟨rfl, rfl⟩ := single_inv hk
        exact .inl ⟨_, single_self _ _⟩
/-- a pointer held against itself -/
theorem BinV.neqPS {P : Program} {T e : TypeId} {q : Addr} (h : P.underlying T = some (.pointer e)) (hi : (P.info? e).isSome = true) : BinV P .neq T (.pointer (some q)) (.pointer (some q)) (.bool false) := fun w p r => by
  obtain ⟨j, hj⟩ := Option.isSome_iff_exists.1 hi
  exact Lib.run_neq_ptr_same w q h hj
theorem Yld.toUnsafe {src dst t e b o : Nat} {cs : List Value} {fr : Nat × Nat} {cl : Nat} {H : PH} (hs : X.P.underlying src = some (.pointer t)) (hd : X.P.underlying dst = some .unsafePointer) (ht : (X.P.info? t).map (fun j => Nat.beq j.size 0) = some false) (hx : ev σ x = some (.pointer (some ⟨b, o, none⟩))) (hL : lk L cl = some H) (hH : H b = some (.cells cs.toArray e fr)) (ho : Nat.blt o cs.length = true) :
    Yld X (.convert src dst x) ty σ L (.pointer (some ⟨b, o, none⟩)) :=
  Yld.of (fun ρ => convert src dst (ρ x)) (fun ρ o ho => by simp [execOp, ho]) fun a w ha hm => by
    rw [ha.ev hx]
    obtain ⟨j, hj, hj0⟩ := Option.map_eq_some_iff.1 ht
    exact Lib.run_to_unsafe w ⟨b, o, none⟩ hs hd hj (fun e => by rw [e] at hj0; cases hj0) (e := e) (cells := cs.length) (by have := hm.sub _ _ hL b _ hH; simp [World.shape?, this]) (lt_of_blt ho)
theorem Yld.fromUnsafe {src dst t e b o : Nat} {cs : List Value} {fr : Nat × Nat} {cl : Nat} {H : PH} (hs : X.P.underlying src = some .unsafePointer) (hd : X.P.underlying dst = some (.pointer t)) (ht : (X.P.info? t).isSome = true) (hx : ev σ x = some (.pointer (some ⟨b, o, none⟩))) (hL : lk L cl = some H) (hH : H b = some (.cells cs.toArray e fr)) (hlies : liesAt X.P X.P.depth e (cs.length / X.P.cellsOf e) o t 1 = true) :
    Yld X (.convert src dst x) ty σ L (.pointer (some ⟨b, o, none⟩)) :=
  Yld.of (fun ρ => convert src dst (ρ x)) (fun ρ o ho => by simp [execOp, ho]) fun a w ha hm => by
    rw [ha.ev hx]
    obtain ⟨j, hj⟩ := Option.isSome_iff_exists.1 ht
    exact Lib.run_from_unsafe w ⟨b, o, none⟩ hs hd hj (e := e) (cells := cs.length) (by have := hm.sub _ _ hL b _ hH; simp [World.shape?, this]) hlies
/-- a call of what has no body here -/
theorem Yld.ext {f : FuncId} {v : Value} {u : Value} {ts : Array TypeId} (hx : ev σ x = some u) (h : ∀ w, (callFunc f #[u]).run X.P w = .ok (.value v) w) : Yld X (.call { callee := .value (.func f), args := #[x], argTypes := ts }) ty σ L v := fun a w ha hm o ho hty => by
  have hmap : (#[x].map a.eval) = #[u] := by simp [ha.ev hx]
  simp only [execOp, ho, resolve, Act.eval, Deferred.ofValue, hmap, pure_bind, invoke]
  simpa using h w
end
end Go.Proofs.YtnakhfmnchmhjaaGreat.SL
/- Receivers of snapshots. Written by program (walk2.py). -/
namespace Go.Proofs.YtnakhfmnchmhjaaGreat
open SL Cfg
set_option linter.unusedVariables false
set_option linter.unusedSimpArgs false
theorem fo187_0 : fieldOff Tryz.prog 187 0 = some 0 := by kernel_rfl
theorem sz185 : sz Tryz.prog 185 1 := (by kernel_rfl : (Tryz.prog.info? 185).map (·.size) = some 1)
theorem fo187_1 : fieldOff Tryz.prog 187 1 = some 1 := by kernel_rfl
theorem ent357 : Ent Tryz.prog 357 := ⟨_, _, Tryz.func357, by kernel_rfl, rfl⟩
theorem lay189 : layS Tryz.prog 189 = some ([.int .i64 0, .int .i64 0, .pointer none, .slice none 0 0], [(0, 2), (2, 2)]) := by kernel_rfl
theorem lay184 : layS Tryz.prog 184 = some ([.int .i64 0, .int .i64 0], [(0, 1), (1, 1)]) := by kernel_rfl
theorem zc184 : zc Tryz.prog 184 [.int .i64 0, .int .i64 0] := (by kernel_rfl : ((Tryz.prog.info? 184).bind (·.zero)).map (fun v => v.cells.toList) = some [.int .i64 0, .int .i64 0])
theorem sz184 : sz Tryz.prog 184 2 := (by kernel_rfl : (Tryz.prog.info? 184).map (·.size) = some 2)
theorem fo189_0 : fieldOff Tryz.prog 189 0 = some 0 := by kernel_rfl
theorem eqg184 : Program.eqGuardType Tryz.prog (Program.depth Tryz.prog) 184 = false := by kernel_rfl
theorem sih184 : Program.stoodInHeld Tryz.prog 184 = false := by kernel_rfl
theorem fo189_1 : fieldOff Tryz.prog 189 1 = some 2 := by kernel_rfl
theorem ent312 : Ent Tryz.prog 312 := ⟨_, _, Tryz.func312, by kernel_rfl, rfl⟩
theorem ent313 : Ent Tryz.prog 313 := ⟨_, _, Tryz.func313, by kernel_rfl, rfl⟩
theorem ent314 : Ent Tryz.prog 314 := ⟨_, _, Tryz.func314, by kernel_rfl, rfl⟩
theorem fo184_0 : fieldOff Tryz.prog 184 0 = some 0 := by kernel_rfl
theorem fo184_1 : fieldOff Tryz.prog 184 1 = some 1 := by kernel_rfl
theorem ent315 : Ent Tryz.prog 315 := ⟨_, _, Tryz.func315, by kernel_rfl, rfl⟩
abbrev u185 := @Tryz.underlying185
abbrev u457 := @Tryz.underlying457
abbrev u434 := @Tryz.underlying434
abbrev u184 := @Tryz.underlying184
def Cfg.adr (b : Nat) (u : Bool) : Option Addr := if u then some ⟨b, 2, none⟩ else none
structure Cfg.Rc where
  ix : Int
  tm : Int
  u : Bool
  p : Option Addr
  c : Nat
  l : List Int
theorem noEscape_run (v : Value) (w : World) : (callFunc 380 #[v]).run Tryz.prog w = .ok (.value v) w := by
  rw [run_callFunc_extern Tryz.func380 (by kernel_rfl) (by kernel_rfl) (by kernel_rfl) (e := Extern.AbiNoEscape.same) (by kernel_rfl), Lib.run_noEscape]
  rfl

set_option maxRecDepth 100000 in
set_option maxHeartbeats 1600000 in
theorem copyCheck_ct (b : Nat) (x : Rc) : Ct Tryz.prog 357 [.pointer (some ⟨b, 2, none⟩)] [single b (.cells [Value.int .i64 x.ix, Value.int .i64 x.tm, Value.pointer (adr b x.u), Value.slice x.p x.l.length x.c].toArray 189 (0, 0))] (fun v Hs => v = .tuple #[] ∧ Hs = [single b (.cells [Value.int .i64 { x with u := true }.ix, Value.int .i64 { x with u := true }.tm, Value.pointer (adr b { x with u := true }.u), Value.slice { x with u := true }.p { x with u := true }.l.length { x with u := true }.c].toArray 189 (0, 0))]) := by
  obtain ⟨ix, tm, us, p, c, l⟩ := x
  refine Ct.body Tryz.func357 rfl Tryz.ntmps357 rfl ?_
  intro E F
  refine q_sr (q_q q_mv (q_q q_np (q_q (q_fa fo187_0) (q_q (q_l 1 u185) ?_))))
  refine q_q (Yld.bin rfl rfl (BinV.eqlPN u185)) (q_nn (q_k [0, 6] [0, 1] ?_))
  refine W.cond rfl (fun hc6 => ?_) (fun hc6 => ?_)
  ·
   obtain rfl : us = false := by cases us with | true => cases hc6 | false => rfl
   refine W.region (q_q q_mv (q_q q_mv ?_))
   refine q_q (Yld.toUnsafe (cl := 1) u185 u457 (by kernel_rfl) rfl rfl (single_self _ _) rfl) ?_
   refine q_q (Yld.ext rfl (fun w => noEscape_run _ w)) ?_
   refine q_q (Yld.fromUnsafe (cl := 1) u457 u185 (by kernel_rfl) rfl rfl (single_self _ _) (by kernel_rfl)) (q_q q_np (q_q (q_fa fo187_0) (q_s 1 sz185 ?_)))
   refine RL.nil ?_
   exact N.endBy [1] .nil rfl rfl rfl rfl ⟨rfl, rfl⟩
  ·
   obtain rfl : us = true := by cases us with | true => rfl | false => cases hc6
   refine q_sr (q_q q_mv (q_q q_np (q_q (q_fa fo187_0) (q_q (q_l 1 u185) (q_q q_mv ?_)))))
   refine q_q (Yld.bin rfl rfl (BinV.neqPS u185 (by kernel_rfl))) (q_nn (q_k [19] [0, 1] ?_))
   first | (refine W.as (t := 19) rfl (boolF (by first | assumption | omega | (simp; done))) ?_; refine W.condF rfl ?_) | refine W.condF rfl ?_
   refine W.skip ?_
   exact N.endBy [1] .nil rfl rfl rfl rfl ⟨rfl, rfl⟩

set_option maxRecDepth 100000 in
set_option maxHeartbeats 400000 in
theorem bldLen_ct (b : Nat) (x : Rc) : Ct Tryz.prog 313 [.pointer (some ⟨b, 2, none⟩)] [single b (.cells [Value.int .i64 x.ix, Value.int .i64 x.tm, Value.pointer (adr b x.u), Value.slice x.p x.l.length x.c].toArray 189 (0, 0))] (fun v Hs => v = .int .i64 (x.l.length : Nat) ∧ Hs = [single b (.cells [Value.int .i64 x.ix, Value.int .i64 x.tm, Value.pointer (adr b x.u), Value.slice x.p x.l.length x.c].toArray 189 (0, 0))]) := by
  refine Ct.body Tryz.func313 rfl Tryz.ntmps313 rfl ?_
  intro E F
  refine q_sr (q_an ?_)
  refine q_sr (q_q q_mv (q_q q_np (q_q (q_fa fo187_1) (q_q (q_l 1 u152) (q_q (q_n u152) (q_an ?_))))))
  refine q_k [2] [0, 1] ?_
  refine W.ret ?_
  exact q_r [1] (.cons (.tmp rfl) .nil) rfl rfl rfl ⟨rfl, rfl⟩

set_option maxRecDepth 100000 in
set_option maxHeartbeats 400000 in
theorem bldReset_ct (b : Nat) (x : Rc) : Ct Tryz.prog 312 [.pointer (some ⟨b, 2, none⟩)] [single b (.cells [Value.int .i64 x.ix, Value.int .i64 x.tm, Value.pointer (adr b x.u), Value.slice x.p x.l.length x.c].toArray 189 (0, 0))] (fun v Hs => v = .tuple #[] ∧ Hs = [single b (.cells [Value.int .i64 (⟨x.ix, x.tm, false, none, 0, []⟩ : Rc).ix, Value.int .i64 (⟨x.ix, x.tm, false, none, 0, []⟩ : Rc).tm, Value.pointer (adr b (⟨x.ix, x.tm, false, none, 0, []⟩ : Rc).u), Value.slice (⟨x.ix, x.tm, false, none, 0, []⟩ : Rc).p (⟨x.ix, x.tm, false, none, 0, []⟩ : Rc).l.length (⟨x.ix, x.tm, false, none, 0, []⟩ : Rc).c].toArray 189 (0, 0))]) := by
  refine Ct.body Tryz.func312 rfl Tryz.ntmps312 rfl ?_
  intro E F
  refine q_sr (q_q q_mv (q_q q_np (q_q (q_fa fo187_0) (q_s 1 sz185 ?_))))
  refine q_nn (W.region (q_q q_mv (q_q q_np (q_q (q_fa fo187_1) (q_s 1 sz152 ?_)))))
  refine RL.nil ?_
  exact N.endBy [1] .nil rfl rfl rfl rfl ⟨rfl, rfl⟩

set_option maxRecDepth 100000 in
set_option maxHeartbeats 1600000 in
theorem bldWrite_ct (b : Nat) (x : Rc) (D : PH) (hO : OwnF D x.p x.c 5 x.l) (s : ByteArray) (hb : x.l.length + s.size ≤ 1000000000) : Ct Tryz.prog 314 [.pointer (some ⟨b, 2, none⟩), .string s] [single b (.cells [Value.int .i64 x.ix, Value.int .i64 x.tm, Value.pointer (adr b x.u), Value.slice x.p x.l.length x.c].toArray 189 (0, 0)), D] (fun v Hs => ∃ (D' : PH) (p' : Option Addr) (c' : Nat), OwnF D' p' c' 5 (x.l ++ nums s) ∧ Hs = [single b (.cells [Value.int .i64 (⟨x.ix, x.tm, true, p', c', x.l ++ nums s⟩ : Rc).ix, Value.int .i64 (⟨x.ix, x.tm, true, p', c', x.l ++ nums s⟩ : Rc).tm, Value.pointer (adr b (⟨x.ix, x.tm, true, p', c', x.l ++ nums s⟩ : Rc).u), Value.slice (⟨x.ix, x.tm, true, p', c', x.l ++ nums s⟩ : Rc).p (⟨x.ix, x.tm, true, p', c', x.l ++ nums s⟩ : Rc).l.length (⟨x.ix, x.tm, true, p', c', x.l ++ nums s⟩ : Rc).c].toArray 189 (0, 0)), D']) := by
  refine Ct.body Tryz.func314 rfl Tryz.ntmps314 rfl ?_
  intro E F
  refine q_sr (q_q q_as (q_an ?_))
  refine q_sr (q_q q_mv ?_)
  refine q_e (q_c ent357 [1] [1] (copyCheck_ct b x)) ?_
  rintro _ _ ⟨_, ⟨rfl, rfl⟩, rfl⟩
  refine q_nn (q_k [0, 1] [0, 1, 2] ?_)
  refine q_sr (q_q q_mv (q_q q_mv (q_q q_np (q_q (q_fa fo187_1) (q_q (q_l 1 u152) (q_q q_mv ?_))))))
  refine q_e (Eff.appendStrF (tc := 2) u152 u9 (by kernel_rfl) rfl rfl rfl hO rfl (by omega)) ?_
  rintro _ _ ⟨Ha, pa, ca, rfl, hOa, rfl⟩
  refine q_q q_np (q_q (q_fa fo187_1) (q_s 1 sz152 ?_))
  refine q_nn (q_k [1] [0, 1, 2] ?_)
  refine q_sr (q_q q_mv (q_q (q_ns u9) (q_q q_as (q_an ?_))))
  refine W.ret ?_
  exact q_r [1, 2] (.cons (.tmp rfl) (.cons (.tmp rfl) .nil)) rfl rfl rfl ⟨Ha, pa, ca, hOa, rfl⟩

set_option maxRecDepth 100000 in
set_option maxHeartbeats 1600000 in
theorem bldString_ct (b : Nat) (x : Rc) (D : PH) (hO : OwnF D x.p x.c 5 x.l) (hbt : Byt x.l) : Ct Tryz.prog 315 [.pointer (some ⟨b, 2, none⟩)] [single b (.cells [Value.int .i64 x.ix, Value.int .i64 x.tm, Value.pointer (adr b x.u), Value.slice x.p x.l.length x.c].toArray 189 (0, 0)), D] (fun v Hs => ∃ (D' : PH), v = .string (strOfNums x.l) ∧ OwnF D' x.p x.c 5 x.l ∧ Hs = [single b (.cells [Value.int .i64 x.ix, Value.int .i64 x.tm, Value.pointer (adr b x.u), Value.slice x.p x.l.length x.c].toArray 189 (0, 0)), D']) := by
  refine Ct.body Tryz.func315 rfl Tryz.ntmps315 rfl ?_
  intro E F
  refine q_sr (q_an ?_)
  refine W.seq ?_
  refine W.draw (.q 0 (.q 1 (.q 2 (.q 3 (.q 4 (.q 5 (.q 6 (.q 7 (.q 8 (.q 9 (.one 10 (.q 11 .done)))))))))))) (.of [0, 1] rfl) mix (by kernel_rfl) (by kernel_rfl) (q_d rfl q_mv (q_d rfl q_np (q_d rfl (q_fa fo187_1) (q_d rfl (q_l 1 u152) ?_))))
  refine q_d rfl (Yld.sliceData rfl hO) (q_d rfl q_mv (q_d rfl q_np (q_d rfl (q_fa fo187_1) (q_d rfl (q_l 1 u152) (q_d rfl (q_n u152) ?_)))))
  refine q_o rfl (Eff.unsafeStr (tc := 2) u434 (by kernel_rfl) rfl rfl rfl hO hbt) ?_
  rintro _ _ ⟨rfl, Hu, hOu, rfl⟩
  refine q_d rfl q_as (DL.done (N.next (q_k [2] [0, 1, 2] ?_)))
  refine W.ret ?_
  exact q_r [1, 2] (.cons (.tmp rfl) .nil) rfl rfl rfl ⟨Hu, rfl, hOu, rfl⟩

def Cfg.Rc.st (x : Rc) : Int × Int × List Int := (x.ix, x.tm, x.l)
def Cfg.newP (s : Int × Int × List Int) (ix tm : Int) : Int × Int × List Int := if s.1 = ix ∧ s.2.1 = tm then s else (ix, tm, [])
def Cfg.takeP (s : Int × Int × List Int) (ix tm off : Int) (d : List Int) : (Int × Int × List Int) × Bool :=
  if off = (newP s ix tm).2.2.length then (((newP s ix tm).1, (newP s ix tm).2.1, (newP s ix tm).2.2 ++ d), true) else (newP s ix tm, false)
theorem Cfg.takeP_pos {s n : Int × Int × List Int} {ix tm off : Int} {d : List Int} (h : newP s ix tm = n) (he : off = (n.2.2.length : Nat)) : takeP s ix tm off d = ((n.1, n.2.1, n.2.2 ++ d), true) := by subst h; exact if_pos he
theorem Cfg.takeP_neg {s n : Int × Int × List Int} {ix tm off : Int} {d : List Int} (h : newP s ix tm = n) (he : ¬ off = (n.2.2.length : Nat)) : takeP s ix tm off d = (n, false) := by subst h; exact if_neg he
structure Cfg.RcD where
  x : Rc
  D : PH

set_option maxRecDepth 100000 in
set_option maxHeartbeats 400000 in
theorem newRc_ct  : Ct Tryz.prog 34 [] [] (fun v Hs => ∃ b, v = .pointer (some ⟨b, 0, none⟩) ∧ Hs = [single b (.cells [Value.int .i64 (⟨0, 0, false, none, 0, []⟩ : Rc).ix, Value.int .i64 (⟨0, 0, false, none, 0, []⟩ : Rc).tm, Value.pointer (adr b (⟨0, 0, false, none, 0, []⟩ : Rc).u), Value.slice (⟨0, 0, false, none, 0, []⟩ : Rc).p (⟨0, 0, false, none, 0, []⟩ : Rc).l.length (⟨0, 0, false, none, 0, []⟩ : Rc).c].toArray 189 (0, 0))]) := by
  refine Ct.body Tryz.func34 rfl Tryz.ntmps34 rfl ?_
  intro E F
  refine q_sr (q_an ?_)
  refine q_sr ?_
  refine q_q (Yld.buildP lay189 .nil rfl) ?_
  refine q_bx 102 fun b2 => ?_
  refine q_an ?_
  refine W.ret ?_
  exact q_r [102] (.cons (.tmp rfl) .nil) rfl rfl rfl ⟨b2, rfl, rfl⟩

set_option maxRecDepth 100000 in
set_option maxHeartbeats 3200000 in
theorem take41_ct (b : Nat) (x : Rc) (D : PH) (hO : OwnF D x.p x.c 5 x.l) (hbt : Byt x.l) (ix tm off : Int) (s : ByteArray) (dn : Bool) (hb : x.l.length + s.size ≤ 1000000000) : Ct Tryz.prog 245 [.pointer (some ⟨b, 0, none⟩), .int .i64 ix, .int .i64 tm, .int .i64 off, .string s, .bool dn] [single b (.cells [Value.int .i64 x.ix, Value.int .i64 x.tm, Value.pointer (adr b x.u), Value.slice x.p x.l.length x.c].toArray 189 (0, 0)), D] (fun v Hs => ∃ (y : Rc) (D' : PH), OwnF D' y.p y.c 5 y.l ∧ Byt y.l ∧ y.st = (takeP x.st ix tm off (nums s)).1 ∧ v = .tuple #[.int .i64 (y.l.length : Nat), .bool ((takeP x.st ix tm off (nums s)).2 && dn)] ∧ Hs = [single b (.cells [Value.int .i64 y.ix, Value.int .i64 y.tm, Value.pointer (adr b y.u), Value.slice y.p y.l.length y.c].toArray 189 (0, 0)), D']) := by
  refine Ct.body Tryz.func245 rfl Tryz.ntmps245 rfl ?_
  intro E F
  refine q_sr (q_q q_as (q_an ?_))
  refine W.cutK (ι := RcD) (fun y => (OwnF y.D y.x.p y.x.c 5 y.x.l ∧ Byt y.x.l ∧ y.x.st = newP x.st ix tm ∧ y.x.l.length ≤ x.l.length)) (fun y => []) (fun y => [(1, single b (.cells [Value.int .i64 y.x.ix, Value.int .i64 y.x.tm, Value.pointer (adr b y.x.u), Value.slice y.x.p y.x.l.length y.x.c].toArray 189 (0, 0))), (2, y.D)]) (.of [0, 3, 4, 5] rfl) (.of [0] rfl) ?_ ?_
  ·
   refine q_sr (q_q q_mv (q_q q_mv ?_))
   refine q_q (Yld.buildP lay184 (.cons rfl rfl (.cons rfl rfl .nil)) rfl) ?_
   refine q_al 114 zc184 fun b14 => ?_
   refine q_s 114 sz184 ?_
   refine q_nn (q_k [0, 3, 4, 5, 14] [0, 1, 2, 114] ?_)
   refine W.seq ?_
   refine W.draw (.q 0 (.q 1 (.q 2 (.q 3 (.q 4 (.q 5 .done)))))) (.of [0, 1, 2, 114] rfl) mix (by kernel_rfl) (by kernel_rfl) (q_d rfl q_mv (q_d rfl q_np (q_d rfl (q_fa fo189_0) ?_)))
   refine q_d rfl (by first | exact (q_lw 1 u184 sz184) | exact (q_la 1 u184 sz184)) ?_
   refine q_d rfl (by first | exact (q_lw 114 u184 sz184) | exact (q_la 114 u184 sz184)) ?_
   refine q_d rfl (Yld.bin rfl rfl (BinV.neqT eqg184 (EqV.struct u184 sih184 (EqF.cons rfl (PartV.one u3 rfl rfl) (PartV.one u3 rfl rfl) (EqV.int u3) (EqF.cons rfl (PartV.one u3 rfl rfl) (PartV.one u3 rfl rfl) (EqV.int u3) EqF.nil))))) (DL.done (N.next (q_k [0, 3, 4, 5, 14, 24] [0, 1, 2, 114] ?_)))
   refine W.cond rfl (fun hc24 => ?_) (fun hc24 => ?_)
   ·
    have hne : ¬ (x.ix = ix ∧ x.tm = tm) := fun h => by simp [h.1, h.2] at hc24
    refine q_sr (q_q q_mv ?_)
    refine q_q (by first | exact (q_lw 114 u184 sz184) | exact (q_la 114 u184 sz184)) ?_
    refine q_q q_np (q_q (q_fa fo189_0) (q_s 1 sz184 ?_))
    refine q_nn (q_k [0, 3, 4, 5] [0, 1, 2, 114] ?_)
    refine W.region (q_q q_mv (q_q q_np (q_q (q_fa fo189_1) ?_)))
    refine q_e (q_c ent312 [1] [1] (bldReset_ct b (⟨ix, tm, x.u, x.p, x.c, x.l⟩ : Rc))) ?_
    rintro _ _ ⟨_, ⟨rfl, rfl⟩, rfl⟩
    refine RL.nil ?_
    refine N.imp (Imp.empty _ 2) ?_
    exact N.famK ⟨⟨ix, tm, false, none, 0, []⟩, emp⟩ ⟨OwnF.nil _, .nil, (if_neg hne).symm, Nat.zero_le _⟩ .nil (.to rfl) (.to rfl) (.to rfl)
   ·
    have heq : x.ix = ix ∧ x.tm = tm := by simp at hc24; exact hc24
    refine W.skip ?_
    exact N.famK ⟨x, D⟩ ⟨hO, hbt, (if_pos heq).symm, Nat.le_refl _⟩ .nil (.to rfl) (.to rfl) (.to rfl)
  rintro y ⟨hyO, hyb, hyn, hyl⟩
  refine q_k [0, 3, 4, 5] [1, 2, 0] ?_
  refine q_sr (q_q q_mv (q_q q_mv (q_q q_np (q_q (q_fa fo189_1) ?_))))
  refine q_e (q_c ent313 [1] [1] (bldLen_ct b y.x)) ?_
  rintro _ _ ⟨_, ⟨rfl, rfl⟩, rfl⟩
  refine q_q (q_b BinV.eql) (q_an ?_)
  refine q_k [0, 4, 5, 15] [0, 1, 2] ?_
  refine W.seq (q_sr (q_q q_mv (q_nn ?_)))
  first | refine W.condD rfl (fun hc39 => ?_) (fun hc39 => ?_) | (refine W.cond rfl (fun hc39 => ?_) (fun hc39 => ?_) <;> try simp only [Bool.or_eq_true, Bool.and_eq_true, Bool.not_eq_true', Bool.not_eq_false', decide_eq_true_eq, Bool.or_eq_false_iff, Bool.and_eq_false_iff, decide_eq_false_iff_not, beq_iff_eq, beq_eq_false_iff_ne, ne_eq, Decidable.not_not] at hc39)
  ·
   refine W.region (q_q q_mv (q_q q_np (q_q (q_fa fo189_1) (q_q q_mv ?_))))
   refine q_e (q_c ent314 [1, 2] [1, 2] (bldWrite_ct b y.x y.D hyO s (by omega))) ?_
   rintro _ _ ⟨_, ⟨D2, p2, c2, hO2, rfl⟩, rfl⟩
   refine q_nn (q_k [0, 5, 15] [0, 1, 2] ?_)
   refine q_sr (q_q q_mv (q_q q_np (q_q (q_fa fo189_1) ?_)))
   refine q_e (q_c ent313 [1] [1] (bldLen_ct b (⟨y.x.ix, y.x.tm, true, p2, c2, y.x.l ++ nums s⟩ : Rc))) ?_
   rintro _ _ ⟨_, ⟨rfl, rfl⟩, rfl⟩
   refine q_q q_mv (q_q q_mv ?_)
   refine' q_and 50 52 2 [0, 5, 15, 45, 46, 47, 48, 49] [0, 1, 2] ?_ ?_ ?_
   rotate_left 1
   ·
    intro hg50
    refine q_g q_mv (q_q Yld.pk ?_)
    exact q_m
   ·
    intro hg50
    refine q_gs (q_q Yld.pk ?_)
    exact q_m
   refine q_q q_as (q_an ?_)
   refine q_k [12, 13] [0, 1, 2] ?_
   refine W.ret ?_
   exact q_r [1, 2] (.cons (.tmp rfl) (.cons (.tmp rfl) .nil)) rfl rfl rfl ⟨⟨y.x.ix, y.x.tm, true, p2, c2, y.x.l ++ nums s⟩, D2, hO2, hyb.app (nums_byt s), by rw [takeP_pos hyn.symm hc39]; rfl, by rw [takeP_pos hyn.symm hc39]; show Value.tuple _ = _; rw [decide_eq_true hc39]; try rfl, rfl⟩
  ·
   refine W.skip (N.next (q_sr (q_q q_mv (q_q q_np (q_q (q_fa fo189_1) ?_)))))
   refine q_e (q_c ent313 [1] [1] (bldLen_ct b y.x)) ?_
   rintro _ _ ⟨_, ⟨rfl, rfl⟩, rfl⟩
   refine q_q q_mv (q_q q_mv ?_)
   refine' q_and 50 52 2 [0, 4, 5, 15, 39, 45, 46, 47, 48, 49] [0, 1, 2] ?_ ?_ ?_
   rotate_left 1
   ·
    intro hg50
    refine q_g q_mv (q_q Yld.pk ?_)
    exact q_m
   ·
    intro hg50
    refine q_gs (q_q Yld.pk ?_)
    exact q_m
   refine q_q q_as (q_an ?_)
   refine q_k [12, 13] [0, 1, 2] ?_
   refine W.ret ?_
   exact q_r [1, 2] (.cons (.tmp rfl) (.cons (.tmp rfl) .nil)) rfl rfl rfl ⟨y.x, y.D, hyO, hyb, by rw [takeP_neg hyn.symm hc39], by rw [takeP_neg hyn.symm hc39]; show Value.tuple _ = _; rw [decide_eq_false hc39]; try rfl, rfl⟩

set_option maxRecDepth 100000 in
set_option maxHeartbeats 1600000 in
theorem snap_ct (b : Nat) (x : Rc) (D : PH) (hO : OwnF D x.p x.c 5 x.l) (hbt : Byt x.l) : Ct Tryz.prog 246 [.pointer (some ⟨b, 0, none⟩)] [single b (.cells [Value.int .i64 x.ix, Value.int .i64 x.tm, Value.pointer (adr b x.u), Value.slice x.p x.l.length x.c].toArray 189 (0, 0)), D] (fun v Hs => ∃ (D' : PH), v = .tuple #[.int .i64 x.ix, .int .i64 x.tm, .string (strOfNums x.l)] ∧ OwnF D' x.p x.c 5 x.l ∧ Hs = [single b (.cells [Value.int .i64 x.ix, Value.int .i64 x.tm, Value.pointer (adr b x.u), Value.slice x.p x.l.length x.c].toArray 189 (0, 0)), D']) := by
  refine Ct.body Tryz.func246 rfl Tryz.ntmps246 rfl ?_
  intro E F
  refine q_sr (q_q q_as (q_q q_as (q_an ?_)))
  refine W.seq ?_
  refine W.draw (.q 0 (.q 1 (.q 2 (.q 3 (.q 4 (.q 5 (.q 6 (.q 7 (.q 8 (.q 9 (.q 10 (.q 11 (.q 12 (.one 13 (.q 14 (.q 15 (.q 16 .done))))))))))))))))) (.of [0, 1] rfl) mix (by kernel_rfl) (by kernel_rfl) (q_d rfl q_mv (q_d rfl q_np (q_d rfl (q_fa fo189_0) (q_d rfl (q_fa fo184_0) (q_d rfl (q_l 1 u3) (q_d rfl q_mv (q_d rfl q_np (q_d rfl (q_fa fo189_0) (q_d rfl (q_fa fo184_1) (q_d rfl (q_l 1 u3) ?_))))))))))
  refine q_d rfl q_mv (q_d rfl q_np (q_d rfl (q_fa fo189_1) ?_))
  refine q_o rfl (q_c ent315 [1, 2] [1, 2] (bldString_ct b x D hO hbt)) ?_
  rintro _ _ ⟨_, ⟨D2, rfl, hO2, rfl⟩, rfl⟩
  refine q_d rfl q_as (q_d rfl q_as (q_d rfl q_as (DL.done (N.next (q_k [2, 3, 4] [0, 1, 2] ?_)))))
  refine W.ret ?_
  exact q_r [1, 2] (.cons (.tmp rfl) (.cons (.tmp rfl) (.cons (.tmp rfl) .nil))) rfl rfl rfl ⟨D2, rfl, hO2, rfl⟩

end Go.Proofs.YtnakhfmnchmhjaaGreat
/- Cut and Take. Written by program (walk2.py). -/
namespace Go.Proofs.YtnakhfmnchmhjaaGreat
open SL Cfg
set_option linter.unusedVariables false
set_option linter.unusedSimpArgs false
theorem zc48 : zc Tryz.prog 48 [.int .i64 0, .int .i64 0, .string .empty] := (by kernel_rfl : ((Tryz.prog.info? 48).bind (·.zero)).map (fun v => v.cells.toList) = some [.int .i64 0, .int .i64 0, .string .empty])
theorem fo48_0 : fieldOff Tryz.prog 48 0 = some 0 := by kernel_rfl
theorem fo48_1 : fieldOff Tryz.prog 48 1 = some 1 := by kernel_rfl
theorem lay48 : layS Tryz.prog 48 = some ([.int .i64 0, .int .i64 0, .string .empty], [(0, 1), (1, 1), (2, 1)]) := by kernel_rfl
theorem sz48 : sz Tryz.prog 48 3 := (by kernel_rfl : (Tryz.prog.info? 48).map (·.size) = some 3)
theorem fo48_2 : fieldOff Tryz.prog 48 2 = some 2 := by kernel_rfl
abbrev u48 := @Tryz.underlying48
def Cfg.cutP (l : List Int) (off most : Int) : List Int × Bool × Int :=
  if off < 0 ∨ (l.length : Int) < off ∨ most < 1 then ([], false, 2) else if (l.length : Int) - off ≤ most then (l.drop off.toNat, true, 0) else ((l.drop off.toNat).take most.toNat, false, 0)
theorem Cfg.ext_tail (s : ByteArray) (a : Nat) : s.extract a s.size = strOfNums ((nums s).drop a) := by
  rw [ext_strZ, List.take_of_length_le (by rw [List.length_drop, strZ_len]; exact Nat.le_refl _)]; rfl
theorem Cfg.ext_head {d : List Int} (h : Byt d) (m : Nat) : (strOfNums d).extract 0 m = strOfNums (d.take m) := by
  rw [ext_strZ, show strZ (strOfNums d) = d from nums_str h]; simp
theorem Cfg.ext_mid (s : ByteArray) {a b m : Nat} (h : b = a + m) : s.extract a b = strOfNums (((nums s).drop a).take m) := by
  rw [ext_strZ, h, Nat.add_sub_cancel_left]; rfl

set_option maxRecDepth 100000 in
set_option maxHeartbeats 800000 in
theorem cut_ct (s : ByteArray) (hs : s.size ≤ 1000000) (off most : Int) : Ct Tryz.prog 301 [.string s, .int .i64 off, .int .i64 most] [] (fun v Hs => v = .tuple #[.string (strOfNums (cutP (nums s) off most).1), .bool (cutP (nums s) off most).2.1, .int .i64 (cutP (nums s) off most).2.2] ∧ Hs = []) := by
  refine Ct.body Tryz.func301 rfl Tryz.ntmps301 rfl ?_
  intro E F
  have hln := nums_len s
  have hbt := nums_byt s
  refine q_sr (q_q q_as (q_q q_as (q_an ?_)))
  refine W.seq (q_sr (q_q q_mv (q_q (q_b BinV.lss) (q_q q_mv ?_))))
  refine' q_or 12 17 5 [0, 1, 2, 6, 7, 8, 10, 11] [0] ?_ ?_ ?_
  rotate_left 1
  ·
   intro hg12
   refine q_g q_mv (q_g q_mv (q_g (q_ns u9) (q_g (q_b BinV.gtr) (q_q Yld.pk ?_))))
   exact q_m
  ·
   intro hg12
   repeat refine q_gs ?_
   refine q_q Yld.pk ?_
   exact q_m
  refine q_q q_mv ?_
  refine' q_or 18 21 3 [0, 1, 2, 6, 7, 8, 10, 11, 17] [0] ?_ ?_ ?_
  rotate_left 1
  ·
   intro hg18
   refine q_g q_mv (q_g (q_b BinV.lss) (q_q Yld.pk ?_))
   exact q_m
  ·
   intro hg18
   refine q_gs (q_gs (q_q Yld.pk ?_))
   exact q_m
  refine q_nn (q_k [0, 1, 2, 21] [0] ?_)
  first | refine W.condD rfl (fun hc21 => ?_) (fun hc21 => ?_) | (refine W.cond rfl (fun hc21 => ?_) (fun hc21 => ?_) <;> try simp only [Bool.or_eq_true, Bool.and_eq_true, Bool.not_eq_true', Bool.not_eq_false', decide_eq_true_eq, Bool.or_eq_false_iff, Bool.and_eq_false_iff, decide_eq_false_iff_not, beq_iff_eq, beq_eq_false_iff_ne, ne_eq, Decidable.not_not] at hc21)
  ·
   refine q_sr (q_q q_as (q_q q_as (q_an ?_)))
   refine q_k [6, 7, 8] [0] ?_
   refine W.ret (N.then_ret ?_)
   exact q_r [] (.cons (.tmp rfl) (.cons (.tmp rfl) (.cons (.tmp rfl) .nil))) rfl rfl rfl ⟨by show _ = Value.tuple _; unfold cutP; rw [if_pos (by omega)]; rfl, rfl⟩
  ·
   have hdl : ((nums s).drop off.toNat).length = s.size - off.toNat := by rw [List.length_drop, hln]
   refine W.skip (N.next (q_sr (q_q q_mv (q_q q_mv ?_))))
   refine q_q (Yld.eq (v' := .string (strOfNums ((nums s).drop off.toNat))) (Yld.sliceStrL u9 rfl rfl (by omega) (by first | omega | (simp; omega) | (rw [strOfNums_size, List.length_drop]; omega))) (congrArg Value.string (ext_tail s off.toNat))) ?_
   refine q_an ?_
   refine q_k [2, 9] [0] ?_
   refine W.seq (q_sr (q_q q_mv ?_))
   refine q_q (Yld.eq (v' := .int .i64 (((nums s).drop off.toNat).length : Nat)) (q_ns u9) (by rw [strOfNums_size])) (q_q q_mv (q_q (q_b BinV.leq) (q_nn ?_)))
   first | refine W.condD rfl (fun hc28 => ?_) (fun hc28 => ?_) | (refine W.cond rfl (fun hc28 => ?_) (fun hc28 => ?_) <;> try simp only [Bool.or_eq_true, Bool.and_eq_true, Bool.not_eq_true', Bool.not_eq_false', decide_eq_true_eq, Bool.or_eq_false_iff, Bool.and_eq_false_iff, decide_eq_false_iff_not, beq_iff_eq, beq_eq_false_iff_ne, ne_eq, Decidable.not_not] at hc28)
   ·
    refine q_sr (q_q q_mv (q_q q_as (q_q q_as (q_an ?_))))
    refine q_k [6, 7, 8] [0] ?_
    refine W.ret (N.then_ret ?_)
    exact q_r [] (.cons (.tmp rfl) (.cons (.tmp rfl) (.cons (.tmp rfl) .nil))) rfl rfl rfl ⟨by show _ = Value.tuple _; unfold cutP; rw [if_neg (by omega), if_pos (by omega)]; rfl, rfl⟩
   ·
    refine W.skip (N.next (q_k [2, 9] [0] ?_))
    refine q_sr (q_q q_mv (q_q q_mv ?_))
    refine q_q (Yld.eq (v' := .string (strOfNums (((nums s).drop off.toNat).take most.toNat))) (Yld.sliceStrH u9 rfl rfl (by omega) (by first | omega | (simp; omega) | (rw [strOfNums_size, List.length_drop]; omega))) (congrArg Value.string (ext_head (hbt.drop _) _))) ?_
    refine q_q q_as (q_q q_as (q_an ?_))
    refine q_k [6, 7, 8] [0] ?_
    refine W.ret ?_
    exact q_r [] (.cons (.tmp rfl) (.cons (.tmp rfl) (.cons (.tmp rfl) .nil))) rfl rfl rfl ⟨by show _ = Value.tuple _; unfold cutP; rw [if_neg (by omega), if_neg (by omega)]; rfl, rfl⟩

set_option maxRecDepth 100000 in
set_option maxHeartbeats 800000 in
theorem rcut_ct (s : ByteArray) (hs : s.size ≤ 1000000) (off most : Int) : Ct Tryz.prog 283 [.string s, .int .i64 off, .int .i64 most] [] (fun v Hs => v = .tuple #[.string (strOfNums (cutP (nums s) off most).1), .bool (cutP (nums s) off most).2.1, .int .i64 (cutP (nums s) off most).2.2] ∧ Hs = []) := by
  refine Ct.body Tryz.func283 rfl Tryz.ntmps283 rfl ?_
  intro E F
  have hln := nums_len s
  have hbt := nums_byt s
  refine q_sr (q_q q_as (q_q q_as (q_an ?_)))
  refine W.seq (q_sr (q_q q_mv (q_q (q_b BinV.lss) (q_q q_mv ?_))))
  refine' q_or 11 16 5 [0, 1, 2, 6, 7, 8, 9, 10] [0] ?_ ?_ ?_
  rotate_left 1
  ·
   intro hg11
   refine q_g q_mv (q_g q_mv (q_g (q_ns u9) (q_g (q_b BinV.gtr) (q_q Yld.pk ?_))))
   exact q_m
  ·
   intro hg11
   repeat refine q_gs ?_
   refine q_q Yld.pk ?_
   exact q_m
  refine q_q q_mv ?_
  refine' q_or 17 20 3 [0, 1, 2, 6, 7, 8, 9, 10, 16] [0] ?_ ?_ ?_
  rotate_left 1
  ·
   intro hg17
   refine q_g q_mv (q_g (q_b BinV.lss) (q_q Yld.pk ?_))
   exact q_m
  ·
   intro hg17
   refine q_gs (q_gs (q_q Yld.pk ?_))
   exact q_m
  refine q_nn (q_k [0, 1, 2, 20] [0] ?_)
  first | refine W.condD rfl (fun hc20 => ?_) (fun hc20 => ?_) | (refine W.cond rfl (fun hc20 => ?_) (fun hc20 => ?_) <;> try simp only [Bool.or_eq_true, Bool.and_eq_true, Bool.not_eq_true', Bool.not_eq_false', decide_eq_true_eq, Bool.or_eq_false_iff, Bool.and_eq_false_iff, decide_eq_false_iff_not, beq_iff_eq, beq_eq_false_iff_ne, ne_eq, Decidable.not_not] at hc20)
  ·
   refine q_sr (q_q q_as (q_q q_as (q_an ?_)))
   refine q_k [6, 7, 8] [0] ?_
   refine W.ret (N.then_ret ?_)
   exact q_r [] (.cons (.tmp rfl) (.cons (.tmp rfl) (.cons (.tmp rfl) .nil))) rfl rfl rfl ⟨by show _ = Value.tuple _; unfold cutP; rw [if_pos (by omega)]; rfl, rfl⟩
  ·
   refine W.skip (N.next (W.seq (q_sr (q_q q_mv (q_q (q_ns u9) (q_q q_mv ?_))))))
   refine q_q q_sb (q_q q_mv (q_q (q_b BinV.leq) (q_nn (q_k [0, 1, 2, 26] [0] ?_))))
   first | refine W.condD rfl (fun hc26 => ?_) (fun hc26 => ?_) | (refine W.cond rfl (fun hc26 => ?_) (fun hc26 => ?_) <;> try simp only [Bool.or_eq_true, Bool.and_eq_true, Bool.not_eq_true', Bool.not_eq_false', decide_eq_true_eq, Bool.or_eq_false_iff, Bool.and_eq_false_iff, decide_eq_false_iff_not, beq_iff_eq, beq_eq_false_iff_ne, ne_eq, Decidable.not_not] at hc26)
   ·
    refine q_sr (q_q q_mv (q_q q_mv ?_))
    refine q_q (Yld.eq (v' := .string (strOfNums ((nums s).drop off.toNat))) (Yld.sliceStrL u9 rfl rfl (by omega) (by first | omega | (simp; omega))) (congrArg Value.string (ext_tail s off.toNat))) ?_
    refine q_q q_as (q_q q_as (q_an ?_))
    refine q_k [6, 7, 8] [0] ?_
    refine W.ret (N.then_ret ?_)
    exact q_r [] (.cons (.tmp rfl) (.cons (.tmp rfl) (.cons (.tmp rfl) .nil))) rfl rfl rfl ⟨by show _ = Value.tuple _; unfold cutP; rw [if_neg (by omega), if_pos (by omega)]; rfl, rfl⟩
   ·
    refine W.skip (N.next (q_sr (q_q q_mv (q_q q_mv (q_q q_mv (q_q q_mv ?_))))))
    refine q_q q_ad ?_
    refine q_q (Yld.eq (v' := .string (strOfNums (((nums s).drop off.toNat).take most.toNat))) (Yld.sliceStr u9 rfl rfl rfl (by omega) (by omega) (by first | omega | (simp; omega))) (congrArg Value.string (ext_mid s (show (off + most).toNat = off.toNat + most.toNat by omega)))) ?_
    refine q_q q_as (q_q q_as (q_an ?_))
    refine q_k [6, 7, 8] [0] ?_
    refine W.ret ?_
    exact q_r [] (.cons (.tmp rfl) (.cons (.tmp rfl) (.cons (.tmp rfl) .nil))) rfl rfl rfl ⟨by show _ = Value.tuple _; unfold cutP; rw [if_neg (by omega), if_neg (by omega)]; rfl, rfl⟩

theorem Cfg.str_app {l : List Int} (s : ByteArray) : strOfNums l ++ s = strOfNums (l ++ nums s) := by
  have e : s = strOfNums (nums s) := (str_nums s).symm
  conv => lhs; rw [e]
  unfold strOfNums
  apply ByteArray.ext
  simp

set_option maxRecDepth 100000 in
set_option maxHeartbeats 1600000 in
theorem rtake41_ct (st : Int × Int × List Int) (hbt : Byt st.2.2) (ix tm off : Int) (s : ByteArray) (dn : Bool) (hb : st.2.2.length + s.size ≤ 1000000000) : Ct Tryz.prog 213 [.agg [.int .i64 st.1, .int .i64 st.2.1, .string (strOfNums st.2.2)].toArray, .int .i64 ix, .int .i64 tm, .int .i64 off, .string s, .bool dn] [] (fun v Hs => v = .tuple #[.agg [.int .i64 (takeP st ix tm off (nums s)).1.1, .int .i64 (takeP st ix tm off (nums s)).1.2.1, .string (strOfNums (takeP st ix tm off (nums s)).1.2.2)].toArray, .int .i64 ((takeP st ix tm off (nums s)).1.2.2.length : Nat), .bool ((takeP st ix tm off (nums s)).2 && dn)] ∧ Hs = []) := by
  refine Ct.body Tryz.func213 rfl Tryz.ntmps213 rfl ?_
  intro E F
  refine q_sr ?_
  refine q_bx 106 fun b6 => ?_
  refine q_al 112 zc48 fun b12 => ?_
  refine q_q q_as (q_an ?_)
  refine W.cutK (ι := Int × Int × List Int) (fun y => (Byt y.2.2 ∧ newP st ix tm = y ∧ y.2.2.length ≤ st.2.2.length)) (fun y => []) (fun y => [(106, single b6 (.cells [.int .i64 y.1, .int .i64 y.2.1, .string (strOfNums y.2.2)].toArray 48 (0, 0)))]) (.of [3, 4, 5, 6, 12] rfl) (.of [0, 112] rfl) ?_ ?_
  ·
   refine q_sr (q_q q_mv (q_q (q_fa fo48_0) (q_q (q_l 106 u3) (q_q (q_b BinV.neq) (q_q q_mv ?_)))))
   refine' q_or 19 24 5 [0, 1, 2, 3, 4, 5, 6, 12, 13, 14, 15, 16, 17, 18] [0, 106, 112] ?_ ?_ ?_
   rotate_left 1
   ·
    intro hg19
    refine q_g q_mv (q_g (q_fa fo48_1) (q_g (q_l 106 u3) (q_g (q_b BinV.neq) (q_q Yld.pk ?_))))
    exact q_m
   ·
    intro hg19
    repeat refine q_gs ?_
    refine q_q Yld.pk ?_
    exact q_m
   refine q_nn (q_k [1, 2, 3, 4, 5, 6, 12, 24] [0, 106, 112] ?_)
   first | refine W.condD rfl (fun hc24 => ?_) (fun hc24 => ?_) | (refine W.cond rfl (fun hc24 => ?_) (fun hc24 => ?_) <;> try simp only [Bool.or_eq_true, Bool.and_eq_true, Bool.not_eq_true', Bool.not_eq_false', decide_eq_true_eq, Bool.or_eq_false_iff, Bool.and_eq_false_iff, decide_eq_false_iff_not, beq_iff_eq, beq_eq_false_iff_ne, ne_eq, Decidable.not_not] at hc24)
   ·
    refine W.region (q_q q_mv (q_q q_mv ?_))
    refine q_q (Yld.buildP lay48 (.cons rfl rfl (.cons rfl rfl .nil)) rfl) (q_s 106 sz48 ?_)
    refine RL.nil ?_
    exact N.famK (ix, tm, []) ⟨.nil, if_neg (by omega), Nat.zero_le _⟩ .nil (.to rfl) (.to rfl) (.to rfl)
   ·
    refine W.skip ?_
    exact N.famK st ⟨hbt, if_pos (by omega), Nat.le_refl _⟩ .nil (.to rfl) (.to rfl) (.to rfl)
  rintro y ⟨hyb, hyn, hyl⟩
  refine q_k [3, 4, 5, 6, 12] [106, 0, 112] ?_
  refine W.seq (q_sr (q_q q_mv (q_q (q_fa fo48_2) (q_q (q_l 106 u9) ?_))))
  refine q_q (Yld.eq (v' := .int .i64 (y.2.2.length : Nat)) (q_ns u9) (by rw [strOfNums_size])) (q_q (q_b BinV.neq) (q_nn (q_k [4, 5, 6, 12, 32] [0, 106, 112] ?_)))
  first | refine W.condD rfl (fun hc32 => ?_) (fun hc32 => ?_) | (refine W.cond rfl (fun hc32 => ?_) (fun hc32 => ?_) <;> try simp only [Bool.or_eq_true, Bool.and_eq_true, Bool.not_eq_true', Bool.not_eq_false', decide_eq_true_eq, Bool.or_eq_false_iff, Bool.and_eq_false_iff, decide_eq_false_iff_not, beq_iff_eq, beq_eq_false_iff_ne, ne_eq, Decidable.not_not] at hc32)
  ·
   refine W.seq ?_
   refine W.draw (.q 0 (.q 1 (.q 2 (.q 3 (.one 4 (.q 5 (.q 6 .done))))))) (.of [0, 106] rfl) mix (by kernel_rfl) (by kernel_rfl) (q_d rfl (q_lw 106 u48 sz48) (q_d rfl (q_fa fo48_2) (q_d rfl (q_l 106 u9) ?_)))
   refine q_d rfl (Yld.eq (v' := .int .i64 (y.2.2.length : Nat)) (q_ns u9) (by rw [strOfNums_size])) ?_
   refine q_o0 rfl (q_st 112 sz48) ?_
   rintro _ _ rfl
   refine q_d rfl q_as (q_d rfl q_as (DL.done (N.next (q_k [12, 13, 14] [0, 106, 112] ?_))))
   refine W.ret (N.then_ret ?_)
   exact q_r [] (.cons (q_rc 112 u48 sz48) (.cons (.tmp rfl) (.cons (.tmp rfl) .nil))) rfl rfl rfl ⟨by rw [takeP_neg hyn hc32]; rfl, rfl⟩
  ·
   refine W.skip (N.next (q_sr (q_q (q_fa fo48_2) (q_q (q_l 106 u9) (q_q q_mv ?_)))))
   refine q_q (Yld.eq (v' := .string (strOfNums (y.2.2 ++ nums s))) (Yld.bin rfl rfl (BinV.addS (by rw [strOfNums_size]; omega))) (by rw [str_app s])) (q_q (q_fa fo48_2) (q_s 106 sz9 ?_))
   refine q_nn (q_k [5, 6, 12] [0, 106, 112] ?_)
   refine W.seq ?_
   refine W.draw (.q 0 (.q 1 (.q 2 (.q 3 (.q 4 (.one 5 (.q 6 (.q 7 .done)))))))) (.of [0, 106] rfl) mix (by kernel_rfl) (by kernel_rfl) (q_d rfl (q_lw 106 u48 sz48) (q_d rfl (q_fa fo48_2) (q_d rfl (q_l 106 u9) ?_)))
   refine q_d rfl (Yld.eq (v' := .int .i64 ((y.2.2 ++ nums s).length : Nat)) (q_ns u9) (by rw [strOfNums_size])) (q_d rfl q_mv ?_)
   refine q_o0 rfl (q_st 112 sz48) ?_
   rintro _ _ rfl
   refine q_d rfl q_as (q_d rfl q_as (DL.done (N.next (q_k [12, 13, 14] [0, 106, 112] ?_))))
   refine W.ret ?_
   exact q_r [] (.cons (q_rc 112 u48 sz48) (.cons (.tmp rfl) (.cons (.tmp rfl) .nil))) rfl rfl rfl ⟨by rw [takeP_pos hyn (by omega)]; rfl, rfl⟩

end Go.Proofs.YtnakhfmnchmhjaaGreat
/- Packed states. Written by program (walk2.py). -/
namespace Go.Proofs.YtnakhfmnchmhjaaGreat
open SL Cfg
set_option linter.unusedVariables false
set_option linter.unusedSimpArgs false
theorem ent91 : Ent Tryz.prog 91 := ⟨_, _, Tryz.func91, by kernel_rfl, rfl⟩
theorem ent92 : Ent Tryz.prog 92 := ⟨_, _, Tryz.func92, by kernel_rfl, rfl⟩
abbrev u191 := @Tryz.underlying191
def Cfg.encTs (ts : List ByteArray) : List Int := ts.flatMap fun s => encT (nums s)
theorem Cfg.encT_len {s : ByteArray} (h : s.size ≤ 280000) : (encT (nums s)).length ≤ s.size + 9 := by
  have := encN_len (n := ((nums s).length : Int)) ⟨by omega, by rw [nums_len]; omega⟩
  unfold encT
  rw [List.length_append, nums_len]
  rw [nums_len] at this
  omega
theorem Cfg.encTs_le : ∀ {ts : List ByteArray}, (∀ s ∈ ts, s.size ≤ 280000) → (encTs ts).length ≤ ts.length * 280009
  | [], _ => by simp [encTs]
  | s :: ts, h => by
    have h1 := encT_len (h s (by simp))
    have h3 := h s (by simp)
    have h2 := encTs_le (ts := ts) fun t ht => h t (List.mem_cons_of_mem _ ht)
    unfold encTs at h2 ⊢
    simp only [List.flatMap_cons, List.length_append, List.length_cons]
    omega
theorem Cfg.encTs_take {ts : List ByteArray} {i : Nat} {s : ByteArray} (h : ts[i]? = some s) : encTs (ts.take (i + 1)) = encTs (ts.take i) ++ encT (nums s) := by
  unfold encTs; rw [List.take_add_one, h]; simp
def Cfg.packL (a b g e : List Int) : List Int := encT a ++ encT b ++ encT g ++ encT e
theorem Cfg.str_row {b e : Nat} {ss : List ByteArray} {cs : List Value} (hcs : cs = ss.map Value.string) (hm : ss.length ≤ 100) : Sl (single b (.cells cs.toArray e (0, 0))) (some ⟨b, 0, none⟩) ss.length 1 (ss.map fun s => [Value.string s]) := by
  have hf : (ss.map fun s => [Value.string s]).flatten = ss.map Value.string := by
    clear hcs hm
    induction ss with
    | nil => rfl
    | cons s ss ih => simp [ih]
  have := (Own.mk (b := b) (c := ss.length) (e := e) (n := 1) (ls := ss.map fun s => [Value.string s]) [] (fun r hr => by obtain ⟨s, _, rfl⟩ := List.mem_map.1 hr; exact ⟨rfl, by simp [Value.oneCell']⟩) (by simp) (by simp only [maxLen]; omega) (by rw [List.append_nil, hf]; simp) (cs := cs) (by rw [hcs, List.append_nil, hf])).sl
  exact this
theorem Cfg.encC_byt {o n l : List Int} (ho : AllI o) (hn : AllI n) (hl : AllI l) (h1 : o.length ≤ 10000) (h2 : n.length ≤ 10000) (h3 : l.length ≤ 10000) : Byt (encC o n l) := ((encL_byt ho (by omega)).app (encL_byt hn (by omega))).app (encL_byt hl (by omega))
theorem Cfg.encC_le {o n l : List Int} (ho : AllI o) (hn : AllI n) (hl : AllI l) (h1 : o.length ≤ 10000) (h2 : n.length ≤ 10000) (h3 : l.length ≤ 10000) : (encC o n l).length ≤ 270027 := by
  have e1 := encL_le ho (by omega)
  have e2 := encL_le hn (by omega)
  have e3 := encL_le hl (by omega)
  unfold encC
  simp only [List.length_append]
  omega
structure Cfg.Cf.Sm (x : Cf) : Prop where
  o : AllI x.o
  n : AllI x.n
  l : AllI x.l
  ho : x.o.length ≤ 10000
  hn : x.n.length ≤ 10000
  hl : x.l.length ≤ 10000
theorem Cfg.Cf.Sm.ss {x : Cf} (h : x.Sm) : SmS [(x.po, x.co, x.o), (x.pn, x.cn, x.n), (x.pl, x.cl, x.l)] := fun s hs => by
  simp only [List.mem_cons, List.not_mem_nil, or_false] at hs
  rcases hs with rfl | rfl | rfl
  · exact ⟨h.o, h.ho⟩
  · exact ⟨h.n, h.hn⟩
  · exact ⟨h.l, h.hl⟩
def Cfg.Cf.enc (x : Cf) : List Int := encC x.o x.n x.l
theorem Cfg.Cf.Sm.byt {x : Cf} (h : x.Sm) : Byt x.enc := encC_byt h.o h.n h.l h.ho h.hn h.hl
theorem Cfg.Cf.Sm.le {x : Cf} (h : x.Sm) : x.enc.length ≤ 270027 := encC_le h.o h.n h.l h.ho h.hn h.hl

set_option maxRecDepth 100000 in
set_option maxHeartbeats 800000 in
theorem pack_ct (a b g : ByteArray) (ha : a.size ≤ 100000) (hb : b.size ≤ 100000) (hg : g.size ≤ 100000) (x : Cf) (H1 : PH) (hx : x.In H1) (hsm : x.Sm) : Ct Tryz.prog 35 [.string a, .string b, .string g, .agg [.slice x.po x.o.length x.co, .slice x.pn x.n.length x.cn, .slice x.pl x.l.length x.cl].toArray] [H1] (fun v Hs => v = .string (strOfNums (packL (nums a) (nums b) (nums g) x.enc)) ∧ Hs = [H1]) := by
  refine Ct.body Tryz.func35 rfl Tryz.ntmps35 rfl ?_
  intro E F
  obtain ⟨ts, hts⟩ : ∃ ts, ts = [a, b, g, strOfNums x.enc] := ⟨_, rfl⟩
  have hle := hsm.le
  have hsz : (strOfNums x.enc).size = x.enc.length := strOfNums_size _
  have hts4 : ts.length = 4 := by rw [hts]; rfl
  have htz : ∀ s ∈ ts, s.size ≤ 280000 := by rw [hts]; intro s hs; simp only [List.mem_cons, List.not_mem_nil, or_false] at hs; rcases hs with rfl | rfl | rfl | rfl <;> omega
  refine q_sr ?_
  refine q_bx 107 fun b7 => ?_
  refine q_an ?_
  refine q_sr (q_an ?_)
  refine W.seq (W.seq ?_)
  refine W.imp (Imp.empty _ 30) (W.region (q_q q_mv (q_q q_mv (q_q q_mv (q_q (q_lw 107 u86 sz86) ?_)))))
  refine q_e (q_c ent91 [1] [1] (enc_ct x H1 hx hsm.ss)) ?_
  rintro _ _ ⟨_, ⟨rfl, rfl⟩, rfl⟩
  refine q_e (Eff.buildSlice 117 u191 sz9 zc9 rfl rfl (.cons rfl rfl (.cons rfl rfl (.cons rfl rfl (.cons rfl rfl .nil)))) rfl) ?_
  rintro _ _ ⟨b17, rfl, rfl⟩
  refine q_q (q_n u191) (q_q q_mv (q_nn (q_k [9, 17, 18, 19] [0, 1, 30, 107, 117] ?_)))
  refine W.block ?_
  refine W.loopK (ι := CI) (fun y => (y.i ≤ 4 ∧ Own y.H y.p y.c 5 1 (bz (encTs (ts.take y.i))))) (fun y => [(9, .slice y.p (encTs (ts.take y.i)).length y.c), (19, .int .i64 (y.i : Nat))]) (fun y => [(30, y.H)]) (fun y => 4 - y.i) (.of [17, 18] rfl) (.of [0, 1, 107, 117] rfl) ⟨0, emp, none, 0⟩ ?_ ?_ ?_ ?_
  · exact ⟨Nat.zero_le _, Own.nil _ _⟩
  · exact (q_a (q_a .nil))
  · exact (.to rfl)
  rintro y ⟨hy, hO⟩
  refine q_k [9, 19, 17, 18] [30, 0, 1, 107, 117] ?_
  have hG : Sl (single b17 _) (some ⟨b17, 0, none⟩) 4 1 (ts.map fun s => [Value.string s]) := hts4 ▸ str_row (b := b17) (e := 9) (cs := [.string a, .string b, .string g, .string (strOfNums x.enc)]) (by rw [hts]; rfl) (by omega)
  have hle2 := encTs_le (ts := ts.take y.i) fun s hs => htz s (List.mem_of_mem_take hs)
  have htk : (ts.take y.i).length ≤ y.i := by rw [List.length_take]; omega
  refine q_sr (q_q (q_b BinV.lss) (q_nn (W.seq ?_)))
  first | refine W.condD rfl (fun hc20 => ?_) (fun hc20 => ?_) | (refine W.cond rfl (fun hc20 => ?_) (fun hc20 => ?_) <;> try simp only [Bool.or_eq_true, Bool.and_eq_true, Bool.not_eq_true', Bool.not_eq_false', decide_eq_true_eq, Bool.or_eq_false_iff, Bool.and_eq_false_iff, decide_eq_false_iff_not, beq_iff_eq, beq_eq_false_iff_ne, ne_eq, Decidable.not_not] at hc20)
  ·
   obtain ⟨s, hs⟩ : ∃ s, ts[y.i]? = some s := ⟨_, List.getElem?_eq_getElem (show y.i < ts.length by omega)⟩
   have hls : (ts.map fun s => [Value.string s])[y.i]? = some [.string s] := by simp [hs]
   have hsz2 := htz s (List.mem_of_getElem? hs)
   refine W.skip (N.next (W.seq (W.block (q_sr ?_))))
   refine q_q (Yld.indexRow u191 sz9 rfl rfl hG (by simp [hts4]) (by omega) (by rw [List.length_map]; omega)) ?_
   refine q_q (Yld.loadRow1 (cl := 117) u9 rfl rfl rfl hG hls) (q_an ?_)
   refine W.region (q_q q_mv (q_q q_mv ?_))
   refine q_e (Eff.call ent92 [30] [30] (.cons rfl (.cons rfl .nil)) (addT_ct (encTs (ts.take y.i)) _ _ _ hO s (by omega) (by omega)) rfl rfl rfl rfl (by rintro _ _ ⟨_, _, _, _, _, rfl⟩; rfl)) ?_
   rintro _ _ ⟨_, ⟨Ha, pa, ca, rfl, hOa, rfl⟩, rfl⟩
   refine q_q q_as (RL.nil (N.block_normal (N.next (q_k [9, 17, 18, 19] [0, 1, 30, 107, 117] ?_))))
   refine W.region ?_
   refine q_q q_ad (q_q q_mv (RL.nil ?_))
   exact N.famK ⟨y.i + 1, Ha, pa, ca⟩ ⟨⟨by dsimp only; omega, by dsimp only; rw [encTs_take hs]; exact hOa⟩, by dsimp only; omega⟩ (.as rfl (by show Value.slice _ _ _ = Value.slice _ _ _; dsimp only; rw [encTs_take hs]) (q_a .nil)) (.to rfl) (.to rfl) (.to rfl)
  ·
   have hend : y.i = ts.length := by omega
   rw [hend, List.take_length] at hO ⊢
   have hfin : encTs ts = packL (nums a) (nums b) (nums g) x.enc := by rw [hts]; simp [encTs, packL, nums_str hsm.byt]
   refine W.exit (N.then_exit (N.then_exit (N.block_eq (N.next (q_k [9] [0, 1, 30, 107, 117] ?_)))))
   refine q_sr (q_q q_mv ?_)
   refine q_q (Yld.bytesStr (cl := 30) u152 u5 u9 rfl rfl hO.sl rfl) (q_an ?_)
   refine W.ret ?_
   exact q_r [1] (.cons (.tmp rfl) .nil) rfl rfl rfl ⟨by rw [hfin]; rfl, rfl⟩

end Go.Proofs.YtnakhfmnchmhjaaGreat
/- Packed states, unpacked. Written by program (walk2.py). -/
namespace Go.Proofs.YtnakhfmnchmhjaaGreat
open SL Cfg
set_option linter.unusedVariables false
set_option linter.unusedSimpArgs false
theorem ent73 : Ent Tryz.prog 73 := ⟨_, _, Tryz.func73, by kernel_rfl, rfl⟩
theorem ent323 : Ent Tryz.prog 323 := ⟨_, _, Tryz.func323, by kernel_rfl, rfl⟩
theorem ent321 : Ent Tryz.prog 321 := ⟨_, _, Tryz.func321, by kernel_rfl, rfl⟩
theorem ent322 : Ent Tryz.prog 322 := ⟨_, _, Tryz.func322, by kernel_rfl, rfl⟩
theorem sz158 : sz Tryz.prog 158 1 := (by kernel_rfl : (Tryz.prog.info? 158).map (·.size) = some 1)
theorem zc150 : zc Tryz.prog 150 [.pointer none] := (by kernel_rfl : ((Tryz.prog.info? 150).bind (·.zero)).map (fun v => v.cells.toList) = some [.pointer none])
theorem sz150 : sz Tryz.prog 150 1 := (by kernel_rfl : (Tryz.prog.info? 150).map (·.size) = some 1)
theorem zc395 : zc Tryz.prog 395 [.string .empty, .string .empty, .string .empty, .string .empty] := (by kernel_rfl : ((Tryz.prog.info? 395).bind (·.zero)).map (fun v => v.cells.toList) = some [.string .empty, .string .empty, .string .empty, .string .empty])
theorem zc158 : zc Tryz.prog 158 [.nilFunc] := (by kernel_rfl : ((Tryz.prog.info? 158).bind (·.zero)).map (fun v => v.cells.toList) = some [.nilFunc])
abbrev u395 := @Tryz.underlying395
abbrev u398 := @Tryz.underlying398
abbrev u158 := @Tryz.underlying158
def Cfg.tv (l : List Int) : Value := .string (strOfNums l)
def Cfg.rdTs : Nat → RS → List (List Int) × RS
  | 0, s => ([], s)
  | k + 1, s => ((rdTs k s).1 ++ [(rdT (rdTs k s).2).1], (rdT (rdTs k s).2).2)
theorem Cfg.rdTs_byt {s : RS} (h : Byt s.1) (k : Nat) : Byt (rdTs k s).2.1 ∧ ∀ l ∈ (rdTs k s).1, Byt l := by
  induction k with
  | zero => exact ⟨h, fun l hl => by cases hl⟩
  | succ k ih =>
    refine ⟨(rdT_byt ih.1).2, fun l hl => ?_⟩
    rcases List.mem_append.1 hl with hl | hl
    · exact ih.2 l hl
    · simp only [List.mem_singleton] at hl; subst hl; exact (rdT_byt ih.1).1
theorem Cfg.rdTs_len (k : Nat) (s : RS) : (rdTs k s).1.length = k := by
  induction k with
  | zero => rfl
  | succ k ih => simp [rdTs, ih]
theorem Cfg.rdT_le {s : RS} : (rdT s).1.length ≤ s.1.length ∧ (rdT s).2.1.length ≤ s.1.length := by
  unfold rdT
  split
  · simp
  · split
    · rename_i n r e
      have := decN_short e
      split
      · simp
      · simp only [List.length_take, List.length_drop]; omega
    · simp
theorem Cfg.rdTs_le {s : RS} (k : Nat) : (rdTs k s).2.1.length ≤ s.1.length ∧ ∀ l ∈ (rdTs k s).1, l.length ≤ s.1.length := by
  induction k with
  | zero => exact ⟨Nat.le_refl _, fun l hl => by cases hl⟩
  | succ k ih =>
    have := rdT_le (s := (rdTs k s).2)
    refine ⟨Nat.le_trans this.2 ih.1, fun l hl => ?_⟩
    rcases List.mem_append.1 hl with hl | hl
    · exact ih.2 l hl
    · simp only [List.mem_singleton] at hl; subst hl; exact Nat.le_trans this.1 ih.1
theorem Cfg.put_tv {qs r : List (List Int)} {c d : List Int} : putAt ((qs ++ c :: r).map tv) qs.length [tv d] = (qs ++ d :: r).map tv := by
  have h := putAt_right (a := qs.map tv) (r := tv c :: r.map tv) (o := 0) (vs := [tv d])
  rw [List.length_map, Nat.add_zero] at h
  rw [List.map_append, List.map_cons, h, List.map_append, List.map_cons]
  simp [putAt]
def Cfg.cf0 : Cf := ⟨[], [], [], none, 0, none, 0, none, 0⟩
structure Cfg.US where
  x : Rd
  ps : List (List Int)
  cf : Cf
  E : PH
structure Cfg.UT where
  x : Rd
  qs : List (List Int)
def Cfg.UR (l : List Int) : Nat → US → Prop
  | 0, t => t.x.s = (l, 0) ∧ t.ps = [[], [], [], []] ∧ t.cf = cf0 ∧ t.E = emp
  | 1, t => (t.ps, t.x.s) = rdTs 4 (l, 0) ∧ rdE (rdTs 4 (l, 0)).2 = 0 ∧ t.cf = cf0 ∧ t.E = emp
  | _, t => (t.ps, t.x.s) = rdTs 4 (l, 0) ∧ rdE (rdTs 4 (l, 0)).2 = 0 ∧ t.cf.In t.E ∧ ∃ e, t.ps[3]? = some e ∧ decR e t.cf 0
def Cfg.badU (l : List Int) : Prop := ¬ (rdE (rdTs 4 (l, 0)).2 = 0 ∧ ∃ e w, (rdTs 4 (l, 0)).1[3]? = some e ∧ decR e w 0)
theorem Cfg.decR_zero {l : List Int} {y w : Cf} {c : Int} (h : decR l y c) (h2 : decR l w 0) : c = 0 := by
  rcases h with ⟨h, _⟩ | ⟨_, _, h⟩
  · exact h
  · rcases h2 with ⟨_, h3, h4, h5⟩ | ⟨h3, _⟩
    · exact absurd ⟨h3, w, h4, h5⟩ h
    · cases h3

set_option maxRecDepth 100000 in
set_option maxHeartbeats 1600000 in
theorem unpA_ct (r b7 b8 b9 : Nat) (x : Rd) (B E0 : PH) (cf : Cf) (hx : x.In B) : Ct Tryz.prog 321 [.pointer (some ⟨b7, 0, none⟩), .pointer (some ⟨b8, 0, none⟩)] [single r (.cells [.slice x.p x.l.length x.c, .int .i64 x.e].toArray 261 (0, 0)), B, single b7 (.cells [Value.pointer (some ⟨r, 0, none⟩)].toArray 150 (0, 0)), single b8 (.cells (([[], [], [], []]).map tv).toArray 395 (0, 0)), single b9 (.cells [Value.slice cf.po cf.o.length cf.co, Value.slice cf.pn cf.n.length cf.cn, Value.slice cf.pl cf.l.length cf.cl].toArray 86 (0, 0)), E0] (fun v Hs => ∃ (y : Rd) (ps : List (List Int)), y.In B ∧ (ps, y.s) = rdTs 4 x.s ∧ v = .int .i64 (rdE y.s) ∧ Hs = [single r (.cells [.slice y.p y.l.length y.c, .int .i64 y.e].toArray 261 (0, 0)), B, single b7 (.cells [Value.pointer (some ⟨r, 0, none⟩)].toArray 150 (0, 0)), single b8 (.cells ((ps).map tv).toArray 395 (0, 0)), single b9 (.cells [Value.slice cf.po cf.o.length cf.co, Value.slice cf.pn cf.n.length cf.cn, Value.slice cf.pl cf.l.length cf.cl].toArray 86 (0, 0)), E0]) := by
  refine Ct.body Tryz.func321 rfl Tryz.ntmps321 rfl ?_
  intro E F
  refine q_sr (q_an ?_)
  refine W.seq (q_sr (q_q q_mv (q_nn (W.block ?_))))
  refine W.loopK (ι := UT) (fun w => (w.qs.length ≤ 4 ∧ w.x.In B ∧ (w.qs, w.x.s) = (rdTs w.qs.length x.s))) (fun w => [(4, .int .i64 (w.qs.length : Nat))]) (fun w => [(1, single r (.cells [.slice w.x.p w.x.l.length w.x.c, .int .i64 w.x.e].toArray 261 (0, 0))), (4, single b8 (.cells ((w.qs ++ List.replicate (4 - w.qs.length) []).map tv).toArray 395 (0, 0)))]) (fun w => 4 - w.qs.length) (.of [0, 1] rfl) (.of [0, 2, 3, 5, 6] rfl) ⟨x, []⟩ ?_ ?_ ?_ ?_
  · exact ⟨Nat.zero_le _, hx, rfl⟩
  · exact (q_a .nil)
  · exact (.to rfl)
  rintro w ⟨hw4, hw, hwR⟩
  refine q_k [4, 0, 1] [1, 4, 0, 2, 3, 5, 6] ?_
  obtain ⟨e1, e2⟩ := Prod.mk.inj hwR
  refine q_sr (q_q (q_b BinV.lss) (q_nn (W.seq ?_)))
  first | refine W.condD rfl (fun hc5 => ?_) (fun hc5 => ?_) | (refine W.cond rfl (fun hc5 => ?_) (fun hc5 => ?_) <;> try simp only [Bool.or_eq_true, Bool.and_eq_true, Bool.not_eq_true', Bool.not_eq_false', decide_eq_true_eq, Bool.or_eq_false_iff, Bool.and_eq_false_iff, decide_eq_false_iff_not, beq_iff_eq, beq_eq_false_iff_ne, ne_eq, Decidable.not_not] at hc5)
  ·
   rw [show 4 - w.qs.length = 3 - w.qs.length + 1 by omega, List.replicate_succ]
   refine W.skip (N.next (W.seq (W.block (q_sr (q_q q_mv (q_an ?_))))))
   refine W.region (q_q q_mv (q_q (q_l 3 u150) ?_))
   refine q_e (q_c ent73 [1, 2] [1, 2] (Text_ct r w.x B hw)) ?_
   rintro _ _ ⟨_, ⟨y, hy, hys, rfl, rfl⟩, rfl⟩
   refine q_q (Yld.eq (v' := .pointer (some ⟨b8, w.qs.length, none⟩)) (Yld.indexAr u395 sz9 rfl rfl (by omega) (by omega)) (by simp)) ?_
   refine RL.e0 (Eff.storeS (c := 4) [tv (rdT w.x.s).1] sz9 rfl rfl rfl rfl rfl (by rw [Nat.ble_eq]; simp) rfl put_tv) ?_
   rintro _ _ rfl
   refine RL.nil (N.block_normal (N.next (q_k [0, 1, 4] [0, 1, 2, 3, 4, 5, 6] ?_)))
   refine W.region ?_
   refine q_q q_ad (q_q q_mv (RL.nil ?_))
   exact N.famK ⟨y, w.qs ++ [(rdT w.x.s).1]⟩ ⟨⟨by dsimp only; rw [List.length_append, List.length_singleton]; omega, hy, by dsimp only; rw [List.length_append, List.length_singleton]; simp only [rdTs]; rw [← e1, ← e2, hys]⟩, by dsimp only; rw [List.length_append, List.length_singleton]; omega⟩ (.as rfl (by show Value.int .i64 _ = Value.int .i64 _; congr 1; simp) .nil) (.to rfl) (.cons rfl (.as rfl (by dsimp only; rw [List.append_assoc, List.length_append, List.length_singleton, List.singleton_append, show 4 - (w.qs.length + 1) = 3 - w.qs.length by omega]) .nil)) (.to rfl)
  ·
   have h4 : w.qs.length = 4 := by omega
   rw [h4] at hwR ⊢
   rw [show w.qs ++ List.replicate (4 - 4) [] = w.qs by simp]
   refine W.exit (N.then_exit (N.then_exit (N.block_eq (N.next (q_sr (q_q (q_l 3 u150) ?_))))))
   refine q_e (q_c ent75 [1, 2] [1, 2] (End_ct r w.x B hw)) ?_
   rintro _ _ ⟨_, ⟨rfl, rfl⟩, rfl⟩
   refine q_an ?_
   refine q_k [2] [0, 1, 2, 3, 4, 5, 6] ?_
   refine W.ret ?_
   exact q_r [1, 2, 3, 4, 5, 6] (.cons (.tmp rfl) .nil) rfl rfl rfl ⟨w.x, w.qs, hw, hwR, rfl, rfl⟩

set_option maxRecDepth 100000 in
set_option maxHeartbeats 1600000 in
theorem unpB_ct (b8 b9 : Nat) (R B K7 E0 : PH) (p0 p1 p2 p3 : List Int) (hb : Byt p3) (hl : p3.length ≤ 400000) : Ct Tryz.prog 322 [.pointer (some ⟨b8, 0, none⟩), .pointer (some ⟨b9, 0, none⟩)] [R, B, K7, single b8 (.cells (([p0, p1, p2, p3]).map tv).toArray 395 (0, 0)), single b9 (.cells [Value.slice cf0.po cf0.o.length cf0.co, Value.slice cf0.pn cf0.n.length cf0.cn, Value.slice cf0.pl cf0.l.length cf0.cl].toArray 86 (0, 0)), E0] (fun v Hs => ∃ (y : Cf) (code : Int) (H : PH), v = .int .i64 code ∧ y.In H ∧ decR p3 y code ∧ Hs = [R, B, K7, single b8 (.cells (([p0, p1, p2, p3]).map tv).toArray 395 (0, 0)), single b9 (.cells [Value.slice y.po y.o.length y.co, Value.slice y.pn y.n.length y.cn, Value.slice y.pl y.l.length y.cl].toArray 86 (0, 0)), H]) := by
  refine Ct.body Tryz.func322 rfl Tryz.ntmps322 rfl ?_
  intro E F
  refine q_sr (q_an ?_)
  refine q_sr ?_
  refine q_q (Yld.indexAr u395 sz9 rfl rfl (by omega) (by omega)) (q_q (q_l 4 u9) ?_)
  refine q_e (q_c ent323 [] [40] (dec_ct (strOfNums p3) (by rw [strOfNums_size]; exact hl))) ?_
  rintro _ _ ⟨_, ⟨y, code, H, rfl, hyI, hyR, rfl⟩, rfl⟩
  rw [nums_str hb] at hyR
  refine q_q q_mv (q_q q_x (q_q q_x (q_s 5 sz86 ?_)))
  refine q_an ?_
  refine q_k [2] [0, 1, 2, 3, 4, 5, 6, 40] ?_
  refine q_sr (q_q q_mv (q_an ?_))
  refine W.ret ?_
  exact q_r [1, 2, 3, 4, 5, 40] (.cons (.tmp rfl) .nil) rfl rfl rfl ⟨y, code, H, rfl, hyI, hyR, rfl⟩

def Cfg.capU (b7 b8 b9 : Nat) (i : Nat) : List Value := if i = 0 then [.pointer (some ⟨b7, 0, none⟩), .pointer (some ⟨b8, 0, none⟩)] else [.pointer (some ⟨b8, 0, none⟩), .pointer (some ⟨b9, 0, none⟩)]
def Cfg.fnU (i : Nat) : Nat := if i = 0 then 321 else 322
theorem entU (i : Nat) : Ent Tryz.prog (fnU i) := by unfold fnU; split; exact ent321; exact ent322
theorem stepU_ct (l : List Int) (hl : Byt l) (hn : l.length ≤ 400000) (r b7 b8 b9 i : Nat) (B : PH) (t : US) (hi : i < 2) (hx : t.x.In B) (h : UR l i t) : Ct Tryz.prog (fnU i) ([] ++ [] ++ capU b7 b8 b9 i) [single r (.cells [.slice t.x.p t.x.l.length t.x.c, .int .i64 t.x.e].toArray 261 (0, 0)), B, single b7 (.cells [Value.pointer (some ⟨r, 0, none⟩)].toArray 150 (0, 0)), single b8 (.cells ((t.ps).map tv).toArray 395 (0, 0)), single b9 (.cells [Value.slice t.cf.po t.cf.o.length t.cf.co, Value.slice t.cf.pn t.cf.n.length t.cf.cn, Value.slice t.cf.pl t.cf.l.length t.cf.cl].toArray 86 (0, 0)), t.E]
    (fun v Hs => ∃ (t' : US) (code : Int), v = .int .i64 code ∧ t'.x.In B ∧ (code = 0 → UR l (i + 1) t') ∧ (code ≠ 0 → badU l) ∧ Hs = [single r (.cells [.slice t'.x.p t'.x.l.length t'.x.c, .int .i64 t'.x.e].toArray 261 (0, 0)), B, single b7 (.cells [Value.pointer (some ⟨r, 0, none⟩)].toArray 150 (0, 0)), single b8 (.cells ((t'.ps).map tv).toArray 395 (0, 0)), single b9 (.cells [Value.slice t'.cf.po t'.cf.o.length t'.cf.co, Value.slice t'.cf.pn t'.cf.n.length t'.cf.cn, Value.slice t'.cf.pl t'.cf.l.length t'.cf.cl].toArray 86 (0, 0)), t'.E]) := by
  match i, hi with
  | 0, _ =>
    obtain ⟨h1, h2, h3, h4⟩ := h
    have := unpA_ct r b7 b8 b9 t.x B t.E t.cf hx
    rw [h2]
    refine Ct.mono this ?_
    rintro v Hs ⟨y, ps, hy, hps, rfl, rfl⟩
    rw [h1] at hps
    refine ⟨⟨y, ps, t.cf, t.E⟩, _, rfl, hy, fun h => ⟨hps, ?_, h3, h4⟩, fun h => ?_, rfl⟩
    · rw [← hps]; exact h
    · rintro ⟨h5, _⟩; rw [← hps] at h5; exact h h5
  | 1, _ =>
    obtain ⟨h1, h2, h3, h4⟩ := h
    have h5 : t.ps.length = 4 := by have := rdTs_len 4 (l, 0); rw [← h1] at this; exact this
    obtain ⟨p0, p1, p2, p3, hp⟩ : ∃ a b c d, t.ps = [a, b, c, d] := by
      match hh : t.ps, h5 with
      | [a, b, c, d], _ => exact ⟨a, b, c, d, rfl⟩
    have h6 : Byt p3 ∧ p3.length ≤ 400000 := by
      have e1 := (rdTs_byt (s := (l, 0)) hl 4).2 p3 (by rw [← h1, hp]; simp)
      have e2 := (rdTs_le (s := (l, 0)) 4).2 p3 (by rw [← h1, hp]; simp)
      exact ⟨e1, Nat.le_trans e2 hn⟩
    have := unpB_ct b8 b9 (single r (.cells [.slice t.x.p t.x.l.length t.x.c, .int .i64 t.x.e].toArray 261 (0, 0))) B (single b7 (.cells [Value.pointer (some ⟨r, 0, none⟩)].toArray 150 (0, 0))) t.E p0 p1 p2 p3 h6.1 h6.2
    rw [hp, h3]
    refine Ct.mono this ?_
    rintro v Hs ⟨y, code, H, rfl, hyI, hyR, rfl⟩
    refine ⟨⟨t.x, [p0, p1, p2, p3], y, H⟩, code, rfl, hx, fun h => ⟨by rw [← hp]; exact h1, h2, hyI, p3, rfl, h ▸ hyR⟩, fun h => ?_, rfl⟩
    rintro ⟨_, e, w, he, hw⟩
    rw [← h1, hp] at he
    simp at he
    subst he
    exact h (decR_zero hyR hw)

def Cfg.unpR (l a b g : List Int) (y : Cf) (code : Int) : Prop :=
  (code = 0 ∧ rdE (rdTs 4 (l, 0)).2 = 0 ∧ ∃ e, (rdTs 4 (l, 0)).1 = [a, b, g, e] ∧ decR e y 0) ∨ (code = 11 ∧ a = [] ∧ b = [] ∧ g = [] ∧ y = cf0 ∧ badU l)

set_option maxRecDepth 100000 in
set_option maxHeartbeats 1600000 in
theorem unpack_ct (s : ByteArray) (hs : s.size ≤ 400000) : Ct Tryz.prog 258 [.string s] [] (fun v Hs => ∃ (a b g : List Int) (y : Cf) (code : Int) (H : PH), v = .tuple #[tv a, tv b, tv g, .agg [.slice y.po y.o.length y.co, .slice y.pn y.n.length y.cn, .slice y.pl y.l.length y.cl].toArray, .int .i64 code] ∧ y.In H ∧ unpR (nums s) a b g y code ∧ Hs = [H]) := by
  refine Ct.body Tryz.func258 rfl Tryz.ntmps258 rfl ?_
  intro E F
  have hbt := nums_byt s
  have hln := nums_len s
  refine q_sr (q_q q_as (q_q q_as (q_q q_as ?_)))
  refine q_al 105 zc86 fun b5 => ?_
  refine q_an ?_
  refine q_k [0, 5] [0, 105] ?_
  refine q_sr (q_q q_mv ?_)
  refine q_e (Eff.strBytes 114 u9 u152 u5 rfl (by first | omega | (simp only [maxLen]; omega))) ?_
  rintro _ _ ⟨H14, p14, c14, rfl, hS14, rfl⟩
  refine q_e (Eff.call ent71 [114] [114, 150, 151] (.cons rfl .nil) (newReader_ct (nums s) _ _ _ hS14 (by omega) hbt) rfl rfl rfl rfl (by rintro _ _ ⟨_, _, _, _, _, _, rfl⟩; rfl)) ?_
  rintro _ _ ⟨_, ⟨r, x, B, rfl, hx, hxs, rfl⟩, rfl⟩
  refine q_al 107 zc150 fun b7 => ?_
  refine q_s 107 sz150 ?_
  refine q_nn (q_k [5, 7] [0, 105, 107, 114, 150, 151] ?_)
  refine q_sr ?_
  refine q_al 108 zc395 fun b8 => ?_
  refine q_nn (q_sr ?_)
  refine q_al 109 zc86 fun b9 => ?_
  refine q_nn (W.seq ?_)
  refine W.imp (Imp.empty _ 131) (W.region ?_)
  refine q_q (Yld.makeFunc eval0 (eval2 rfl rfl)) ?_
  refine q_q (Yld.makeFunc eval0 (eval2 rfl rfl)) ?_
  refine q_e (Eff.buildSlice 118 u398 sz158 zc158 rfl rfl (.cons rfl rfl (.cons rfl rfl .nil)) rfl) ?_
  rintro _ _ ⟨b18, rfl, rfl⟩
  refine q_an ?_
  refine q_k [5, 8, 9, 10] [0, 105, 107, 108, 109, 114, 118, 131, 150, 151] ?_
  refine W.seq (q_sr (q_q q_mv (q_q (q_n u398) (q_q q_mv (q_nn (W.block ?_))))))
  refine W.loopK (ι := US × Nat) (fun y => (y.2 ≤ 2 ∧ y.1.x.In B ∧ UR (nums s) y.2 y.1)) (fun y => [(21, .int .i64 (y.2 : Nat))]) (fun y => [(108, single b8 (.cells ((y.1.ps).map tv).toArray 395 (0, 0))), (109, single b9 (.cells [Value.slice y.1.cf.po y.1.cf.o.length y.1.cf.co, Value.slice y.1.cf.pn y.1.cf.n.length y.1.cf.cn, Value.slice y.1.cf.pl y.1.cf.l.length y.1.cf.cl].toArray 86 (0, 0))), (131, y.1.E), (150, single r (.cells [.slice y.1.x.p y.1.x.l.length y.1.x.c, .int .i64 y.1.x.e].toArray 261 (0, 0)))]) (fun y => 2 - y.2) (.of [5, 8, 9, 19, 20] rfl) (.of [0, 105, 107, 114, 118, 151] rfl) (⟨x, [[], [], [], []], cf0, emp⟩, 0) ?_ ?_ ?_ ?_
  · exact ⟨Nat.zero_le _, hx, hxs, rfl, rfl, rfl⟩
  · exact (q_a .nil)
  · exact (.to rfl)
  rintro y ⟨hy2, hyx, hyU⟩
  refine q_k [21, 5, 8, 9, 19, 20] [108, 109, 131, 150, 0, 105, 107, 114, 118, 151] ?_
  have hG : Sl (single b18 _) (some ⟨b18, 0, none⟩) 2 1 [[Value.func (.func 321) [].toArray [Value.pointer (some ⟨b7, 0, none⟩), Value.pointer (some ⟨b8, 0, none⟩)].toArray], [Value.func (.func 322) [].toArray [Value.pointer (some ⟨b8, 0, none⟩), Value.pointer (some ⟨b9, 0, none⟩)].toArray]] := (Own.mk (b := b18) (c := 2) (e := 158) (n := 1) (ls := [[Value.func (.func 321) [].toArray [Value.pointer (some ⟨b7, 0, none⟩), Value.pointer (some ⟨b8, 0, none⟩)].toArray], [Value.func (.func 322) [].toArray [Value.pointer (some ⟨b8, 0, none⟩), Value.pointer (some ⟨b9, 0, none⟩)].toArray]]) [] (by intro q hq; simp only [List.mem_cons, List.not_mem_nil, or_false] at hq; rcases hq with rfl | rfl <;> exact ⟨rfl, by simp [Value.oneCell']⟩) (by simp) (by simp only [maxLen]; omega) (by rfl) (by rfl)).sl
  refine q_sr (q_q (q_b BinV.lss) (q_nn (W.seq ?_)))
  first | refine W.condD rfl (fun hc22 => ?_) (fun hc22 => ?_) | (refine W.cond rfl (fun hc22 => ?_) (fun hc22 => ?_) <;> try simp only [Bool.or_eq_true, Bool.and_eq_true, Bool.not_eq_true', Bool.not_eq_false', decide_eq_true_eq, Bool.or_eq_false_iff, Bool.and_eq_false_iff, decide_eq_false_iff_not, beq_iff_eq, beq_eq_false_iff_ne, ne_eq, Decidable.not_not] at hc22)
  ·
   obtain ⟨i, hi⟩ : ∃ i, y.2 = i := ⟨_, rfl⟩
   rw [hi] at hyU ⊢
   have hi2 : i < 2 := by omega
   have hlf : ([[Value.func (.func 321) [].toArray [Value.pointer (some ⟨b7, 0, none⟩), Value.pointer (some ⟨b8, 0, none⟩)].toArray], [Value.func (.func 322) [].toArray [Value.pointer (some ⟨b8, 0, none⟩), Value.pointer (some ⟨b9, 0, none⟩)].toArray]])[i]? = some [Value.func (.func (fnU i)) [].toArray (capU b7 b8 b9 i).toArray] := by
     match i, hi2 with
     | 0, _ => rfl
     | 1, _ => rfl
   refine W.skip (N.next (W.seq (W.block (q_sr ?_))))
   refine q_q (Yld.indexRow u398 sz158 rfl rfl hG (by rfl) (by omega) (by simp; omega)) ?_
   refine q_q (Yld.loadRow1 (cl := 118) u158 rfl rfl rfl hG hlf) (q_an ?_)
   refine q_sr (q_q q_mv ?_)
   refine q_e (Eff.callV (entU i) [150, 151, 107, 108, 109, 131] [150, 151, 107, 108, 109, 131] rfl .nil (stepU_ct (nums s) hbt (by omega) r b7 b8 b9 i B y.1 hi2 hyx hyU) rfl rfl rfl rfl (by rintro _ _ ⟨_, _, _, _, _, _, rfl⟩; rfl)) ?_
   rintro _ _ ⟨_, ⟨t', code, rfl, htx, ht0, ht1, rfl⟩, rfl⟩
   refine q_q (q_b BinV.neq) (q_nn (q_k [5, 8, 9, 19, 20, 21, 27] [0, 105, 107, 108, 109, 114, 118, 131, 150, 151] ?_))
   first | refine W.condD rfl (fun hc27 => ?_) (fun hc27 => ?_) | (refine W.cond rfl (fun hc27 => ?_) (fun hc27 => ?_) <;> try simp only [Bool.or_eq_true, Bool.and_eq_true, Bool.not_eq_true', Bool.not_eq_false', decide_eq_true_eq, Bool.or_eq_false_iff, Bool.and_eq_false_iff, decide_eq_false_iff_not, beq_iff_eq, beq_eq_false_iff_ne, ne_eq, Decidable.not_not] at hc27)
   ·
    refine q_sr ?_
    refine q_q (Yld.buildP lay86 .nil rfl) (q_q q_as (q_q q_as (q_q q_as (q_s 105 sz86 ?_))))
    refine q_an ?_
    refine q_k [2, 3, 4, 5, 6] [0, 105, 107, 108, 109, 114, 118, 131, 150, 151] ?_
    refine W.ret (N.block_ret (N.then_ret (N.then_ret (N.block_ret (N.then_ret ?_)))))
    exact q_r [131] (.cons (.tmp rfl) (.cons (.tmp rfl) (.cons (.tmp rfl) (.cons (q_rc 105 u86 sz86) (.cons (.tmp rfl) .nil))))) rfl rfl rfl ⟨[], [], [], cf0, 11, _, rfl, ⟨⟨rfl, rfl⟩, ⟨rfl, rfl⟩, ⟨rfl, rfl⟩⟩, .inr ⟨rfl, rfl, rfl, rfl, rfl, ht1 hc27⟩, rfl⟩
   ·
    refine W.skip (N.block_normal (N.next (W.region ?_)))
    refine q_q q_ad (q_q q_mv (RL.nil ?_))
    exact N.famK (t', i + 1) ⟨⟨by omega, htx, ht0 (by omega)⟩, by omega⟩ (q_a .nil) (.to rfl) (.to rfl) (.to rfl)
  ·
   obtain ⟨t, i⟩ := y
   dsimp only at *
   obtain rfl : i = 2 := by omega
   obtain ⟨hU1, hU2, hU3, e, hU4, hU5⟩ := hyU
   have h5 : t.ps.length = 4 := by have := rdTs_len 4 (nums s, 0); rw [← hU1] at this; exact this
   obtain ⟨p0, p1, p2, p3, hp⟩ : ∃ a b c d, t.ps = [a, b, c, d] := by
     match hh : t.ps, h5 with
     | [a, b, c, d], _ => exact ⟨a, b, c, d, rfl⟩
   rw [hp] at hU4 ⊢
   obtain rfl : p3 = e := Option.some.inj hU4
   refine W.exit (N.then_exit (N.then_exit (N.block_eq (N.next (q_k [5, 8, 9] [0, 105, 107, 108, 109, 114, 118, 131, 150, 151] ?_)))))
   refine W.seq ?_
   refine W.draw (.q 0 (.q 1 (.q 2 (.q 3 (.q 4 (.q 5 (.q 6 (.q 7 (.q 8 (.q 9 (.one 10 (.q 11 .done)))))))))))) (.of [0, 107, 108, 109, 114, 118, 131, 150, 151] rfl) mix (by kernel_rfl) (by kernel_rfl) ?_
   refine q_d rfl (Yld.indexAr u395 sz9 rfl rfl (by omega) (by omega)) (q_d rfl (q_l 108 u9) ?_)
   refine q_d rfl (Yld.indexAr u395 sz9 rfl rfl (by omega) (by omega)) (q_d rfl (q_l 108 u9) ?_)
   refine q_d rfl (Yld.indexAr u395 sz9 rfl rfl (by omega) (by omega)) (q_d rfl (q_l 108 u9) (q_d rfl (q_lw 109 u86 sz86) (q_d rfl q_as (q_d rfl q_as (q_d rfl q_as ?_)))))
   refine q_o0 rfl (q_st 105 sz86) ?_
   rintro _ _ rfl
   refine q_d rfl q_as (DL.done (N.next (q_k [2, 3, 4, 5, 6] [0, 105, 107, 108, 109, 114, 118, 131, 150, 151] ?_)))
   refine W.ret ?_
   exact q_r [131] (.cons (.tmp rfl) (.cons (.tmp rfl) (.cons (.tmp rfl) (.cons (q_rc 105 u86 sz86) (.cons (.tmp rfl) .nil))))) rfl rfl rfl ⟨p0, p1, p2, t.cf, 0, _, rfl, hU3, .inl ⟨rfl, hU2, p3, by rw [← hU1, hp], hU5⟩, rfl⟩

end Go.Proofs.YtnakhfmnchmhjaaGreat
/- Entries, records and messages of a replica as bytes: in plain Lean. -/
namespace Go.Proofs.YtnakhfmnchmhjaaGreat.Rpl
open Cfg
set_option linter.unusedVariables false
set_option linter.unusedSimpArgs false

/-- an entry with its command, its change and its configuration -/
structure En where
  ix : Int
  tm : Int
  kd : Int
  cl : Int
  nu : Int
  bd : List Int
  ge : Int
  st : Int
  hk : Int
  hm : Int
  fr : List Int
  to : List Int
  o : List Int
  n : List Int
  l : List Int
  deriving DecidableEq
structure Rc where
  kd : Int
  tm : Int
  vo : Int
  ix : Int
  sa : List Int
  es : List En
  deriving DecidableEq
structure Mg where
  gr : Int
  fm : Int
  to : Int
  kd : Int
  tm : Int
  ix : Int
  lt : Int
  co : Int
  gd : Bool
  es : List En
  of : Int
  da : List Int
  dn : Bool
  deriving DecidableEq

/-! ### what is written -/
def encIs (l : List Int) : List Int := l.flatMap encZ
def encLi (l : List Int) : List Int := encZ (l.length : Nat) ++ encIs l
def encB (b : Bool) : List Int := [if b then 1 else 0]
def En.h1 (e : En) : List Int := [e.ix, e.tm, e.kd, e.cl, e.nu]
def En.h2 (e : En) : List Int := [e.ge, e.st, e.hk, e.hm]
def encE (e : En) : List Int := encIs e.h1 ++ (encT e.bd ++ (encIs e.h2 ++ (encLi e.fr ++ (encLi e.to ++ (encLi e.o ++ (encLi e.n ++ encLi e.l))))))
def encEs (l : List En) : List Int := encZ (l.length : Nat) ++ l.flatMap encE
def encRc (x : Rc) : List Int := encIs [x.kd, x.tm, x.vo, x.ix] ++ (encT x.sa ++ encEs x.es)
def encMg (m : Mg) : List Int := encIs [m.gr, m.fm, m.to, m.kd, m.tm, m.ix, m.lt, m.co, m.of] ++ (encB m.gd ++ (encB m.dn ++ (encT m.da ++ encEs m.es)))
structure En.OK (e : En) : Prop where
  h1 : AllI e.h1
  h2 : AllI e.h2
  bd : Byt e.bd
  bl : e.bd.length ≤ 1000000
  fr : AllI e.fr ∧ e.fr.length ≤ 1000000
  to : AllI e.to ∧ e.to.length ≤ 1000000
  o : AllI e.o ∧ e.o.length ≤ 1000000
  n : AllI e.n ∧ e.n.length ≤ 1000000
  l : AllI e.l ∧ e.l.length ≤ 1000000

/-! ### what is read -/
/-- the length of a list: one that is not possible makes the reader fail -/
def rdM (s : RS) : Nat × RS := let a := rdZ s; if a.1 < 0 ∨ (a.2.1.length : Int) < a.1 then (0, (rdC a.2 (-1)).2) else (a.1.toNat, a.2)
def rdLi (s : RS) : List Int × RS := rdZs (rdM s).1 (rdM s).2
def rdB (s : RS) : Bool × RS := if s.2 ≠ 0 then (false, s) else match s.1 with
  | [] => (false, ([], 11))
  | x :: r => if 1 < x then (false, ([], 11)) else (decide (x = 1), (r, 0))
def g5 (l : List Int) (i : Nat) : Int := l.getD i 0
def rdEn (s : RS) : En × RS :=
  let a := rdZs 5 s; let b := rdT a.2; let c := rdZs 4 b.2; let f := rdLi c.2; let t := rdLi f.2; let o := rdLi t.2; let n := rdLi o.2; let l := rdLi n.2
  (⟨g5 a.1 0, g5 a.1 1, g5 a.1 2, g5 a.1 3, g5 a.1 4, b.1, g5 c.1 0, g5 c.1 1, g5 c.1 2, g5 c.1 3, f.1, t.1, o.1, n.1, l.1⟩, l.2)
def rdEns : Nat → RS → List En × RS
  | 0, s => ([], s)
  | k + 1, s => ((rdEns k s).1 ++ [(rdEn (rdEns k s).2).1], (rdEn (rdEns k s).2).2)
def rdEs (s : RS) : List En × RS := rdEns (rdM s).1 (rdM s).2
def rdRc (s : RS) : Rc × RS :=
  let a := rdZs 4 s; let b := rdT a.2; let e := rdEs b.2
  (⟨g5 a.1 0, g5 a.1 1, g5 a.1 2, g5 a.1 3, b.1, e.1⟩, e.2)
def rdMg (s : RS) : Mg × RS :=
  let a := rdZs 9 s; let g := rdB a.2; let d := rdB g.2; let b := rdT d.2; let e := rdEs b.2
  (⟨g5 a.1 0, g5 a.1 1, g5 a.1 2, g5 a.1 3, g5 a.1 4, g5 a.1 5, g5 a.1 6, g5 a.1 7, g.1, e.1, g5 a.1 8, b.1, d.1⟩, e.2)

/-! ### what was written is read -/
theorem rdI_enc {k : Nat} {xs : List Int} (hk : xs.length = k) (h : AllI xs) (r : List Int) : rdZs k (encIs xs ++ r, 0) = (xs, (r, 0)) := by
  subst hk; exact rdZs_enc xs r h
theorem encIs_pos (xs : List Int) : xs.length ≤ (encIs xs).length := encZs_len xs
theorem i64_nat {n : Nat} (h : n ≤ 1000000) : I64 (n : Int) := ⟨by omega, by omega⟩
theorem rdM_enc {n : Nat} (h : n ≤ 1000000) {r : List Int} (hr : n ≤ r.length) : rdM (encZ (n : Nat) ++ r, 0) = (n, (r, 0)) := by
  unfold rdM
  rw [rdZ_enc (i64_nat h)]
  simp only
  rw [if_neg (by omega)]; simp
theorem rdLi_enc {xs : List Int} (h : AllI xs ∧ xs.length ≤ 1000000) (r : List Int) : rdLi (encLi xs ++ r, 0) = (xs, (r, 0)) := by
  unfold rdLi encLi
  rw [List.append_assoc, rdM_enc h.2 (by rw [List.length_append]; have := encIs_pos xs; omega)]
  exact rdI_enc rfl h.1 r
theorem rdB_enc (b : Bool) (r : List Int) : rdB (encB b ++ r, 0) = (b, (r, 0)) := by
  unfold rdB encB
  cases b <;> simp
theorem rdEn_enc {e : En} (h : e.OK) (r : List Int) : rdEn (encE e ++ r, 0) = (e, (r, 0)) := by
  unfold rdEn encE
  simp only [List.append_assoc]
  rw [rdI_enc (k := 5) rfl h.h1]; simp only
  rw [rdT_enc (by have := h.bl; omega)]; simp only
  rw [rdI_enc (k := 4) rfl h.h2]; simp only
  rw [rdLi_enc h.fr]; simp only
  rw [rdLi_enc h.to]; simp only
  rw [rdLi_enc h.o]; simp only
  rw [rdLi_enc h.n]; simp only
  rw [rdLi_enc h.l]
  rfl
theorem encE_pos (e : En) : 1 ≤ (encE e).length := by
  unfold encE
  have := encIs_pos e.h1
  rw [List.length_append]
  have h5 : e.h1.length = 5 := rfl
  omega
theorem encEs_pos : ∀ l : List En, l.length ≤ (l.flatMap encE).length
  | [] => Nat.le_refl _
  | a :: l => by rw [List.flatMap_cons, List.length_append, List.length_cons]; have := encE_pos a; have := encEs_pos l; omega
theorem rdEns_enc : ∀ (k : Nat) (l : List En) (r : List Int), k ≤ l.length → (∀ e ∈ l, e.OK) → rdEns k (l.flatMap encE ++ r, 0) = (l.take k, ((l.drop k).flatMap encE ++ r, 0))
  | 0, l, r, _, _ => by simp [rdEns]
  | k + 1, l, r, hk, h => by
    have hd : l.drop k = l[k] :: l.drop (k + 1) := List.drop_eq_getElem_cons hk
    unfold rdEns
    rw [rdEns_enc k l r (by omega) h, hd, List.flatMap_cons, List.append_assoc]
    simp only
    rw [rdEn_enc (h _ (List.getElem_mem hk))]
    simp only
    rw [List.take_add_one, List.getElem?_eq_getElem hk]; rfl
theorem rdEs_enc {l : List En} (h : ∀ e ∈ l, e.OK) (hl : l.length ≤ 1000000) (r : List Int) : rdEs (encEs l ++ r, 0) = (l, (r, 0)) := by
  unfold rdEs encEs
  rw [List.append_assoc, rdM_enc hl (by rw [List.length_append]; have := encEs_pos l; omega)]
  simp only
  rw [rdEns_enc _ l r (Nat.le_refl _) h, List.take_length, List.drop_length]; rfl
structure Rc.OK (x : Rc) : Prop where
  hd : AllI [x.kd, x.tm, x.vo, x.ix]
  sb : Byt x.sa
  sl : x.sa.length ≤ 1000000
  es : ∀ e ∈ x.es, e.OK
  el : x.es.length ≤ 1000000
structure Mg.OK (m : Mg) : Prop where
  hd : AllI [m.gr, m.fm, m.to, m.kd, m.tm, m.ix, m.lt, m.co, m.of]
  sb : Byt m.da
  sl : m.da.length ≤ 1000000
  es : ∀ e ∈ m.es, e.OK
  el : m.es.length ≤ 1000000
theorem rdRc_enc {x : Rc} (h : x.OK) : rdRc (encRc x, 0) = (x, ([], 0)) := by
  have e0 : encRc x = encIs [x.kd, x.tm, x.vo, x.ix] ++ (encT x.sa ++ (encEs x.es ++ [])) := by unfold encRc; rw [List.append_nil]
  unfold rdRc
  rw [e0, rdI_enc (k := 4) rfl h.hd]; simp only
  rw [rdT_enc (by have := h.sl; omega)]; simp only
  rw [rdEs_enc h.es h.el]
  rfl
theorem rdMg_enc {m : Mg} (h : m.OK) : rdMg (encMg m, 0) = (m, ([], 0)) := by
  have e0 : encMg m = encIs [m.gr, m.fm, m.to, m.kd, m.tm, m.ix, m.lt, m.co, m.of] ++ (encB m.gd ++ (encB m.dn ++ (encT m.da ++ (encEs m.es ++ [])))) := by unfold encMg; rw [List.append_nil]
  unfold rdMg
  rw [e0, rdI_enc (k := 9) rfl h.hd]; simp only
  rw [rdB_enc]; simp only
  rw [rdB_enc]; simp only
  rw [rdT_enc (by have := h.sl; omega)]; simp only
  rw [rdEs_enc h.es h.el]
  rfl

/-! ### what is read was written -/
theorem rdI_keep {k : Nat} {s : RS} {r : List Int} (h : (rdZs k s).2 = (r, 0)) (hb : Byt s.1) : s.2 = 0 ∧ s.1 = encIs (rdZs k s).1 ++ r := rdZs_keep h hb
theorem rdC_bad {s : RS} {r : List Int} : (rdC s (-1)).2 ≠ (r, 0) := by
  obtain ⟨l, e⟩ := s
  unfold rdC
  split
  · rename_i h; intro e2; cases e2; exact h rfl
  split
  · rw [if_pos (.inl (by decide))]; intro e2; cases e2
  · intro e2; cases e2
theorem rdM_keep {s : RS} {r : List Int} (h : (rdM s).2 = (r, 0)) (hb : Byt s.1) : s.2 = 0 ∧ s.1 = encZ ((rdM s).1 : Nat) ++ r := by
  unfold rdM at h ⊢
  simp only at h ⊢
  split at h
  · exact absurd h rdC_bad
  · rename_i hn
    rw [if_neg hn]
    obtain ⟨h1, h2⟩ := rdZ_keep h hb
    refine ⟨h1, ?_⟩
    simp only
    rw [show (((rdZ s).1.toNat : Nat) : Int) = (rdZ s).1 by omega]
    exact h2
theorem rdM_byt {s : RS} (hb : Byt s.1) : Byt (rdM s).2.1 := by
  unfold rdM
  simp only
  split
  · exact rdC_byt (rdZ_byt hb)
  · exact rdZ_byt hb
theorem rdLi_byt {s : RS} (hb : Byt s.1) : Byt (rdLi s).2.1 := rdZs_byt (rdM_byt hb) _
theorem rdLi_keep {s : RS} {r : List Int} (h : (rdLi s).2 = (r, 0)) (hb : Byt s.1) : s.2 = 0 ∧ s.1 = encLi (rdLi s).1 ++ r := by
  have hm := rdM_byt hb
  obtain ⟨h1, h2⟩ := rdI_keep (k := (rdM s).1) (s := (rdM s).2) h hm
  obtain ⟨h3, h4⟩ := rdM_keep (s := s) (r := (rdM s).2.1) (Prod.ext rfl h1) hb
  refine ⟨h3, ?_⟩
  unfold encLi
  rw [show (rdLi s).1.length = (rdM s).1 from rdZs_len _ _, List.append_assoc]
  show s.1 = _ ++ (encIs (rdZs _ _).1 ++ r)
  rw [← h2]; exact h4
theorem rdB_keep {s : RS} {r : List Int} (h : (rdB s).2 = (r, 0)) (hb : Byt s.1) : s.2 = 0 ∧ s.1 = encB (rdB s).1 ++ r := by
  obtain ⟨l, e⟩ := s
  unfold rdB at h ⊢
  simp only at h ⊢
  split at h
  · rename_i he; cases h; exact absurd rfl he
  · rename_i he
    rw [Classical.not_not] at he
    subst he
    rw [if_neg (by simp)]
    cases l with
    | nil => cases h
    | cons x l =>
      simp only at h ⊢
      have hx := hb x (by simp)
      split at h
      · cases h
      · rename_i h1
        cases h
        rw [if_neg h1]
        refine ⟨by trivial, ?_⟩
        unfold encB
        by_cases h2 : x = 1
        · subst h2; rfl
        · have : x = 0 := by omega
          subst this; rfl
theorem rdB_byt {s : RS} (hb : Byt s.1) : Byt (rdB s).2.1 := by
  obtain ⟨l, e⟩ := s
  unfold rdB
  simp only
  split
  · exact hb
  · cases l with
    | nil => exact Byt.nil
    | cons x l =>
      simp only
      split
      · exact Byt.nil
      · exact fun z hz => hb z (by simp [hz])
theorem list5 {l : List Int} (h : l.length = 5) : l = [g5 l 0, g5 l 1, g5 l 2, g5 l 3, g5 l 4] := by
  match l, h with
  | [a, b, c, d, e], _ => rfl
theorem list4 {l : List Int} (h : l.length = 4) : l = [g5 l 0, g5 l 1, g5 l 2, g5 l 3] := by
  match l, h with
  | [a, b, c, d], _ => rfl
theorem list9 {l : List Int} (h : l.length = 9) : l = [g5 l 0, g5 l 1, g5 l 2, g5 l 3, g5 l 4, g5 l 5, g5 l 6, g5 l 7, g5 l 8] := by
  match l, h with
  | [a, b, c, d, e, f, g, h, i], _ => rfl
theorem rdEn_byt {s : RS} (hb : Byt s.1) : Byt (rdEn s).2.1 :=
  rdLi_byt (rdLi_byt (rdLi_byt (rdLi_byt (rdLi_byt (rdZs_byt (rdT_byt (rdZs_byt hb 5)).2 4)))))
theorem rdEn_keep {s : RS} {r : List Int} (h : (rdEn s).2 = (r, 0)) (hb : Byt s.1) : s.2 = 0 ∧ s.1 = encE (rdEn s).1 ++ r := by
  have b1 := rdZs_byt hb 5
  have b2 := (rdT_byt b1).2
  have b3 := rdZs_byt b2 4
  have b4 := rdLi_byt b3
  have b5 := rdLi_byt b4
  have b6 := rdLi_byt b5
  have b7 := rdLi_byt b6
  obtain ⟨c7, e7⟩ := rdLi_keep (s := (rdLi (rdLi (rdLi (rdLi (rdZs 4 (rdT (rdZs 5 s).2).2).2).2).2).2).2) h b7
  obtain ⟨c6, e6⟩ := rdLi_keep (r := (rdLi (rdLi (rdLi (rdLi (rdZs 4 (rdT (rdZs 5 s).2).2).2).2).2).2).2.1) (Prod.ext rfl c7) b6
  obtain ⟨c5, e5⟩ := rdLi_keep (r := (rdLi (rdLi (rdLi (rdZs 4 (rdT (rdZs 5 s).2).2).2).2).2).2.1) (Prod.ext rfl c6) b5
  obtain ⟨c4, e4⟩ := rdLi_keep (r := (rdLi (rdLi (rdZs 4 (rdT (rdZs 5 s).2).2).2).2).2.1) (Prod.ext rfl c5) b4
  obtain ⟨c3, e3⟩ := rdLi_keep (r := (rdLi (rdZs 4 (rdT (rdZs 5 s).2).2).2).2.1) (Prod.ext rfl c4) b3
  obtain ⟨c2, e2⟩ := rdI_keep (k := 4) (r := (rdZs 4 (rdT (rdZs 5 s).2).2).2.1) (Prod.ext rfl c3) b2
  obtain ⟨c1, e1⟩ := rdT_keep (r := (rdT (rdZs 5 s).2).2.1) (Prod.ext rfl c2) b1
  obtain ⟨c0, e0⟩ := rdI_keep (k := 5) (r := (rdZs 5 s).2.1) (Prod.ext rfl c1) hb
  refine ⟨c0, ?_⟩
  have l5 := list5 (rdZs_len 5 s)
  have l4 := list4 (rdZs_len 4 (rdT (rdZs 5 s).2).2)
  have k5 : (rdEn s).1.h1 = (rdZs 5 s).1 := l5.symm
  have k4 : (rdEn s).1.h2 = (rdZs 4 (rdT (rdZs 5 s).2).2).1 := l4.symm
  unfold encE
  rw [k5, k4]
  simp only [List.append_assoc]
  rw [e0, e1, e2, e3, e4, e5, e6, e7]
  unfold rdEn
  simp only
theorem rdEns_len : ∀ (k : Nat) (s : RS), (rdEns k s).1.length = k
  | 0, _ => rfl
  | k + 1, s => by show (_ ++ [_]).length = _; rw [List.length_append, rdEns_len k s]; rfl
theorem rdEns_byt : ∀ (k : Nat) {s : RS}, Byt s.1 → Byt (rdEns k s).2.1
  | 0, _, h => h
  | k + 1, _, h => rdEn_byt (rdEns_byt k h)
theorem rdEns_keep : ∀ (k : Nat) {s : RS} {r : List Int}, (rdEns k s).2 = (r, 0) → Byt s.1 → s.2 = 0 ∧ s.1 = (rdEns k s).1.flatMap encE ++ r
  | 0, s, r, h, _ => by
    have h2 : s = (r, 0) := h
    subst h2; exact ⟨rfl, rfl⟩
  | k + 1, s, r, h, hb => by
    obtain ⟨c1, e1⟩ := rdEn_keep (s := (rdEns k s).2) h (rdEns_byt k hb)
    obtain ⟨c0, e0⟩ := rdEns_keep k (s := s) (r := (rdEns k s).2.1) (Prod.ext rfl c1) hb
    refine ⟨c0, ?_⟩
    show s.1 = ((rdEns k s).1 ++ [(rdEn (rdEns k s).2).1]).flatMap encE ++ r
    rw [List.flatMap_append, List.append_assoc]
    simp only [List.flatMap_cons, List.flatMap_nil, List.append_nil]
    rw [← e1]; exact e0
theorem rdEs_byt {s : RS} (hb : Byt s.1) : Byt (rdEs s).2.1 := rdEns_byt _ (rdM_byt hb)
theorem rdEs_keep {s : RS} {r : List Int} (h : (rdEs s).2 = (r, 0)) (hb : Byt s.1) : s.2 = 0 ∧ s.1 = encEs (rdEs s).1 ++ r := by
  obtain ⟨c1, e1⟩ := rdEns_keep (rdM s).1 (s := (rdM s).2) h (rdM_byt hb)
  obtain ⟨c0, e0⟩ := rdM_keep (s := s) (r := (rdM s).2.1) (Prod.ext rfl c1) hb
  refine ⟨c0, ?_⟩
  unfold encEs
  rw [show (rdEs s).1.length = (rdM s).1 from rdEns_len _ _, List.append_assoc]
  show s.1 = _ ++ ((rdEns _ _).1.flatMap encE ++ r)
  rw [← e1]; exact e0
theorem rdRc_keep {l : List Int} (hb : Byt l) (h : rdE (rdRc (l, 0)).2 = 0) : l = encRc (rdRc (l, 0)).1 := by
  have h0 := rdE_zero h
  have b1 := rdZs_byt (s := (l, 0)) hb 4
  have b2 := (rdT_byt b1).2
  obtain ⟨c2, e2⟩ := rdEs_keep (s := (rdT (rdZs 4 (l, 0)).2).2) h0 b2
  obtain ⟨c1, e1⟩ := rdT_keep (r := (rdT (rdZs 4 (l, 0)).2).2.1) (Prod.ext rfl c2) b1
  obtain ⟨c0, e0⟩ := rdI_keep (k := 4) (r := (rdZs 4 (l, 0)).2.1) (Prod.ext rfl c1) hb
  have l4 := list4 (rdZs_len 4 (l, 0))
  have k4 : [(rdRc (l, 0)).1.kd, (rdRc (l, 0)).1.tm, (rdRc (l, 0)).1.vo, (rdRc (l, 0)).1.ix] = (rdZs 4 (l, 0)).1 := l4.symm
  rw [List.append_nil] at e2
  unfold encRc
  rw [k4]
  show l = _ ++ (encT (rdT (rdZs 4 (l, 0)).2).1 ++ encEs (rdEs (rdT (rdZs 4 (l, 0)).2).2).1)
  rw [← e2, ← e1]; exact e0
theorem rdMg_keep {l : List Int} (hb : Byt l) (h : rdE (rdMg (l, 0)).2 = 0) : l = encMg (rdMg (l, 0)).1 := by
  have h0 := rdE_zero h
  have b1 := rdZs_byt (s := (l, 0)) hb 9
  have b2 := rdB_byt b1
  have b3 := rdB_byt b2
  have b4 := (rdT_byt b3).2
  obtain ⟨c4, e4⟩ := rdEs_keep (s := (rdT (rdB (rdB (rdZs 9 (l, 0)).2).2).2).2) h0 b4
  obtain ⟨c3, e3⟩ := rdT_keep (r := (rdT (rdB (rdB (rdZs 9 (l, 0)).2).2).2).2.1) (Prod.ext rfl c4) b3
  obtain ⟨c2, e2⟩ := rdB_keep (r := (rdB (rdB (rdZs 9 (l, 0)).2).2).2.1) (Prod.ext rfl c3) b2
  obtain ⟨c1, e1⟩ := rdB_keep (r := (rdB (rdZs 9 (l, 0)).2).2.1) (Prod.ext rfl c2) b1
  obtain ⟨c0, e0⟩ := rdI_keep (k := 9) (r := (rdZs 9 (l, 0)).2.1) (Prod.ext rfl c1) hb
  have l9 := list9 (rdZs_len 9 (l, 0))
  have k9 : [(rdMg (l, 0)).1.gr, (rdMg (l, 0)).1.fm, (rdMg (l, 0)).1.to, (rdMg (l, 0)).1.kd, (rdMg (l, 0)).1.tm, (rdMg (l, 0)).1.ix, (rdMg (l, 0)).1.lt, (rdMg (l, 0)).1.co, (rdMg (l, 0)).1.of] = (rdZs 9 (l, 0)).1 := l9.symm
  rw [List.append_nil] at e4
  unfold encMg
  rw [k9]
  show l = _ ++ (encB (rdB (rdZs 9 (l, 0)).2).1 ++ (encB (rdB (rdB (rdZs 9 (l, 0)).2).2).1 ++ (encT (rdT (rdB (rdB (rdZs 9 (l, 0)).2).2).2).1 ++ encEs (rdEs (rdT (rdB (rdB (rdZs 9 (l, 0)).2).2).2).2).1)))
  rw [← e4, ← e3, ← e2, ← e1]; exact e0
end Go.Proofs.YtnakhfmnchmhjaaGreat.Rpl
/- Writers. Written by program (walk2.py). -/
namespace Go.Proofs.YtnakhfmnchmhjaaGreat
open SL Cfg Rpl
set_option linter.unusedVariables false
set_option linter.unusedSimpArgs false
theorem fo160_0 : fieldOff Tryz.prog 160 0 = some 0 := by kernel_rfl
theorem ent76 : Ent Tryz.prog 76 := ⟨_, _, Tryz.func76, by kernel_rfl, rfl⟩
structure Rpl.Er where
  e : En
  pf : Option Addr
  cf : Nat
  pt : Option Addr
  ct : Nat
  po : Option Addr
  co : Nat
  pn : Option Addr
  cn : Nat
  pl : Option Addr
  cl : Nat
def Rpl.Er.c (x : Er) : List Value := [.int .i64 x.e.ix, .int .i64 x.e.tm, .int .i64 x.e.kd, .int .i64 x.e.cl, .int .i64 x.e.nu, .string (strOfNums x.e.bd), .int .i64 x.e.ge, .int .i64 x.e.st, .int .i64 x.e.hk, .int .i64 x.e.hm, .slice x.pf x.e.fr.length x.cf, .slice x.pt x.e.to.length x.ct, .slice x.po x.e.o.length x.co, .slice x.pn x.e.n.length x.cn, .slice x.pl x.e.l.length x.cl]
structure Rpl.Er.In (x : Er) (H : PH) : Prop where
  fr : Sl H x.pf x.cf 1 (iz x.e.fr)
  to : Sl H x.pt x.ct 1 (iz x.e.to)
  o : Sl H x.po x.co 1 (iz x.e.o)
  n : Sl H x.pn x.cn 1 (iz x.e.n)
  l : Sl H x.pl x.cl 1 (iz x.e.l)
structure Rpl.WI where
  j : Nat
  H : PH
  p : Option Addr
  c : Nat
theorem encIs_take {xs : List Int} {j : Nat} {z : Int} (h : xs[j]? = some z) : encIs (xs.take (j + 1)) = encIs (xs.take j) ++ encZ z := by
  unfold encIs
  rw [List.take_add_one, h, List.flatMap_append]; simp
theorem encIs_le {xs : List Int} (h : AllI xs) : (encIs xs).length ≤ 9 * xs.length := encZs_le h
theorem encIs_takeLe {xs : List Int} (h : AllI xs) (j : Nat) : (encIs (xs.take j)).length ≤ 9 * xs.length := by
  have h1 := encIs_le (h.take j)
  rw [List.length_take] at h1
  omega

set_option maxRecDepth 100000 in
set_option maxHeartbeats 1600000 in
theorem wints_ct (b : Nat) (l : List Int) (H : PH) (p : Option Addr) (c : Nat) (hO : Own H p c 5 1 (bz l)) (xs : List Int) (HX : PH) (q : Option Addr) (d : Nat) (hX : Sl HX q d 1 (iz xs)) (hI : AllI xs) (hb : l.length + 9 * xs.length ≤ 1000000) : Ct Tryz.prog 76 [.pointer (some ⟨b, 0, none⟩), .slice q xs.length d] [single b (.cells [.slice p (l).length c].toArray 160 (0, 0)), H, HX] (fun v Hs => ∃ H' p' c', v = .tuple #[] ∧ Own H' p' c' 5 1 (bz (l ++ encIs xs)) ∧ Hs = [single b (.cells [.slice p' (l ++ encIs xs).length c'].toArray 160 (0, 0)), H', HX]) := by
  refine Ct.body Tryz.func76 rfl Tryz.ntmps76 rfl ?_
  intro E F
  have hmx := hX.len_le
  simp only [iz_len, maxLen] at hmx
  refine q_sr (q_q q_mv (q_q (q_n u22) (q_q q_mv (q_nn (W.block ?_)))))
  refine W.loopK (ι := WI) (fun w => (w.j ≤ xs.length ∧ Own w.H w.p w.c 5 1 (bz (l ++ encIs (xs.take w.j))))) (fun w => [(8, .int .i64 (w.j : Nat))]) (fun w => [(1, single b (.cells [.slice w.p (l ++ encIs (xs.take w.j)).length w.c].toArray 160 (0, 0))), (2, w.H)]) (fun w => xs.length - w.j) (.of [0, 6, 7] rfl) (.of [0, 3] rfl) ⟨0, H, p, c⟩ ?_ ?_ ?_ ?_
  · exact ⟨Nat.zero_le _, by simpa [encIs] using hO⟩
  · exact (q_a .nil)
  · exact (.as rfl (by simp [encIs]) (.to rfl))
  rintro w ⟨hj, hOw⟩
  refine q_k [8, 0, 6, 7] [1, 2, 0, 3] ?_
  refine q_sr (q_q (q_b BinV.lss) (q_nn (W.seq ?_)))
  first | refine W.condD rfl (fun hc9 => ?_) (fun hc9 => ?_) | (refine W.cond rfl (fun hc9 => ?_) (fun hc9 => ?_) <;> try simp only [Bool.or_eq_true, Bool.and_eq_true, Bool.not_eq_true', Bool.not_eq_false', decide_eq_true_eq, Bool.or_eq_false_iff, Bool.and_eq_false_iff, decide_eq_false_iff_not, beq_iff_eq, beq_eq_false_iff_ne, ne_eq, Decidable.not_not] at hc9)
  ·
   obtain ⟨z, hz, hlz⟩ := iz_at (show w.j < xs.length by omega)
   refine W.skip (N.next (W.seq (W.block (q_sr ?_))))
   refine q_q (q_ix u22 sz3) ?_
   refine q_q (by first | exact (by first | exact q_r1 3 u3 | exact q_r1 1 u3 | exact q_r1 2 u3) | exact (by first | exact q_rF 3 0 u3 | exact q_rF 1 0 u3 | exact q_rF 2 0 u3)) ?_
   refine q_an ?_
   refine W.region (q_q q_mv (q_q q_mv (q_q q_np (q_q (q_fa fo160_0) (q_q (q_l 1 u152) (q_q q_mv ?_))))))
   refine q_e (q_c ent98 [2] [2] (addI_ct (l ++ encIs (xs.take w.j)) w.H w.p w.c hOw z (hI z (List.mem_of_getElem? hz)) (by have := encIs_takeLe hI w.j; rw [List.length_append]; omega))) ?_
   rintro _ _ ⟨_, ⟨H4, p4, c4, rfl, hO4, rfl⟩, rfl⟩
   refine q_q q_np (q_q (q_fa fo160_0) (q_s 1 sz152 ?_))
   refine RL.nil (N.block_normal (N.next (q_k [0, 6, 7, 8] [0, 1, 2, 3] ?_)))
   refine W.region ?_
   refine q_q q_ad (q_q q_mv (RL.nil ?_))
   exact N.famK ⟨w.j + 1, H4, p4, c4⟩ ⟨⟨by dsimp only; omega, by dsimp only; rw [encIs_take hz, ← List.append_assoc]; exact hO4⟩, by dsimp only; omega⟩ (q_a .nil) (.to rfl) (.as rfl (by dsimp only; rw [encIs_take hz, ← List.append_assoc]) (.to rfl)) (.to rfl)
  ·
   have hend : w.j = xs.length := by omega
   rw [hend, List.take_length] at hOw ⊢
   refine W.exit (N.then_exit (N.then_exit (N.block_eq ?_)))
   exact N.endBy [1, 2, 3] .nil rfl rfl rfl rfl ⟨w.H, w.p, w.c, rfl, hOw, rfl⟩

set_option maxRecDepth 100000 in
set_option maxHeartbeats 400000 in
theorem wtext_ct (b : Nat) (l : List Int) (H : PH) (p : Option Addr) (c : Nat) (hO : Own H p c 5 1 (bz l)) (s : ByteArray) (hs : s.size ≤ 500000) (hb : l.length ≤ 400000) : Ct Tryz.prog 77 [.pointer (some ⟨b, 0, none⟩), .string s] [single b (.cells [.slice p (l).length c].toArray 160 (0, 0)), H] (fun v Hs => ∃ H' p' c', v = .tuple #[] ∧ Own H' p' c' 5 1 (bz (l ++ encT (nums s))) ∧ Hs = [single b (.cells [.slice p' (l ++ encT (nums s)).length c'].toArray 160 (0, 0)), H']) := by
  refine Ct.body Tryz.func77 rfl Tryz.ntmps77 rfl ?_
  intro E F
  refine W.region (q_q q_mv (q_q q_mv (q_q q_np (q_q (q_fa fo160_0) (q_q (q_l 1 u152) (q_q q_mv ?_))))))
  refine q_e (q_c ent92 [2] [2] (addT_ct l H p c hO s (by omega) (by omega))) ?_
  rintro _ _ ⟨_, ⟨H4, p4, c4, rfl, hO4, rfl⟩, rfl⟩
  refine q_q q_np (q_q (q_fa fo160_0) (q_s 1 sz152 ?_))
  refine RL.nil ?_
  exact N.endBy [1, 2] .nil rfl rfl rfl rfl ⟨H4, p4, c4, rfl, hO4, rfl⟩

set_option maxRecDepth 100000 in
set_option maxHeartbeats 1600000 in
theorem wlist_ct (b : Nat) (l : List Int) (H : PH) (p : Option Addr) (c : Nat) (hO : Own H p c 5 1 (bz l)) (xs : List Int) (HX : PH) (q : Option Addr) (d : Nat) (hX : Sl HX q d 1 (iz xs)) (hI : AllI xs) (hb : l.length + 9 * xs.length ≤ 999000) : Ct Tryz.prog 184 [.pointer (some ⟨b, 0, none⟩), .slice q xs.length d] [single b (.cells [.slice p (l).length c].toArray 160 (0, 0)), H, HX] (fun v Hs => ∃ H' p' c', v = .tuple #[] ∧ Own H' p' c' 5 1 (bz (l ++ encLi xs)) ∧ Hs = [single b (.cells [.slice p' (l ++ encLi xs).length c'].toArray 160 (0, 0)), H', HX]) := by
  refine Ct.body Tryz.func184 rfl Tryz.ntmps184 rfl ?_
  intro E F
  have hn := i64_nat (n := xs.length) (by omega)
  have hnl := encZ_len hn
  refine q_sr (q_q q_mv (q_q q_mv (q_q (q_n u22) ?_)))
  refine q_e (Eff.buildSlice 107 u22 sz3 zc3 rfl rfl (.cons rfl rfl .nil) rfl) ?_
  rintro _ _ ⟨b7, rfl, rfl⟩
  refine q_e (Eff.call ent76 [1, 2, 107] [1, 2, 107] (.cons rfl (.cons rfl .nil)) (wints_ct b l _ _ _ hO [(xs.length : Int)] _ _ _ (Own.mk (b := b7) (e := 3) (n := 1) (c := 1) (ls := iz [(xs.length : Int)]) [] (by simp [iz, Value.oneCell']) (by simp) (by simp [maxLen]) (by rfl) (by rfl)).sl (fun z hz => by simp only [List.mem_singleton] at hz; rw [hz]; exact hn) (by simp only [List.length_singleton]; omega)) rfl rfl rfl rfl (by rintro _ _ ⟨_, _, _, _, _, rfl⟩; rfl)) ?_
  rintro _ _ ⟨_, ⟨H4, p4, c4, rfl, hO4, rfl⟩, rfl⟩
  refine q_nn (q_k [0, 1] [0, 1, 2, 3, 107] ?_)
  refine W.region (q_q q_mv (q_q q_mv ?_))
  refine q_e (Eff.call ent76 [1, 2, 3] [1, 2, 3] (.cons rfl (.cons rfl .nil)) (wints_ct b (l ++ encIs [(xs.length : Int)]) _ _ _ hO4 xs _ _ _ hX hI (by rw [List.length_append]; simp only [encIs, List.flatMap_cons, List.flatMap_nil, List.append_nil]; omega)) rfl rfl rfl rfl (by rintro _ _ ⟨_, _, _, _, _, rfl⟩; rfl)) ?_
  rintro _ _ ⟨_, ⟨H5, p5, c5, rfl, hO5, rfl⟩, rfl⟩
  refine RL.nil ?_
  exact N.endBy [1, 2, 3] .nil rfl rfl rfl rfl ⟨H5, p5, c5, rfl, by unfold encLi; rw [← List.append_assoc]; simpa [encIs] using hO5, by unfold encLi; rw [← List.append_assoc]; simp [encIs]⟩

end Go.Proofs.YtnakhfmnchmhjaaGreat
/- Writers of entries. Written by program (walk2.py). -/
namespace Go.Proofs.YtnakhfmnchmhjaaGreat
open SL Cfg Rpl
set_option linter.unusedVariables false
set_option linter.unusedSimpArgs false
theorem ent184 : Ent Tryz.prog 184 := ⟨_, _, Tryz.func184, by kernel_rfl, rfl⟩
theorem sz101 : sz Tryz.prog 101 15 := (by kernel_rfl : (Tryz.prog.info? 101).map (·.size) = some 15)
theorem zc101 : zc Tryz.prog 101 [.int .i64 0, .int .i64 0, .int .i64 0, .int .i64 0, .int .i64 0, .string .empty, .int .i64 0, .int .i64 0, .int .i64 0, .int .i64 0, .slice none 0 0, .slice none 0 0, .slice none 0 0, .slice none 0 0, .slice none 0 0] := (by kernel_rfl : ((Tryz.prog.info? 101).bind (·.zero)).map (fun v => v.cells.toList) = some [.int .i64 0, .int .i64 0, .int .i64 0, .int .i64 0, .int .i64 0, .string .empty, .int .i64 0, .int .i64 0, .int .i64 0, .int .i64 0, .slice none 0 0, .slice none 0 0, .slice none 0 0, .slice none 0 0, .slice none 0 0])
theorem fo101_2 : fieldOff Tryz.prog 101 2 = some 2 := by kernel_rfl
theorem sz99 : sz Tryz.prog 99 13 := (by kernel_rfl : (Tryz.prog.info? 99).map (·.size) = some 13)
theorem zc99 : zc Tryz.prog 99 [.int .i64 0, .int .i64 0, .int .i64 0, .string .empty, .int .i64 0, .int .i64 0, .int .i64 0, .int .i64 0, .slice none 0 0, .slice none 0 0, .slice none 0 0, .slice none 0 0, .slice none 0 0] := (by kernel_rfl : ((Tryz.prog.info? 99).bind (·.zero)).map (fun v => v.cells.toList) = some [.int .i64 0, .int .i64 0, .int .i64 0, .string .empty, .int .i64 0, .int .i64 0, .int .i64 0, .int .i64 0, .slice none 0 0, .slice none 0 0, .slice none 0 0, .slice none 0 0, .slice none 0 0])
theorem fo101_0 : fieldOff Tryz.prog 101 0 = some 0 := by kernel_rfl
theorem fo101_1 : fieldOff Tryz.prog 101 1 = some 1 := by kernel_rfl
theorem fo99_0 : fieldOff Tryz.prog 99 0 = some 0 := by kernel_rfl
theorem fo99_1 : fieldOff Tryz.prog 99 1 = some 1 := by kernel_rfl
theorem fo99_2 : fieldOff Tryz.prog 99 2 = some 2 := by kernel_rfl
theorem fo99_3 : fieldOff Tryz.prog 99 3 = some 3 := by kernel_rfl
theorem ent77 : Ent Tryz.prog 77 := ⟨_, _, Tryz.func77, by kernel_rfl, rfl⟩
theorem fo99_4 : fieldOff Tryz.prog 99 4 = some 4 := by kernel_rfl
theorem fo99_5 : fieldOff Tryz.prog 99 5 = some 5 := by kernel_rfl
theorem fo99_6 : fieldOff Tryz.prog 99 6 = some 6 := by kernel_rfl
theorem fo61_0 : fieldOff Tryz.prog 61 0 = some 0 := by kernel_rfl
theorem fo61_1 : fieldOff Tryz.prog 61 1 = some 1 := by kernel_rfl
theorem fo61_2 : fieldOff Tryz.prog 61 2 = some 2 := by kernel_rfl
theorem fo61_3 : fieldOff Tryz.prog 61 3 = some 3 := by kernel_rfl
theorem fo99_7 : fieldOff Tryz.prog 99 7 = some 10 := by kernel_rfl
theorem ent185 : Ent Tryz.prog 185 := ⟨_, _, Tryz.func185, by kernel_rfl, rfl⟩
abbrev u32 := @Tryz.underlying32
abbrev u101 := @Tryz.underlying101
abbrev u99 := @Tryz.underlying99
theorem encLi_len (xs : List Int) : xs.length ≤ (encLi xs).length := by
  unfold encLi; rw [List.length_append]; have := encIs_pos xs; omega
theorem encE_eq (e : En) : encE e = encIs [e.ix, e.tm, e.kd, e.cl, e.nu] ++ (encT e.bd ++ (encIs [e.ge, e.st, e.hk, e.hm] ++ (encLi e.fr ++ (encLi e.to ++ (encLi e.o ++ (encLi e.n ++ encLi e.l)))))) := rfl
theorem encE_len (e : En) : (encE e).length = (encIs [e.ix, e.tm, e.kd, e.cl, e.nu]).length + ((encT e.bd).length + ((encIs [e.ge, e.st, e.hk, e.hm]).length + ((encLi e.fr).length + ((encLi e.to).length + ((encLi e.o).length + ((encLi e.n).length + (encLi e.l).length)))))) := by rw [encE_eq]; simp only [List.length_append]
theorem encT_len (s : List Int) : s.length ≤ (encT s).length := by unfold encT; rw [List.length_append]; omega
theorem encE_take {es : List En} {j : Nat} {e : En} (h : es[j]? = some e) : (es.take (j + 1)).flatMap encE = (es.take j).flatMap encE ++ encE e := by
  rw [List.take_add_one, h, List.flatMap_append]; simp
theorem encE_takeLe {es : List En} {j : Nat} {e : En} (h : es[j]? = some e) : ((es.take j).flatMap encE).length + (encE e).length ≤ (es.flatMap encE).length := by
  rw [← List.length_append, ← encE_take h]
  have h1 : es.flatMap encE = (es.take (j + 1)).flatMap encE ++ (es.drop (j + 1)).flatMap encE := by rw [← List.flatMap_append, List.take_append_drop]
  rw [h1, List.length_append]; omega

set_option maxRecDepth 100000 in
set_option maxHeartbeats 1600000 in
theorem wconfig_ct (b : Nat) (l : List Int) (H : PH) (p : Option Addr) (c : Nat) (hO : Own H p c 5 1 (bz l)) (x : Er) (HX : PH) (hx : x.In HX) (hk : x.e.OK) (hb : l.length + ((encLi x.e.o).length + ((encLi x.e.n).length + (encLi x.e.l).length)) ≤ 30000) : Ct Tryz.prog 185 [.pointer (some ⟨b, 0, none⟩), .agg [.slice x.po x.e.o.length x.co, .slice x.pn x.e.n.length x.cn, .slice x.pl x.e.l.length x.cl].toArray] [single b (.cells [.slice p (l).length c].toArray 160 (0, 0)), H, HX] (fun v Hs => ∃ H' p' c', v = .tuple #[] ∧ Own H' p' c' 5 1 (bz (l ++ (encLi x.e.o ++ (encLi x.e.n ++ encLi x.e.l)))) ∧ Hs = [single b (.cells [.slice p' (l ++ (encLi x.e.o ++ (encLi x.e.n ++ encLi x.e.l))).length c'].toArray 160 (0, 0)), H', HX]) := by
  refine Ct.body Tryz.func185 rfl Tryz.ntmps185 rfl ?_
  intro E F
  have q1 := encLi_len x.e.o
  have q2 := encLi_len x.e.n
  have q3 := encLi_len x.e.l
  refine q_sr ?_
  refine q_bx 103 fun b3 => ?_
  refine q_nn (q_sr (q_q q_mv (q_q (q_fa fo86_0) (q_q (q_l 103 u22) ?_))))
  refine q_e (Eff.call ent184 [1, 2, 3] [1, 2, 3] (.cons rfl (.cons rfl .nil)) (wlist_ct b _ _ _ _ hO x.e.o _ _ _ hx.o hk.o.1 (by (try simp only [List.length_append]); omega)) rfl rfl rfl rfl (by rintro _ _ ⟨_, _, _, _, _, rfl⟩; rfl)) ?_
  rintro _ _ ⟨_, ⟨H4, p4, c4, rfl, hO4, rfl⟩, rfl⟩
  refine q_nn (q_k [0, 3] [0, 1, 2, 3, 103] ?_)
  refine q_sr (q_q q_mv (q_q (q_fa fo86_1) (q_q (q_l 103 u22) ?_)))
  refine q_e (Eff.call ent184 [1, 2, 3] [1, 2, 3] (.cons rfl (.cons rfl .nil)) (wlist_ct b _ _ _ _ hO4 x.e.n _ _ _ hx.n hk.n.1 (by (try simp only [List.length_append]); omega)) rfl rfl rfl rfl (by rintro _ _ ⟨_, _, _, _, _, rfl⟩; rfl)) ?_
  rintro _ _ ⟨_, ⟨H5, p5, c5, rfl, hO5, rfl⟩, rfl⟩
  refine q_nn (q_k [0, 3] [0, 1, 2, 3, 103] ?_)
  refine W.region (q_q q_mv (q_q (q_fa fo86_2) (q_q (q_l 103 u22) ?_)))
  refine q_e (Eff.call ent184 [1, 2, 3] [1, 2, 3] (.cons rfl (.cons rfl .nil)) (wlist_ct b _ _ _ _ hO5 x.e.l _ _ _ hx.l hk.l.1 (by (try simp only [List.length_append]); omega)) rfl rfl rfl rfl (by rintro _ _ ⟨_, _, _, _, _, rfl⟩; rfl)) ?_
  rintro _ _ ⟨_, ⟨H6, p6, c6, rfl, hO6, rfl⟩, rfl⟩
  refine RL.nil ?_
  exact N.endBy [1, 2, 3] .nil rfl rfl rfl rfl ⟨H6, p6, c6, rfl, by simpa only [List.append_assoc] using hO6, by simp only [List.append_assoc]⟩

set_option maxRecDepth 100000 in
set_option maxHeartbeats 6400000 in
theorem wentries_ct (b : Nat) (l : List Int) (H : PH) (p : Option Addr) (c : Nat) (hO : Own H p c 5 1 (bz l)) (es : List Er) (HX : PH) (q : Option Addr) (d : Nat) (hX : Sl HX q d 15 (es.map Er.c)) (hE : ∀ x ∈ es, x.In HX ∧ x.e.OK) (hb : l.length + (encEs (es.map Er.e)).length ≤ 30000) : Ct Tryz.prog 78 [.pointer (some ⟨b, 0, none⟩), .slice q es.length d] [single b (.cells [.slice p (l).length c].toArray 160 (0, 0)), H, HX] (fun v Hs => ∃ H' p' c', v = .tuple #[] ∧ Own H' p' c' 5 1 (bz (l ++ encEs (es.map Er.e))) ∧ Hs = [single b (.cells [.slice p' (l ++ encEs (es.map Er.e)).length c'].toArray 160 (0, 0)), H', HX]) := by
  refine Ct.body Tryz.func78 rfl Tryz.ntmps78 rfl ?_
  intro E F
  have hmx := hX.len_le
  simp only [List.length_map, maxLen] at hmx
  have hb2 := hb
  unfold encEs at hb2
  rw [List.length_append, List.length_map] at hb2
  have hp := encEs_pos (es.map Er.e)
  rw [List.length_map] at hp
  have hn : I64 (es.length : Nat) := i64_nat (by omega)
  have hnl := encZ_len hn
  refine q_sr (q_q q_mv (q_q q_mv (q_q (q_n u32) ?_)))
  refine q_e (Eff.buildSlice 110 u22 sz3 zc3 rfl rfl (.cons rfl rfl .nil) rfl) ?_
  rintro _ _ ⟨b10, rfl, rfl⟩
  refine q_e (Eff.call ent76 [1, 2, 110] [1, 2, 110] (.cons rfl (.cons rfl .nil)) (wints_ct b l _ _ _ hO [(es.length : Int)] _ _ _ (Own.mk (b := b10) (e := 3) (n := 1) (c := 1) (ls := iz [(es.length : Int)]) [] (by simp [iz, Value.oneCell']) (by simp) (by simp [maxLen]) (by rfl) (by rfl)).sl (fun z hz => by simp only [List.mem_singleton] at hz; rw [hz]; exact hn) (by simp only [List.length_singleton]; omega)) rfl rfl rfl rfl (by rintro _ _ ⟨_, _, _, _, _, rfl⟩; rfl)) ?_
  rintro _ _ ⟨_, ⟨H4, p4, c4, rfl, hO4, rfl⟩, rfl⟩
  rw [show encIs [(es.length : Int)] = encZ (es.length : Nat) by simp [encIs]] at hO4 ⊢
  refine q_nn (q_k [0, 1] [0, 1, 2, 3, 110] ?_)
  refine q_sr (q_q q_mv (q_q (q_n u32) (q_q q_mv (q_nn (W.block ?_)))))
  refine W.loopK (ι := WI) (fun w => (w.j ≤ es.length ∧ Own w.H w.p w.c 5 1 (bz (l ++ (encZ (es.length : Nat) ++ ((es.map Er.e).take w.j).flatMap encE))))) (fun w => [(14, .int .i64 (w.j : Nat))]) (fun w => [(1, single b (.cells [.slice w.p (l ++ (encZ (es.length : Nat) ++ ((es.map Er.e).take w.j).flatMap encE)).length w.c].toArray 160 (0, 0))), (2, w.H)]) (fun w => es.length - w.j) (.of [0, 12, 13] rfl) (.of [0, 3, 110] rfl) ⟨0, H4, p4, c4⟩ ?_ ?_ ?_ ?_
  · exact ⟨Nat.zero_le _, by simpa using hO4⟩
  · exact (q_a .nil)
  · exact (.as rfl (by simp) (.to rfl))
  rintro w ⟨hj, hOw⟩
  refine q_k [14, 0, 12, 13] [1, 2, 0, 3, 110] ?_
  refine q_sr (q_q (q_b BinV.lss) (q_nn (W.seq ?_)))
  first | refine W.condD rfl (fun hc15 => ?_) (fun hc15 => ?_) | (refine W.cond rfl (fun hc15 => ?_) (fun hc15 => ?_) <;> try simp only [Bool.or_eq_true, Bool.and_eq_true, Bool.not_eq_true', Bool.not_eq_false', decide_eq_true_eq, Bool.or_eq_false_iff, Bool.and_eq_false_iff, decide_eq_false_iff_not, beq_iff_eq, beq_eq_false_iff_ne, ne_eq, Decidable.not_not] at hc15)
  ·
   obtain ⟨x, hx⟩ : ∃ x, es[w.j]? = some x := ⟨_, List.getElem?_eq_getElem (show w.j < es.length by omega)⟩
   have hlx : (es.map Er.c)[w.j]? = some x.c := by simp [hx]
   obtain ⟨hxi, hxo⟩ := hE x (List.mem_of_getElem? hx)
   have hxe : (es.map Er.e)[w.j]? = some x.e := by simp [hx]
   have hle := encE_takeLe hxe
   have hle2 := hle
   rw [encE_len] at hle2
   have q1 := encLi_len x.e.fr
   have q2 := encLi_len x.e.to
   have q3 := encT_len x.e.bd
   have hnx : (l ++ (encZ (es.length : Nat) ++ ((es.map Er.e).take (w.j + 1)).flatMap encE)) = l ++ (encZ (es.length : Nat) ++ ((es.map Er.e).take w.j).flatMap encE) ++ encIs [x.e.ix, x.e.tm, x.e.kd, x.e.cl, x.e.nu] ++ encT x.e.bd ++ encIs [x.e.ge, x.e.st, x.e.hk, x.e.hm] ++ encLi x.e.fr ++ encLi x.e.to ++ (encLi x.e.o ++ (encLi x.e.n ++ encLi x.e.l)) := by rw [encE_take hxe, encE_eq]; simp only [List.append_assoc]
   refine W.skip (N.next (W.seq (W.block (q_sr ?_))))
   refine q_q (q_ix u32 sz101) ?_
   refine q_q (by first | exact q_rA 3 u101 sz101 | exact q_rA 110 u101 sz101 | exact q_rA 1 u101 sz101 | exact q_rA 2 u101 sz101) ?_
   refine q_al 105 zc101 fun b5 => ?_
   refine q_s 105 sz101 ?_
   refine q_nn (q_sr (q_q (q_fa fo101_2) (q_q (q_la 105 u99 sz99) ?_)))
   refine q_al 106 zc99 fun b6 => ?_
   refine q_s 106 sz99 ?_
   refine q_nn (q_k [0, 5, 6, 12, 13, 14] [0, 1, 2, 3, 105, 106, 110] ?_)
   refine q_sr (q_q q_mv (q_q (q_fa fo101_0) (q_q (q_l 105 u3) (q_q (q_fa fo101_1) (q_q (q_l 105 u3) (q_q (q_fa fo99_0) (q_q (q_l 106 u3) (q_q (q_fa fo99_1) (q_q (q_l 106 u3) (q_q (q_fa fo99_2) (q_q (q_l 106 u3) ?_)))))))))))
   refine q_e (Eff.buildSlice 131 u22 sz3 zc3 rfl rfl (.cons rfl rfl (.cons rfl rfl (.cons rfl rfl (.cons rfl rfl (.cons rfl rfl .nil))))) rfl) ?_
   rintro _ _ ⟨b31, rfl, rfl⟩
   refine q_e (Eff.call ent76 [1, 2, 131] [1, 2, 131] (.cons rfl (.cons rfl .nil)) (wints_ct b _ _ _ _ hOw [x.e.ix, x.e.tm, x.e.kd, x.e.cl, x.e.nu] _ _ _ (Own.mk (b := b31) (e := 3) (n := 1) (c := 5) (ls := iz [x.e.ix, x.e.tm, x.e.kd, x.e.cl, x.e.nu]) [] (by simp [iz, Value.oneCell']) (by simp) (by simp [maxLen]) (by rfl) (by rfl)).sl hxo.h1 (by simp only [List.length_append, List.length_cons, List.length_nil]; omega)) rfl rfl rfl rfl (by rintro _ _ ⟨_, _, _, _, _, rfl⟩; rfl)) ?_
   rintro _ _ ⟨_, ⟨H5, p5, c5, rfl, hO5, rfl⟩, rfl⟩
   refine q_nn (q_k [0, 6, 12, 13, 14] [0, 1, 2, 3, 105, 106, 110, 131] ?_)
   refine q_sr (q_q q_mv (q_q (q_fa fo99_3) (q_q (q_l 106 u9) ?_)))
   refine q_e (Eff.call ent77 [1, 2] [1, 2] (.cons rfl (.cons rfl .nil)) (wtext_ct b _ _ _ _ hO5 (strOfNums x.e.bd) (by rw [strOfNums_size]; omega) (by (try simp only [List.length_append]); omega)) rfl rfl rfl rfl (by rintro _ _ ⟨_, _, _, _, _, rfl⟩; rfl)) ?_
   rintro _ _ ⟨_, ⟨H6, p6, c6, rfl, hO6, rfl⟩, rfl⟩
   rw [nums_str hxo.bd] at hO6 ⊢
   refine q_nn (q_k [0, 6, 12, 13, 14] [0, 1, 2, 3, 105, 106, 110, 131] ?_)
   refine q_sr (q_q q_mv (q_q (q_fa fo99_4) (q_q (q_l 106 u3) (q_q (q_fa fo99_5) (q_q (q_l 106 u3) (q_q (q_fa fo99_6) (q_q (q_fa fo61_0) (q_q (q_l 106 u3) (q_q (q_fa fo99_6) (q_q (q_fa fo61_1) (q_q (q_l 106 u3) ?_)))))))))))
   refine q_e (Eff.buildSlice 148 u22 sz3 zc3 rfl rfl (.cons rfl rfl (.cons rfl rfl (.cons rfl rfl (.cons rfl rfl .nil)))) rfl) ?_
   rintro _ _ ⟨b48, rfl, rfl⟩
   refine q_e (Eff.call ent76 [1, 2, 148] [1, 2, 148] (.cons rfl (.cons rfl .nil)) (wints_ct b _ _ _ _ hO6 [x.e.ge, x.e.st, x.e.hk, x.e.hm] _ _ _ (Own.mk (b := b48) (e := 3) (n := 1) (c := 4) (ls := iz [x.e.ge, x.e.st, x.e.hk, x.e.hm]) [] (by simp [iz, Value.oneCell']) (by simp) (by simp [maxLen]) (by rfl) (by rfl)).sl hxo.h2 (by simp only [List.length_append, List.length_cons, List.length_nil]; omega)) rfl rfl rfl rfl (by rintro _ _ ⟨_, _, _, _, _, rfl⟩; rfl)) ?_
   rintro _ _ ⟨_, ⟨H7, p7, c7, rfl, hO7, rfl⟩, rfl⟩
   refine q_nn (q_k [0, 6, 12, 13, 14] [0, 1, 2, 3, 105, 106, 110, 131, 148] ?_)
   refine q_sr (q_q q_mv (q_q (q_fa fo99_6) (q_q (q_fa fo61_2) (q_q (q_l 106 u22) ?_))))
   refine q_e (Eff.call ent184 [1, 2, 3] [1, 2, 3] (.cons rfl (.cons rfl .nil)) (wlist_ct b _ _ _ _ hO7 x.e.fr _ _ _ hxi.fr hxo.fr.1 (by (try simp only [List.length_append]); omega)) rfl rfl rfl rfl (by rintro _ _ ⟨_, _, _, _, _, rfl⟩; rfl)) ?_
   rintro _ _ ⟨_, ⟨H8, p8, c8, rfl, hO8, rfl⟩, rfl⟩
   refine q_nn (q_k [0, 6, 12, 13, 14] [0, 1, 2, 3, 105, 106, 110, 131, 148] ?_)
   refine q_sr (q_q q_mv (q_q (q_fa fo99_6) (q_q (q_fa fo61_3) (q_q (q_l 106 u22) ?_))))
   refine q_e (Eff.call ent184 [1, 2, 3] [1, 2, 3] (.cons rfl (.cons rfl .nil)) (wlist_ct b _ _ _ _ hO8 x.e.to _ _ _ hxi.to hxo.to.1 (by (try simp only [List.length_append]); omega)) rfl rfl rfl rfl (by rintro _ _ ⟨_, _, _, _, _, rfl⟩; rfl)) ?_
   rintro _ _ ⟨_, ⟨H9, p9, c9, rfl, hO9, rfl⟩, rfl⟩
   refine q_nn (q_k [0, 6, 12, 13, 14] [0, 1, 2, 3, 105, 106, 110, 131, 148] ?_)
   refine W.region (q_q q_mv (q_q (q_fa fo99_7) (q_q (q_la 106 u86 sz86) ?_)))
   refine q_e (Eff.call ent185 [1, 2, 3] [1, 2, 3] (.cons rfl (.cons rfl .nil)) (wconfig_ct b _ _ _ _ hO9 x _ hxi hxo (by (try simp only [List.length_append]); omega)) rfl rfl rfl rfl (by rintro _ _ ⟨_, _, _, _, _, rfl⟩; rfl)) ?_
   rintro _ _ ⟨_, ⟨H10, p10, c10, rfl, hO10, rfl⟩, rfl⟩
   refine RL.nil (N.block_normal (N.next (q_k [0, 12, 13, 14] [0, 1, 2, 3, 105, 106, 110, 131, 148] ?_)))
   refine W.region ?_
   refine q_q q_ad (q_q q_mv (RL.nil ?_))
   exact N.famK ⟨w.j + 1, H10, p10, c10⟩ ⟨⟨by dsimp only; omega, by dsimp only; rw [hnx]; exact hO10⟩, by dsimp only; omega⟩ (q_a .nil) (.to rfl) (.as rfl (by dsimp only; rw [hnx]) (.to rfl)) (.to rfl)
  ·
   have hend : w.j = es.length := by omega
   have hfl : (l ++ (encZ (es.length : Nat) ++ ((es.map Er.e).take w.j).flatMap encE)) = l ++ encEs (es.map Er.e) := by rw [hend]; unfold encEs; rw [List.length_map, show (es.map Er.e).take es.length = es.map Er.e by rw [← List.length_map (f := Er.e), List.take_length]]
   rw [hfl] at hOw ⊢
   refine W.exit (N.then_exit (N.then_exit (N.block_eq ?_)))
   exact N.endBy [1, 2, 3] .nil rfl rfl rfl rfl ⟨w.H, w.p, w.c, rfl, hOw, rfl⟩

end Go.Proofs.YtnakhfmnchmhjaaGreat
/- Records and messages as bytes. Written by program (walk2.py). -/
namespace Go.Proofs.YtnakhfmnchmhjaaGreat
open SL Cfg Rpl
set_option linter.unusedVariables false
set_option linter.unusedSimpArgs false
theorem zc160 : zc Tryz.prog 160 [.slice none 0 0] := (by kernel_rfl : ((Tryz.prog.info? 160).bind (·.zero)).map (fun v => v.cells.toList) = some [.slice none 0 0])
theorem fo73_0 : fieldOff Tryz.prog 73 0 = some 0 := by kernel_rfl
theorem fo73_1 : fieldOff Tryz.prog 73 1 = some 1 := by kernel_rfl
theorem fo73_2 : fieldOff Tryz.prog 73 2 = some 2 := by kernel_rfl
theorem fo73_3 : fieldOff Tryz.prog 73 3 = some 3 := by kernel_rfl
theorem fo73_4 : fieldOff Tryz.prog 73 4 = some 4 := by kernel_rfl
theorem fo73_5 : fieldOff Tryz.prog 73 5 = some 5 := by kernel_rfl
theorem ent78 : Ent Tryz.prog 78 := ⟨_, _, Tryz.func78, by kernel_rfl, rfl⟩
theorem fo59_0 : fieldOff Tryz.prog 59 0 = some 0 := by kernel_rfl
theorem fo59_1 : fieldOff Tryz.prog 59 1 = some 1 := by kernel_rfl
theorem fo59_2 : fieldOff Tryz.prog 59 2 = some 2 := by kernel_rfl
theorem fo59_3 : fieldOff Tryz.prog 59 3 = some 3 := by kernel_rfl
theorem fo59_4 : fieldOff Tryz.prog 59 4 = some 4 := by kernel_rfl
theorem fo59_5 : fieldOff Tryz.prog 59 5 = some 5 := by kernel_rfl
theorem fo59_6 : fieldOff Tryz.prog 59 6 = some 6 := by kernel_rfl
theorem fo59_7 : fieldOff Tryz.prog 59 7 = some 7 := by kernel_rfl
theorem fo59_10 : fieldOff Tryz.prog 59 10 = some 10 := by kernel_rfl
theorem fo59_8 : fieldOff Tryz.prog 59 8 = some 8 := by kernel_rfl
theorem fo59_12 : fieldOff Tryz.prog 59 12 = some 12 := by kernel_rfl
theorem ent80 : Ent Tryz.prog 80 := ⟨_, _, Tryz.func80, by kernel_rfl, rfl⟩
theorem fo59_11 : fieldOff Tryz.prog 59 11 = some 11 := by kernel_rfl
theorem fo59_9 : fieldOff Tryz.prog 59 9 = some 9 := by kernel_rfl
abbrev u4 := @Tryz.underlying4
structure Rpl.Rr where
  kd : Int
  tm : Int
  vo : Int
  ix : Int
  sa : List Int
  es : List Er
  q : Option Addr
  d : Nat
def Rpl.Rr.c (x : Rr) : List Value := [.int .i64 x.kd, .int .i64 x.tm, .int .i64 x.vo, .int .i64 x.ix, .string (strOfNums x.sa), .slice x.q x.es.length x.d]
def Rpl.Rr.r (x : Rr) : Rc := ⟨x.kd, x.tm, x.vo, x.ix, x.sa, x.es.map Er.e⟩
def Rpl.EsIn (H : PH) (q : Option Addr) (d : Nat) (es : List Er) : Prop := Sl H q d 15 (es.map Er.c) ∧ ∀ x ∈ es, x.In H
structure Rpl.Mr where
  gr : Int
  fm : Int
  to : Int
  kd : Int
  tm : Int
  ix : Int
  lt : Int
  co : Int
  gd : Bool
  es : List Er
  q : Option Addr
  d : Nat
  of : Int
  da : List Int
  dn : Bool
def Rpl.Mr.c (x : Mr) : List Value := [.int .i64 x.gr, .int .i64 x.fm, .int .i64 x.to, .int .i64 x.kd, .int .i64 x.tm, .int .i64 x.ix, .int .i64 x.lt, .int .i64 x.co, .bool x.gd, .slice x.q x.es.length x.d, .int .i64 x.of, .string (strOfNums x.da), .bool x.dn]
def Rpl.Mr.m (x : Mr) : Mg := ⟨x.gr, x.fm, x.to, x.kd, x.tm, x.ix, x.lt, x.co, x.gd, x.es.map Er.e, x.of, x.da, x.dn⟩
theorem encB_len (b : Bool) : (encB b).length = 1 := rfl

set_option maxRecDepth 100000 in
set_option maxHeartbeats 400000 in
theorem addB_ct (l : List Int) (H1 : PH) (p : Option Addr) (c : Nat) (hO : Own H1 p c 5 1 (bz l)) (x : Bool) (hb : l.length ≤ 1000000) : Ct Tryz.prog 80 [.slice p l.length c, .bool x] [H1] (fun v Hs => ∃ H' p' c', v = .slice p' (l ++ encB x).length c' ∧ Own H' p' c' 5 1 (bz (l ++ encB x)) ∧ Hs = [H']) := by
  refine Ct.body Tryz.func80 rfl Tryz.ntmps80 rfl ?_
  intro E F
  refine q_sr (q_an ?_)
  refine W.seq (q_sr (q_q q_mv (q_nn ?_)))
  refine W.cond rfl (fun hc5 => ?_) (fun hc5 => ?_)
  ·
   subst hc5
   refine q_sr (q_q q_mv ?_)
   refine q_e (Eff.buildSlice 107 u152 sz5 zc5 rfl rfl (.cons rfl rfl .nil) rfl) ?_
   rintro _ _ ⟨b7, rfl, rfl⟩
   refine q_e (Eff.appendE (tc := 1) (sc := 107) (fun z : Int => [Value.int .u8 z]) u152 el5 rfl rfl rfl rfl hO rfl (bz_single (l := [(1 : Int)]) rfl (by simp [maxLen])).sl rfl (bz_one1 _) (by decide) (by simp; omega) (by simp [maxLen]; omega)) ?_
   rintro _ _ ⟨Ha, pa, ca, rfl, hOa, rfl⟩
   refine q_an ?_
   refine q_k [4] [0, 1, 107] ?_
   refine W.ret (N.then_ret ?_)
   exact q_r [1] (.cons (.tmp rfl) .nil) rfl rfl rfl ⟨_, _, _, rfl, hOa, rfl⟩
  ·
   subst hc5
   refine W.skip (N.next (q_sr (q_q q_mv ?_)))
   refine q_e (Eff.buildSlice 110 u152 sz5 zc5 rfl rfl (.cons rfl rfl .nil) rfl) ?_
   rintro _ _ ⟨b10, rfl, rfl⟩
   refine q_e (Eff.appendE (tc := 1) (sc := 110) (fun z : Int => [Value.int .u8 z]) u152 el5 rfl rfl rfl rfl hO rfl (bz_single (l := [(0 : Int)]) rfl (by simp [maxLen])).sl rfl (bz_one1 _) (by decide) (by simp; omega) (by simp [maxLen]; omega)) ?_
   rintro _ _ ⟨Ha, pa, ca, rfl, hOa, rfl⟩
   refine q_an ?_
   refine q_k [4] [0, 1, 110] ?_
   refine W.ret ?_
   exact q_r [1] (.cons (.tmp rfl) .nil) rfl rfl rfl ⟨_, _, _, rfl, hOa, rfl⟩

set_option maxRecDepth 100000 in
set_option maxHeartbeats 3200000 in
theorem encRec_ct (x : Rr) (H : PH) (hx : EsIn H x.q x.d x.es) (hk : x.r.OK) (hb : (encRc x.r).length ≤ 30000) : Ct Tryz.prog 19 [.agg [.int .i64 x.kd, .int .i64 x.tm, .int .i64 x.vo, .int .i64 x.ix, .string (strOfNums x.sa), .slice x.q x.es.length x.d].toArray] [H] (fun v Hs => v = .string (strOfNums (encRc x.r)) ∧ Hs = [H]) := by
  refine Ct.body Tryz.func19 rfl Tryz.ntmps19 rfl ?_
  intro E F
  have hr : encRc x.r = encIs [x.kd, x.tm, x.vo, x.ix] ++ (encT x.sa ++ encEs (x.es.map Er.e)) := rfl
  have hb2 := hb
  rw [hr] at hb2 ⊢
  simp only [List.length_append] at hb2
  have q1 := encT_len x.sa
  refine q_sr ?_
  refine q_bx 101 fun b1 => ?_
  refine q_an ?_
  refine q_sr ?_
  refine q_al 103 zc160 fun b3 => ?_
  refine q_nn (W.seq ?_)
  refine W.imp (Imp.empty _ 140) (W.region (q_q (q_fa fo73_0) (q_q (q_l 101 u3) (q_q (q_fa fo73_1) (q_q (q_l 101 u3) (q_q (q_fa fo73_2) (q_q (q_l 101 u3) (q_q (q_fa fo73_3) (q_q (q_l 101 u3) ?_)))))))))
  refine q_e (Eff.buildSlice 112 u22 sz3 zc3 rfl rfl (.cons rfl rfl (.cons rfl rfl (.cons rfl rfl (.cons rfl rfl .nil)))) rfl) ?_
  rintro _ _ ⟨b12, rfl, rfl⟩
  refine q_e (Eff.call ent76 [103, 140, 112] [103, 140, 112] (.cons rfl (.cons rfl .nil)) (wints_ct b3 [] emp none 0 (Own.nil _ _) [x.kd, x.tm, x.vo, x.ix] _ _ _ (Own.mk (b := b12) (e := 3) (n := 1) (c := 4) (ls := iz [x.kd, x.tm, x.vo, x.ix]) [] (by simp [iz, Value.oneCell']) (by simp) (by simp [maxLen]) (by rfl) (by rfl)).sl hk.hd (by simp)) rfl rfl rfl rfl (by rintro _ _ ⟨_, _, _, _, _, rfl⟩; rfl)) ?_
  rintro _ _ ⟨_, ⟨H4, p4, c4, rfl, hO4, rfl⟩, rfl⟩
  refine q_nn (q_k [1, 3] [0, 1, 101, 103, 112, 140] ?_)
  refine q_sr (q_q (q_fa fo73_4) (q_q (q_l 101 u9) ?_))
  refine q_e (Eff.call ent77 [103, 140] [103, 140] (.cons rfl (.cons rfl .nil)) (wtext_ct b3 _ _ _ _ hO4 (strOfNums x.sa) (by rw [strOfNums_size]; omega) (by (try simp only [List.length_append, List.nil_append]); omega)) rfl rfl rfl rfl (by rintro _ _ ⟨_, _, _, _, _, rfl⟩; rfl)) ?_
  rintro _ _ ⟨_, ⟨H5, p5, c5, rfl, hO5, rfl⟩, rfl⟩
  rw [nums_str (show Byt x.sa from hk.sb)] at hO5 ⊢
  refine q_nn (q_sr (q_q (q_fa fo73_5) (q_q (q_l 101 u32) ?_)))
  refine q_e (Eff.call ent78 [103, 140, 1] [103, 140, 1] (.cons rfl (.cons rfl .nil)) (wentries_ct b3 _ _ _ _ hO5 x.es _ _ _ hx.1 (fun y hy => ⟨hx.2 y hy, hk.es y.e (List.mem_map_of_mem hy)⟩) (by (try simp only [List.length_append, List.nil_append]); omega)) rfl rfl rfl rfl (by rintro _ _ ⟨_, _, _, _, _, rfl⟩; rfl)) ?_
  rintro _ _ ⟨_, ⟨H6, p6, c6, rfl, hO6, rfl⟩, rfl⟩
  refine q_nn (q_k [3] [0, 1, 101, 103, 112, 140] ?_)
  refine q_sr (q_q (q_fa fo160_0) (q_q (q_l 103 u152) ?_))
  refine q_q (Yld.bytesStr (cl := 140) u152 u5 u9 rfl rfl hO6.sl rfl) (q_an ?_)
  refine q_k [2] [0, 1, 101, 103, 112, 140] ?_
  refine W.ret ?_
  exact q_r [1] (.cons (.tmp rfl) .nil) rfl rfl rfl ⟨by show Value.string _ = _; congr 2; simp only [List.nil_append, List.append_assoc], rfl⟩

set_option maxRecDepth 100000 in
set_option maxHeartbeats 6400000 in
theorem encMsg_ct (x : Mr) (H : PH) (hx : EsIn H x.q x.d x.es) (hk : x.m.OK) (hb : (encMg x.m).length ≤ 30000) : Ct Tryz.prog 21 [.agg [.int .i64 x.gr, .int .i64 x.fm, .int .i64 x.to, .int .i64 x.kd, .int .i64 x.tm, .int .i64 x.ix, .int .i64 x.lt, .int .i64 x.co, .bool x.gd, .slice x.q x.es.length x.d, .int .i64 x.of, .string (strOfNums x.da), .bool x.dn].toArray] [H] (fun v Hs => v = .string (strOfNums (encMg x.m)) ∧ Hs = [H]) := by
  refine Ct.body Tryz.func21 rfl Tryz.ntmps21 rfl ?_
  intro E F
  have hr : encMg x.m = encIs [x.gr, x.fm, x.to, x.kd, x.tm, x.ix, x.lt, x.co, x.of] ++ (encB x.gd ++ (encB x.dn ++ (encT x.da ++ encEs (x.es.map Er.e)))) := rfl
  have hb2 := hb
  rw [hr] at hb2 ⊢
  simp only [List.length_append, encB_len] at hb2
  have q1 := encT_len x.da
  refine q_sr ?_
  refine q_bx 101 fun b1 => ?_
  refine q_an ?_
  refine q_sr ?_
  refine q_al 103 zc160 fun b3 => ?_
  refine q_nn (W.seq ?_)
  refine W.imp (Imp.empty _ 140) (W.region (q_q (q_fa fo59_0) (q_q (q_l 101 u3) (q_q (q_fa fo59_1) (q_q (q_l 101 u3) (q_q (q_fa fo59_2) (q_q (q_l 101 u3) (q_q (q_fa fo59_3) (q_q (q_l 101 u3) (q_q (q_fa fo59_4) (q_q (q_l 101 u3) ?_)))))))))))
  refine q_q (q_fa fo59_5) (q_q (q_l 101 u3) (q_q (q_fa fo59_6) (q_q (q_l 101 u3) (q_q (q_fa fo59_7) (q_q (q_l 101 u3) (q_q (q_fa fo59_10) (q_q (q_l 101 u3) ?_)))))))
  refine q_e (Eff.buildSlice 122 u22 sz3 zc3 rfl rfl (.cons rfl rfl (.cons rfl rfl (.cons rfl rfl (.cons rfl rfl (.cons rfl rfl (.cons rfl rfl (.cons rfl rfl (.cons rfl rfl (.cons rfl rfl .nil))))))))) rfl) ?_
  rintro _ _ ⟨b22, rfl, rfl⟩
  refine q_e (Eff.call ent76 [103, 140, 122] [103, 140, 122] (.cons rfl (.cons rfl .nil)) (wints_ct b3 [] emp none 0 (Own.nil _ _) [x.gr, x.fm, x.to, x.kd, x.tm, x.ix, x.lt, x.co, x.of] _ _ _ (Own.mk (b := b22) (e := 3) (n := 1) (c := 9) (ls := iz [x.gr, x.fm, x.to, x.kd, x.tm, x.ix, x.lt, x.co, x.of]) [] (by simp [iz, Value.oneCell']) (by simp) (by simp [maxLen]) (by rfl) (by rfl)).sl hk.hd (by simp)) rfl rfl rfl rfl (by rintro _ _ ⟨_, _, _, _, _, rfl⟩; rfl)) ?_
  rintro _ _ ⟨_, ⟨H4, p4, c4, rfl, hO4, rfl⟩, rfl⟩
  refine q_nn (q_k [1, 3] [0, 1, 101, 103, 122, 140] ?_)
  refine W.seq ?_
  refine W.draw (.q 0 (.q 2 (.q 3 (.q 5 (.q 6 (.one 1 (.one 4 (.one 7 (.q 8 (.one 9 .done)))))))))) (.of [0, 1, 101, 122] rfl) mix (by kernel_rfl) (by kernel_rfl) (q_d rfl (q_fa fo160_0) (q_d rfl (q_fa fo59_8) (q_d rfl (q_l 101 u4) (q_d rfl (q_fa fo59_12) (q_d rfl (q_l 101 u4) ?_)))))
  refine q_o rfl (Yld.eff (q_l 103 u152)) ?_
  rintro _ _ ⟨rfl, rfl⟩
  refine q_o rfl (Eff.call ent80 [140] [140] (.cons rfl (.cons rfl .nil)) (addB_ct _ _ _ _ hO4 x.gd (by (try simp only [List.length_append, List.nil_append]); omega)) rfl rfl rfl rfl (by rintro _ _ ⟨_, _, _, _, _, rfl⟩; rfl)) ?_
  rintro _ _ ⟨_, ⟨H7, p7, c7, rfl, hO7, rfl⟩, rfl⟩
  refine q_o rfl (Eff.call ent80 [140] [140] (.cons rfl (.cons rfl .nil)) (addB_ct _ _ _ _ hO7 x.dn (by (try simp only [List.length_append, List.nil_append, encB_len]); omega)) rfl rfl rfl rfl (by rintro _ _ ⟨_, _, _, _, _, rfl⟩; rfl)) ?_
  rintro _ _ ⟨_, ⟨H8, p8, c8, rfl, hO8, rfl⟩, rfl⟩
  refine q_d rfl (q_fa fo160_0) ?_
  refine q_o0 rfl (q_st 103 sz152) ?_
  rintro _ _ rfl
  refine DL.done (N.next (q_k [1, 3] [0, 1, 101, 103, 122, 140] ?_))
  refine q_sr (q_q (q_fa fo59_11) (q_q (q_l 101 u9) ?_))
  refine q_e (Eff.call ent77 [103, 140] [103, 140] (.cons rfl (.cons rfl .nil)) (wtext_ct b3 _ _ _ _ hO8 (strOfNums x.da) (by rw [strOfNums_size]; omega) (by (try simp only [List.length_append, List.nil_append, encB_len]); omega)) rfl rfl rfl rfl (by rintro _ _ ⟨_, _, _, _, _, rfl⟩; rfl)) ?_
  rintro _ _ ⟨_, ⟨H5, p5, c5, rfl, hO5, rfl⟩, rfl⟩
  rw [nums_str (show Byt x.da from hk.sb)] at hO5 ⊢
  refine q_nn (q_sr (q_q (q_fa fo59_9) (q_q (q_l 101 u32) ?_)))
  refine q_e (Eff.call ent78 [103, 140, 1] [103, 140, 1] (.cons rfl (.cons rfl .nil)) (wentries_ct b3 _ _ _ _ hO5 x.es _ _ _ hx.1 (fun y hy => ⟨hx.2 y hy, hk.es y.e (List.mem_map_of_mem hy)⟩) (by (try simp only [List.length_append, List.nil_append, encB_len]); omega)) rfl rfl rfl rfl (by rintro _ _ ⟨_, _, _, _, _, rfl⟩; rfl)) ?_
  rintro _ _ ⟨_, ⟨H6, p6, c6, rfl, hO6, rfl⟩, rfl⟩
  refine q_nn (q_k [3] [0, 1, 101, 103, 122, 140] ?_)
  refine q_sr (q_q (q_fa fo160_0) (q_q (q_l 103 u152) ?_))
  refine q_q (Yld.bytesStr (cl := 140) u152 u5 u9 rfl rfl hO6.sl rfl) (q_an ?_)
  refine q_k [2] [0, 1, 101, 103, 122, 140] ?_
  refine W.ret ?_
  exact q_r [1] (.cons (.tmp rfl) .nil) rfl rfl rfl ⟨by show Value.string _ = _; congr 2; simp only [List.nil_append, List.append_assoc], rfl⟩

end Go.Proofs.YtnakhfmnchmhjaaGreat
/- Readers: Bool. Written by program (walk2.py). -/
namespace Go.Proofs.YtnakhfmnchmhjaaGreat
open SL Cfg Rpl
set_option linter.unusedVariables false
set_option linter.unusedSimpArgs false
theorem ent186 : Ent Tryz.prog 186 := ⟨_, _, Tryz.func186, by kernel_rfl, rfl⟩
def Rpl.bolV : List Int → Int
  | [] => 0
  | x :: _ => if 1 < x then 0 else x
def Rpl.bolE : List Int → Int
  | [] => 11
  | x :: _ => if 1 < x then 11 else 0
theorem u64_1 : U64 1 := ⟨by decide, by decide⟩

set_option maxRecDepth 100000 in
set_option maxHeartbeats 3200000 in
theorem boolC_ct (r b : Nat) (x : Rd) (H1 G : PH) (hx : x.In H1) (he : x.e = 0) : Ct Tryz.prog 186 [.pointer (some ⟨b, 0, none⟩)] [single r (.cells [.slice x.p x.l.length x.c, .int .i64 x.e].toArray 261 (0, 0)), H1, single b (.cells [Value.pointer (some ⟨r, 0, none⟩)].toArray 150 (0, 0)), G] (fun v Hs => ∃ y : Rd, y.In H1 ∧ y.e = x.e ∧ (∀ z q, x.l = z :: q → ¬ 1 < z → y.l = q) ∧ v = .tuple #[.int .u64 (bolV x.l), .int .i64 (bolE x.l)] ∧ Hs = [single r (.cells [.slice y.p y.l.length y.c, .int .i64 y.e].toArray 261 (0, 0)), H1, single b (.cells [Value.pointer (some ⟨r, 0, none⟩)].toArray 150 (0, 0)), G]) := by
  refine Ct.body Tryz.func186 rfl Tryz.ntmps186 rfl ?_
  intro E F
  have hmx := hx.sl.len_le
  simp only [bz_len, maxLen] at hmx
  have hxs := hx.sl
  refine q_sr (q_q q_as (q_an ?_))
  refine q_sr (q_q (q_l 3 u150) ?_)
  refine q_e (q_c ent180 [1, 2] [1, 2] (take_ct r x H1 hx 1 u64_1)) ?_
  rintro _ _ ⟨_, ⟨rfl, rfl⟩, rfl⟩
  obtain ⟨hI2, he2⟩ := hx.take 1 (by decide)
  refine q_q q_mv (q_q q_x (q_q q_x (q_q q_as (q_an ?_))))
  refine q_k [3, 4] [0, 1, 2, 3, 4] ?_
  refine W.seq (q_sr (q_q q_mv (q_q Yld.nt (q_q q_mv ?_))))
  refine' q_or 12 17 5 [3, 4, 10, 11] [0, 1, 2, 3, 4] ?_ ?_ ?_
  rotate_left 1
  ·
   intro hg12
   have hok : (1 : Int) ≤ x.l.length := by simpa using hg12
   obtain ⟨z, q, hxl⟩ : ∃ z q, x.l = z :: q := by
     cases h : x.l with
     | nil => rw [h] at hok; simp at hok
     | cons z q => exact ⟨z, q, rfl⟩
   have hS1 := hx.head (n := 1) (by omega)
   have hl0 : (bz (x.l.take 1))[(0 : Int).toNat]? = some [.int .u8 z] := bz_get (by rw [hxl]; rfl)
   have hzb := hx.byt z (by rw [hxl]; simp)
   refine q_g (Yld.eq (v' := .slice x.p (1 : Int).toNat x.c) q_mv (takeV_pos hok)) ?_
   refine q_g (Yld.indexRow u152 sz5 rfl rfl hS1 (by rw [bz_len, List.length_take]; omega) (by omega) (by rw [bz_len, List.length_take]; omega)) ?_
   refine q_g (Yld.loadRow1 (cl := 2) u5 rfl rfl rfl hS1 hl0) ?_
   refine q_g (Yld.eq (v' := .bool (decide (1 < x.l.headD 0))) (q_b BinV.gtr) (by rw [hxl]; rfl)) (q_q Yld.pk ?_)
   exact q_m
  ·
   intro hg12
   repeat refine q_gs ?_
   refine q_q Yld.pk ?_
   exact q_m
  refine q_nn ?_
  refine W.cond rfl (fun hc17 => ?_) (fun hc17 => ?_)
  ·
   have hbad : bolV x.l = 0 ∧ bolE x.l = 11 ∧ ∀ z q, x.l = z :: q → 1 < z := by
     cases h : x.l with
     | nil => exact ⟨rfl, rfl, fun _ _ h => by cases h⟩
     | cons z q =>
       have h1 : 1 < z := by
         rw [h] at hc17
         simp at hc17
         omega
       exact ⟨if_pos h1, if_pos h1, fun _ _ e => by cases e; exact h1⟩
   refine q_sr (q_q q_as (q_an ?_))
   refine q_k [1, 2] [0, 1, 2, 3, 4] ?_
   refine W.ret (N.then_ret ?_)
   exact q_r [1, 2, 3, 4] (.cons (.tmp rfl) (.cons (.tmp rfl) .nil)) rfl rfl rfl ⟨x.take 1, hI2, he2, fun z q h h2 => absurd (hbad.2.2 z q h) h2, by rw [hbad.1, hbad.2.1]; rfl, rfl⟩
  ·
   have hok : (1 : Int) ≤ x.l.length := by
     cases h : x.l with
     | nil => rw [h] at hc17; simp at hc17
     | cons z q => simp; omega
   obtain ⟨z, q, hxl⟩ : ∃ z q, x.l = z :: q := by
     cases h : x.l with
     | nil => rw [h] at hok; simp at hok
     | cons z q => exact ⟨z, q, rfl⟩
   have hS1 := hx.head (n := 1) (by omega)
   have hl0 : (bz (x.l.take 1))[(0 : Int).toNat]? = some [.int .u8 z] := bz_get (by rw [hxl]; rfl)
   have hzb := hx.byt z (by rw [hxl]; simp)
   have hz1 : ¬ 1 < z := by
     rw [hxl] at hc17
     simp at hc17
     omega
   refine W.skip (N.next (q_k [3] [0, 1, 2, 3, 4] ?_))
   refine q_sr ?_
   refine q_q (Yld.eq (v' := .slice x.p (1 : Int).toNat x.c) q_mv (takeV_pos hok)) ?_
   refine q_q (Yld.indexRow u152 sz5 rfl rfl hS1 (by rw [bz_len, List.length_take]; omega) (by omega) (by rw [bz_len, List.length_take]; omega)) ?_
   refine q_q (Yld.loadRow1 (cl := 2) u5 rfl rfl rfl hS1 hl0) ?_
   refine q_q (Yld.convIs u5 u203 rfl (IntWalk.u64_in _ ⟨by omega, by omega⟩)) (q_q q_as (q_an ?_))
   refine q_k [1, 2] [0, 1, 2, 3, 4] ?_
   refine W.ret ?_
   exact q_r [1, 2, 3, 4] (.cons (.tmp rfl) (.cons (.tmp rfl) .nil)) rfl rfl rfl ⟨x.take 1, hI2, he2, fun z2 q2 h h2 => by rw [Rd.take_l hok, h]; rfl, by rw [hxl]; show _ = Value.tuple #[.int .u64 (if 1 < z then 0 else z), .int .i64 (if 1 < z then 11 else 0)]; rw [if_neg hz1, if_neg hz1]; rfl, rfl⟩

theorem readB_ct (r b : Nat) (x : Rd) (H1 G : PH) (hx : x.In H1) : Ct Tryz.prog 177 [.pointer (some ⟨r, 0, none⟩), .func (.func 186) [].toArray [.pointer (some ⟨b, 0, none⟩)].toArray] [single r (.cells [.slice x.p x.l.length x.c, .int .i64 x.e].toArray 261 (0, 0)), H1, single b (.cells [Value.pointer (some ⟨r, 0, none⟩)].toArray 150 (0, 0)), G] (fun v Hs => ∃ y : Rd, y.In H1 ∧ y.s = (rdB x.s).2 ∧ v = .int .u64 (if (rdB x.s).1 then 1 else 0) ∧ Hs = [single r (.cells [.slice y.p y.l.length y.c, .int .i64 y.e].toArray 261 (0, 0)), H1, single b (.cells [Value.pointer (some ⟨r, 0, none⟩)].toArray 150 (0, 0)), G]) :=
  (read_ct r x H1 (single b (.cells [Value.pointer (some ⟨r, 0, none⟩)].toArray 150 (0, 0))) G G hx 186 [] [Value.pointer (some ⟨b, 0, none⟩)] (bolV x.l) (bolE x.l) (fun y => ∀ z q, x.l = z :: q → ¬ 1 < z → y.l = q) ent186 (fun he => boolC_ct r b x H1 G hx he)).mono (by
    obtain ⟨xp, xc, xl, xe⟩ := x
    rintro v Hs ⟨y, hy, ⟨he, rfl, rfl, rfl⟩ | ⟨he, hn, hl, hye, rfl, rfl⟩ | ⟨he, hn, hye, hR, rfl, rfl⟩⟩
    · have e1 : rdB (Rd.s ⟨xp, xc, xl, xe⟩) = (false, (xl, xe)) := if_pos he
      exact ⟨_, hy, by rw [e1]; rfl, by rw [e1]; rfl, rfl⟩
    · dsimp only at he hn hye ⊢; subst he
      have e1 : rdB (Rd.s ⟨xp, xc, xl, 0⟩) = (false, ([], 11)) ∧ bolE xl = 11 := by
        cases xl with
        | nil => exact ⟨rfl, rfl⟩
        | cons z q =>
          by_cases h1 : 1 < z
          · exact ⟨by show (if (0 : Int) ≠ 0 then _ else if 1 < z then _ else _) = _; rw [if_neg (by decide), if_pos h1], if_pos h1⟩
          · exact absurd (if_neg h1) hn
      exact ⟨y, hy, by rw [e1.1]; show (y.l, y.e) = _; rw [hl, hye, e1.2], by rw [e1.1]; rfl, rfl⟩
    · dsimp only at he hn hR ⊢; subst he
      cases xl with
      | nil => cases hn
      | cons z q =>
        by_cases h1 : 1 < z
        · rw [show bolE (z :: q) = 11 from if_pos h1] at hn; cases hn
        · have e1 : rdB (Rd.s ⟨xp, xc, z :: q, 0⟩) = (decide (z = 1), (q, 0)) := by show (if (0 : Int) ≠ 0 then _ else if 1 < z then _ else _) = _; rw [if_neg (by decide), if_neg h1]
          have hzb := hx.byt z (by simp)
          refine ⟨y, hy, by rw [e1]; show (y.l, y.e) = _; rw [hR z q rfl h1, hye], ?_, rfl⟩
          rw [e1, show bolV (z :: q) = z from if_neg h1]
          by_cases h2 : z = 1
          · subst h2; rfl
          · have : z = 0 := by omega
            subst this; rfl)

set_option maxRecDepth 100000 in
set_option maxHeartbeats 1600000 in
theorem Bool_ct (r : Nat) (x : Rd) (H1 : PH) (hx : x.In H1) : Ct Tryz.prog 79 [.pointer (some ⟨r, 0, none⟩)] [single r (.cells [.slice x.p x.l.length x.c, .int .i64 x.e].toArray 261 (0, 0)), H1] (fun v Hs => ∃ y : Rd, y.In H1 ∧ y.s = (rdB x.s).2 ∧ v = .bool (rdB x.s).1 ∧ Hs = [single r (.cells [.slice y.p y.l.length y.c, .int .i64 y.e].toArray 261 (0, 0)), H1]) := by
  refine Ct.body Tryz.func79 rfl Tryz.ntmps79 rfl ?_
  intro E F
  refine q_sr ?_
  refine q_bx 101 fun b1 => ?_
  refine q_an ?_
  refine W.seq ?_
  refine W.imp (Imp.empty _ 91) (W.region (q_q (q_l 101 u150) ?_))
  refine q_q (Yld.makeFunc eval0 (eval1 rfl)) ?_
  refine q_e (q_c ent177 [1, 2, 101, 91] [1, 2, 101, 91] (readB_ct r b1 x H1 emp hx)) ?_
  rintro _ _ ⟨_, ⟨y, hy, hys, rfl, rfl⟩, rfl⟩
  obtain ⟨bb, hbb⟩ : ∃ bb, (rdB x.s).1 = bb := ⟨_, rfl⟩
  rw [hbb]
  refine q_q (q_b BinV.eql) (q_an ?_)
  refine q_k [2] [0, 1, 2, 91, 101] ?_
  refine W.ret ?_
  exact q_r [1, 2] (.cons (.tmp rfl) .nil) rfl rfl rfl ⟨y, hy, hys, by cases bb <;> rfl, rfl⟩

end Go.Proofs.YtnakhfmnchmhjaaGreat
