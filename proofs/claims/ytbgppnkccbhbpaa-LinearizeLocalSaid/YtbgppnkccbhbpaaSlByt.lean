/-
  Rows of bytes, and strings.
-/
import Derived.Test.YtbgppnkccbhbpaaSlSlc
import Derived.Laws.BytesArg
import Derived.Lib.AppendStr
import Derived.Lib.ConvBytes
namespace Go.Proofs.Ytbgppnkccbhbpaa.SL
set_option linter.unusedVariables false
section
variable {X : Cx} {σ : Loc} {L : Sh} {ty : TypeId} {x y z : Operand}
def bz (l : List Int) : List (List Value) := l.map fun z => [.int .u8 z]
@[simp] theorem bz_len (l : List Int) : (bz l).length = l.length := by simp [bz]
theorem bz_get {l : List Int} {i : Nat} {z : Int} (h : l[i]? = some z) : (bz l)[i]? = some [.int .u8 z] := by simp [bz, h]
theorem bz_at {l : List Int} {i : Nat} (h : i < l.length) : ∃ z, l[i]? = some z ∧ (bz l)[i]? = some [.int .u8 z] := ⟨l[i], List.getElem?_eq_getElem h, bz_get (List.getElem?_eq_getElem h)⟩
theorem bz_single {b e : Nat} {l : List Int} {cs : List Value} (hcs : cs = l.map fun z => .int .u8 z) (hm : l.length ≤ maxLen) : Own (single b (.cells cs.toArray e (0, 0))) (some ⟨b, 0, none⟩) l.length e 1 (bz l) := by
  have hf : (bz l).flatten = l.map fun z => Value.int .u8 z := by
    unfold bz
    clear hcs hm
    induction l with
    | nil => rfl
    | cons a l ih => simp [ih]
  refine Own.mk [] (fun r hr => ?_) (by simp) hm ?_ ?_
  · obtain ⟨z, _, rfl⟩ := List.mem_map.1 hr; exact ⟨rfl, by simp [Value.oneCell']⟩
  · rw [List.append_nil, hf]; simp
  · rw [hcs, List.append_nil, hf]
/-- 'string(b)' -/
theorem Yld.bytesStr {src dst e : TypeId} {p : Option Addr} {c n cl : Nat} {H : PH} {xs : List Int} (hs : X.P.underlying src = some (.slice e)) (he : X.P.underlying e = some (.int .u8)) (hd : X.P.underlying dst = some .string)
    (hx : ev σ x = some (.slice p n c)) (hL : lk L cl = some H) (hS : Sl H p c 1 (bz xs)) (hn : n = xs.length) : Yld X (.convert src dst x) ty σ L (.string (strOfNums xs)) :=
  Yld.of (fun ρ => convert src dst (ρ x)) (fun ρ o ho => by simp [execOp, ho]) fun a w ha hm => by
    rw [ha.ev hx]
    subst hn
    cases p with
    | none =>
      obtain ⟨h0, _⟩ := hS
      obtain rfl : xs = [] := List.map_eq_nil_iff.1 h0
      exact run_convert_bytes_nil w src e hs he 0 c dst hd
    | some ad =>
      by_cases hxs : 0 < xs.length
      · obtain ⟨a', ea, hr⟩ := hS.row (i := 0) (by simpa using hxs)
        cases ea
        exact run_convert_bytes_arg w src e hs he _ _ xs.length c xs rfl (fun i hi => by
          have := hr.cell (i := i) (bz_get (List.getElem?_eq_getElem hi)) (hm.sub _ _ hL) (j := 0) rfl
          rw [Nat.mul_one, Nat.add_zero] at this
          rw [this]; simp [List.getD, List.getElem?_eq_getElem hi]) dst hd
      · obtain rfl : xs = [] := List.eq_nil_of_length_eq_zero (by omega)
        rw [run_convert_bytes_string w src dst e _ _ c hs he hd]
        show (Conv.bytesToString (.slice (some ad) 0 c)).run X.P w = _
        rw [run_bytesToString w _ 0 c [] (by
          have := run_loadCells_list (P := X.P) w ad [] (fun j v hj => by simp at hj)
          simpa using this)]
        rfl
def strZ (s : ByteArray) : List Int := s.data.toList.map fun b => (b.toNat : Int)
theorem strZ_len (s : ByteArray) : (strZ s).length = s.size := by unfold strZ; rw [List.length_map, Array.length_toList]; rfl
theorem bz_flat (l : List Int) : (bz l).flatten = l.map fun z => Value.int .u8 z := by
  unfold bz
  induction l with
  | nil => rfl
  | cons a l ih => simp [ih]
theorem bz_app (l m : List Int) : bz (l ++ m) = bz l ++ bz m := by simp [bz]
theorem bz_take (l : List Int) (k : Nat) : bz (l.take k) = (bz l).take k := by simp [bz, List.map_take]
theorem bz_drop (l : List Int) (k : Nat) : bz (l.drop k) = (bz l).drop k := by simp [bz, List.map_drop]
theorem bz_one (l : List Int) : ∀ r ∈ bz l, ∀ v ∈ r, v.oneCell' = true := by
  intro r hr v hv
  obtain ⟨z, _, rfl⟩ := List.mem_map.1 hr
  simp only [List.mem_singleton] at hv; subst hv; rfl
theorem Yld.neg {T : TypeId} {k : IntKind} {a : Int} (hx : ev σ x = some (.int k a)) : Yld X (.unOp .neg T x) ty σ L (.int k (k.wrap (-a))) := fun ac w ha hm o ho _ => by
  have h1 : Op.intArith .sub k 0 a = pure (.int k (k.wrap (0 - a))) := rfl
  simp [execOp, ho, ha.ev hx, Op.unary, h1]
theorem Yld.negI {T : TypeId} {a : Int} (hx : ev σ x = some (.int .i64 a)) (h1 : -9223372036854775808 ≤ -a) (h2 : -a ≤ 9223372036854775807) : Yld X (.unOp .neg T x) ty σ L (.int .i64 (-a)) := fun ac w ha hm o ho hty => by
  have := Yld.neg (X := X) (L := L) (ty := ty) (T := T) hx ac w ha hm o ho hty
  rw [IntWalk.i64_in _ ⟨h1, h2⟩] at this
  exact this
theorem bz_one1 : ∀ (l : List Int), ∀ a ∈ l, ∀ v ∈ [Value.int .u8 a], v.oneCell' = true := fun l a _ v hv => by simp only [List.mem_singleton] at hv; subst hv; rfl
theorem bz_none {b e : Nat} {cs : List Value} (hcs : cs = []) : Own (single b (.cells cs.toArray e (0, 0))) (some ⟨b, 0, none⟩) 0 e 1 (bz []) := Own.none0 hcs
theorem bz_nil {e : Nat} : Own emp none 0 e 1 (bz []) := Own.nil _ _
/-- 'append(b, s...)' -/
theorem Eff.appendStr {T Tn e tc : Nat} {p : Option Addr} {c len1 : Nat} {H : PH} {ls : List (List Value)} {s : ByteArray} (ht : X.P.underlying T = some (.slice e)) (htn : X.P.underlying Tn = some .string) (he : (X.P.info? e).map (fun i => (i.zero, i.size, i.bytes)) = some (some (.int .u8 0), 1, 1))
    (hx : ev σ x = some (.slice p len1 c)) (hy : ev σ y = some (.string s)) (hL : lk L tc = some H) (hO : Own H p c e 1 ls) (hl1 : len1 = ls.length) (hmax : ls.length + s.size ≤ 140737488355328) :
    Eff X (.call { callee := .builtin .append, args := #[x, y], argTypes := #[T, Tn] }) ty σ L (fun v L' => ∃ H' p' c', v = .slice p' (ls ++ bz (strZ s)).length c' ∧ Own H' p' c' e 1 (ls ++ bz (strZ s)) ∧ L' = (tc, H') :: L) := fun a w ha hm o ho hty K Q hK => by
  subst hl1
  obtain ⟨i, hi, hz1, hz2, hz3⟩ : ∃ i, X.P.info? e = some i ∧ i.zero = some (.int .u8 0) ∧ i.size = 1 ∧ i.bytes = 1 := by
    cases h : X.P.info? e with
    | none => rw [h] at he; cases he
    | some i => rw [h] at he; simp at he; exact ⟨i, rfl, he.1, he.2.1, he.2.2⟩
  have hstr : Lib.strCells s = (bz (strZ s)).flatten := by
    rw [bz_flat]; unfold strZ Lib.strCells; rw [List.map_map]; rfl
  have hlenS : (bz (strZ s)).length = s.size := by rw [bz_len, strZ_len]
  have hls := hO.1
  have hall : ∀ l ∈ ls ++ bz (strZ s), l.length = 1 ∧ ∀ v ∈ l, v.oneCell' = true := fun l hl => by
    rcases List.mem_append.1 hl with h | h
    · exact hls l h
    · obtain ⟨z, _, rfl⟩ := List.mem_map.1 h; exact ⟨rfl, by simp [Value.oneCell']⟩
  have key : ∀ v w', w.grownBy w' (Value.ownBlock (.slice p ls.length c)) → w'.ownsRow 0 e 1 v (ls ++ bz (strZ s)).length (ls ++ bz (strZ s)).flatten → (∀ k, v.ownBlock = some k → (Value.slice p ls.length c).ownBlock = some k ∨ w.heap.size ≤ k) →
      ∃ H' p' c', v = .slice p' (ls ++ bz (strZ s)).length c' ∧ Own H' p' c' e 1 (ls ++ bz (strZ s)) ∧ Mem X.E ((tc, H') :: L) w' := by
    intro v w' hg hown hblk
    obtain ⟨H', p', c', rfl, hO', hs', hdom⟩ := Own.of_ownsRow hall hown rfl
    refine ⟨H', p', c', rfl, hO', hm.set tc (.inl hL) ⟨hg.os, hg.output, hg.size, fun b hb hD => ?_⟩ hs' fun b x hb => ?_⟩
    · refine hg.block b hb fun e => hD ?_
      cases p with
      | none => simp [Value.ownBlock] at e
      | some a' =>
        simp [Value.ownBlock] at e
        obtain ⟨_, _, _, _, _, sp, rfl, _⟩ := hO
        exact ⟨_, by rw [e]; exact single_self _ _⟩
    · rcases hblk b (hdom b x hb) with h | h
      · cases p with
        | none => simp [Value.ownBlock] at h
        | some a' =>
          simp [Value.ownBlock] at h
          obtain ⟨_, _, _, _, _, sp, rfl, _⟩ := hO
          exact .inl ⟨_, by rw [← h]; exact single_self _ _⟩
      · exact .inr h
  have hrow := hO.ownsRow (hm.sub _ _ hL)
  have hmx : ls.length + s.size ≤ maxLen := by simp only [maxLen]; omega
  have hrun : ∃ v w', (Builtin.append_ #[T, Tn] ty #[.slice p ls.length c, .string s]).run X.P w = .ok v w' ∧ w.grownBy w' (Value.ownBlock (.slice p ls.length c)) ∧ w'.ownsRow 0 e 1 v (ls ++ bz (strZ s)).length (ls ++ bz (strZ s)).flatten ∧ (∀ k, v.ownBlock = some k → (Value.slice p ls.length c).ownBlock = some k ∨ w.heap.size ≤ k) := by
    rw [List.length_append, hlenS, List.flatten_append, ← hstr]
    cases p with
    | none =>
      obtain ⟨_, _, _, rfl, rfl, rfl⟩ := hO
      obtain ⟨v', w', hr, hown', hg, _⟩ := Lib.run_append_own_string (P := X.P) w w.heap.size T Tn ty e i ht htn hi hz1 hz2 hz3 (.slice none 0 0) 0 [] (World.ownsRow_nil w _ e 1) s (by simpa using hmx) (by simpa using hmax) (Nat.le_refl _)
      refine ⟨v', w', hr, hg, ?_, fun k hk => .inr (hown'.lt k hk).1⟩
      obtain ⟨g1, g2⟩ := hown'
      refine ⟨by simpa using g1, ?_⟩
      rcases g2 with g2 | ⟨g, cap, cur, hv, _, r⟩
      · exact .inl (by simpa using g2)
      · exact .inr ⟨g, cap, cur, by simpa using hv, Nat.zero_le _, by simpa using r⟩
    | some pa =>
      obtain ⟨v', w', hr, hown', hg, _⟩ := Lib.run_append_own_string (P := X.P) w 0 T Tn ty e i ht htn hi hz1 hz2 hz3 _ _ _ hrow s hmx hmax (Nat.zero_le _)
      by_cases hroom : ls.length + s.size ≤ c
      · obtain ⟨_, _, _, h5, h6, sp, rfl, h7⟩ := hO
        obtain ⟨b, o', s'⟩ := pa
        simp only at h5 h6
        subst h5; subst h6
        have hr2 := Lib.run_append_room_string (P := X.P) w T Tn ty e i ht htn hi hz2 b ls.length c (ls.flatten ++ sp).toArray (hm.sub _ _ hL b _ (single_self _ _)) s hroom (by simp only [List.size_toArray, h7]; omega)
        rw [hr] at hr2
        injection hr2 with e1 e2
        subst e1
        exact ⟨_, w', hr, hg, hown', fun k hk => .inl (by simpa [Value.ownBlock] using hk)⟩
      · have holds := sl_cells hO.sl (hm.sub _ _ hL) (a := pa) rfl
        have hr2 := Lib.run_append_grow_string (P := X.P) w T Tn ty e i (.int .u8 0) ht htn hi hz1 pa ls.length c ls.flatten (by rw [hz2]; exact flatten_length fun l hl => (hls l hl).1) holds s (by omega) (by omega) (by rw [hz3]; exact growslice_fits (by omega) (by omega))
        have hr3 := hr
        rw [hr] at hr2
        injection hr2 with e1 e2
        subst e1
        exact ⟨_, w', hr3, hg, hown', fun k hk => .inr (by simp [Value.ownBlock] at hk; omega)⟩
  obtain ⟨v, w', hr, hg, hown, hblk⟩ := hrun
  obtain ⟨H', p', c', rfl, hO', hm'⟩ := key v w' hg hown hblk
  unfold Oper.wp
  have : (execOp a.eval o).run X.P w = .ok (.value (.slice p' (ls ++ bz (strZ s)).length c')) w' := by
    simp only [execOp, ho, resolve, Sem.run_bind, Sem.run_pure, Result.andThen_ok, invoke, builtin, eval2 hx hy a ha, hty]
    rw [hr]; rfl
  rw [this]
  exact hK _ _ w' ⟨H', p', c', rfl, hO', rfl⟩ hm'
/-- '[]byte(s)' -/
theorem Eff.strBytes (tc : Nat) {src dst e : TypeId} {s : ByteArray} (hs : X.P.underlying src = some .string) (hd : X.P.underlying dst = some (.slice e)) (he : X.P.underlying e = some (.int .u8)) (hx : ev σ x = some (.string s)) (hmax : s.size ≤ maxLen) :
    Eff X (.convert src dst x) ty σ L (fun v L' => ∃ H' p' c', v = .slice p' (strZ s).length c' ∧ Sl H' p' c' 1 (bz (strZ s)) ∧ L' = (tc, H') :: L) := fun a w ha hm o ho hty K Q hK => by
  have hr := Lib.run_convert_string_bytes (P := X.P) w src dst e s hs hd he
  have hm' : Mem X.E ((tc, single w.heap.size (.cells (Lib.bytesCells w e s) e ((Lib.bytesCells w e s).size, (Lib.bytesCells w e s).size + 1))) :: L) (Lib.bytesWorld w e s) :=
    hm.set tc (G := emp) (.inr fun _ => rfl) ⟨rfl, rfl, by rw [Lib.bytesWorld_size]; omega, fun b hb _ => Lib.bytesWorld_at_old w e s b hb⟩
      (fun b x hb => by obtain ⟨rfl, rfl⟩ := single_inv hb; exact Lib.bytesWorld_at_new w e s) (fun b x hb => by obtain ⟨rfl, rfl⟩ := single_inv hb; exact .inr (Nat.le_refl _))
  unfold Oper.wp
  have h2 : (execOp a.eval o).run X.P w = .ok (.value (.slice (some ⟨w.heap.size, 0, none⟩) s.size (grownCap w s.size 0 e))) (Lib.bytesWorld w e s) := by
    simp only [execOp, ho, Sem.run_bind, ha.ev hx, hr]; rfl
  rw [h2]
  have hge := grownCap_ge w s.size 0 e
  refine hK _ _ _ ⟨_, _, _, by rw [strZ_len], ?_, rfl⟩ hm'
  refine ⟨by rw [bz_len, strZ_len]; exact hge, grownCap_le_maxLen w s.size 0 e hmax, fun _ => ⟨rfl, (Lib.bytesCells w e s).toList, e, _, by rw [Array.toArray_toList]; exact single_self _ _, fun i l hl => ?_⟩⟩
  have hb : (Lib.bytesCells w e s).toList = (bz (strZ s)).flatten ++ List.replicate (grownCap w s.size 0 e - s.size) (.int .u8 0) := by
    rw [bz_flat]; unfold Lib.bytesCells strZ; rw [Array.toList_append, Array.toList_map, List.map_map, Array.toList_replicate]; rfl
  refine ⟨?_, by rw [hb, Nat.zero_add]; exact flatten_get _ (fun l hl => by obtain ⟨z, _, rfl⟩ := List.mem_map.1 hl; rfl) i l hl⟩
  obtain ⟨z, _, rfl⟩ := List.mem_map.1 (List.mem_of_getElem? hl); rfl
/-- 's[l:]', 's[:h]' -/
theorem Yld.sliceStrL {T : TypeId} {k : IntKind} {l : Int} {s : ByteArray} (ht : X.P.underlying T = some .string) (hx : ev σ x = some (.string s)) (hy : ev σ y = some (.int k l)) (h0 : 0 ≤ l) (h1 : l ≤ s.size) :
    Yld X (.slice T x (some y) none none) ty σ L (.string (s.extract l.toNat s.size)) :=
  Yld.of (fun ρ => Instr.sliceAt T (ρ x) (some (ρ y)) none none) (fun ρ o ho => by simp [execOp, ho]) fun a w ha hmem => by
    rw [ha.ev hx, ha.ev hy]
    simp only [Instr.sliceAt, Sem.run_bind, run_underlying ht, Result.andThen_ok, Instr.slice, Instr.sliceBounds, Sem.run_pure, Option.isSome_none, Bool.false_eq_true, if_false]
    simp [run_sliceB (y := s.size) _ h0 h1]
theorem Yld.sliceStrH {T : TypeId} {k : IntKind} {h : Int} {s : ByteArray} (ht : X.P.underlying T = some .string) (hx : ev σ x = some (.string s)) (hz : ev σ z = some (.int k h)) (h0 : 0 ≤ h) (h2 : h ≤ s.size) :
    Yld X (.slice T x none (some z) none) ty σ L (.string (s.extract 0 h.toNat)) :=
  Yld.of (fun ρ => Instr.sliceAt T (ρ x) none (some (ρ z)) none) (fun ρ o ho => by simp [execOp, ho]) fun a w ha hmem => by
    rw [ha.ev hx, ha.ev hz]
    simp only [Instr.sliceAt, Sem.run_bind, run_underlying ht, Result.andThen_ok, Instr.slice, Instr.sliceBounds, Sem.run_pure, Option.isSome_none, Bool.false_eq_true, if_false, run_sliceB _ h0 h2]
theorem ext_strZ (s : ByteArray) (a b : Nat) : s.extract a b = strOfNums (((strZ s).drop a).take (b - a)) := by
  unfold strOfNums strZ
  apply ByteArray.ext
  apply Array.ext'
  simp only [ByteArray.data_extract, Array.toList_extract, List.extract_eq_take_drop]
  rw [List.map_take, List.map_drop, List.map_map]
  have : ((fun n : Int => UInt8.ofNat n.toNat) ∘ fun b : UInt8 => (b.toNat : Int)) = id := by
    funext b; simp
  rw [this, List.map_id]
end
end Go.Proofs.Ytbgppnkccbhbpaa.SL
