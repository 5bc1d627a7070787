/-
  Slices as rows of cells; append; maps.
-/
import Derived.Test.YtbgppnkccbhbpaaSlOps
namespace Go.Proofs.Ytbgppnkccbhbpaa.SL
set_option linter.unusedVariables false
open Go.RowKit

/-! ### rows -/
/-- the cells from place o on of block b are the elements ls, of n cells each -/
def Row (H : PH) (b o n : Nat) (ls : List (List Value)) : Prop :=
  ∃ cs e fr, H b = some (.cells (List.toArray cs) e fr) ∧ ∀ (i : Nat) l, ls[i]? = some l → l.length = n ∧ (cs.drop (o + i * n)).take n = l

/-- the slice value '.slice p ls.length c' reads as ls -/
def Sl (H : PH) (p : Option Addr) (c n : Nat) (ls : List (List Value)) : Prop :=
  match p with
  | none => ls = [] ∧ c = 0
  | some a => ls.length ≤ c ∧ c ≤ maxLen ∧ (0 < c → a.spot = none ∧ Row H a.block a.off n ls)

@[reducible] def rowAt (p : Option Addr) (k : Nat) : Addr := ⟨(p.getD default).block, (p.getD default).off + k, none⟩

theorem Row.cell {H : PH} {b o n : Nat} {ls : List (List Value)} (h : Row H b o n ls) {i : Nat} {l : List Value} (hl : ls[i]? = some l) {w : World} (hs : H.sub w) {j : Nat} {v : Value} (hj : l[j]? = some v) : w.cell? ⟨b, o + i * n + j, none⟩ = some v := by
  obtain ⟨cs, e, fr, hb, hr⟩ := h
  obtain ⟨h1, h2⟩ := hr i l hl
  rw [PH.sub.cell hs hb]
  rw [← h2, List.getElem?_take] at hj
  split at hj
  · simpa using hj
  · cases hj

theorem Row.len {H : PH} {b o n : Nat} {ls : List (List Value)} (h : Row H b o n ls) {i : Nat} {l : List Value} (hl : ls[i]? = some l) : l.length = n := by
  obtain ⟨cs, e, fr, hb, hr⟩ := h
  exact (hr i l hl).1

theorem Sl.row {H : PH} {p : Option Addr} {c n : Nat} {ls : List (List Value)} (h : Sl H p c n ls) {i : Nat} (hi : i < ls.length) : ∃ a : Addr, p = some ⟨a.block, a.off, none⟩ ∧ Row H a.block a.off n ls := by
  unfold Sl at h
  split at h
  · simp [h.1] at hi
  · rename_i a
    obtain ⟨h1, h2⟩ := h.2.2 (by omega)
    exact ⟨a, by obtain ⟨_, _, s⟩ := a; simp at h1; simp [h1], h2⟩

theorem Sl.mono {H H' : PH} {p : Option Addr} {c n : Nat} {ls : List (List Value)} (h : Sl H p c n ls) (hs : ∀ b o, H b = some o → H' b = some o) : Sl H' p c n ls := by
  unfold Sl at *
  split
  · exact h
  · obtain ⟨h2, h3, h4⟩ := h
    refine ⟨h2, h3, fun hc => ?_⟩
    obtain ⟨h1, cs, e, fr, hb, hr⟩ := h4 hc
    exact ⟨h1, cs, e, fr, hs _ _ hb, hr⟩

theorem Sl.len_le {H : PH} {p : Option Addr} {c n : Nat} {ls : List (List Value)} (h : Sl H p c n ls) : ls.length ≤ c ∧ c ≤ maxLen := by
  unfold Sl at h
  split at h
  · simp [h.1, h.2]
  · exact ⟨h.1, h.2.1⟩

section
variable {X : Cx} {σ : Loc} {L : Sh} {ty T : TypeId} {x y z : Operand}

theorem Yld.indexRow {e c m n : Nat} {p : Option Addr} {k : IntKind} {i : Int} {H : PH} {ls : List (List Value)} (ht : X.P.underlying T = some (.slice e)) (hm : sz X.P e m) (hx : ev σ x = some (.slice p n c)) (hy : ev σ y = some (.int k i))
    (hS : Sl H p c m ls) (hn : n = ls.length) (h0 : 0 ≤ i) (h1 : i < ls.length) : Yld X (.indexAddr T x y) ty σ L (.pointer (some (rowAt p (i.toNat * m)))) := by
  subst hn
  obtain ⟨a, rfl, hr⟩ := hS.row (i := i.toNat) (by omega)
  exact Yld.indexSl ht hm hx hy h0 h1

/-- an element of one cell -/
theorem Yld.loadRow1 {c m i : Nat} {p : Option Addr} {cl : Nat} {H : PH} {ls : List (List Value)} {v : Value} {d : TypeDesc} (hT : X.P.underlying T = some d) (hd : aggD d = false) (hx : ev σ x = some (.pointer (some (rowAt p (i * m))))) (hL : lk L cl = some H)
    (hS : Sl H p c m ls) (hl : ls[i]? = some [v]) : Yld X (.load T x) ty σ L v := by
  obtain ⟨a, rfl, hr⟩ := hS.row (i := i) (List.getElem?_eq_some_iff.1 hl).1
  exact Yld.load hx hL fun w hs => run_loadVar1 hT hd (by have := hr.cell hl hs (j := 0) rfl; simpa using this)

/-- a whole element -/
theorem Yld.loadRow {c m i : Nat} {p : Option Addr} {cl : Nat} {H : PH} {ls : List (List Value)} {l : List Value} {d : TypeDesc} (hT : X.P.underlying T = some d) (hd : aggD d = true) (hn : sz X.P T m) (hx : ev σ x = some (.pointer (some (rowAt p (i * m))))) (hL : lk L cl = some H)
    (hS : Sl H p c m ls) (hl : ls[i]? = some l) : Yld X (.load T x) ty σ L (.agg l.toArray) := by
  obtain ⟨a, rfl, hr⟩ := hS.row (i := i) (List.getElem?_eq_some_iff.1 hl).1
  exact Yld.load hx hL fun w hs => run_loadVarA hT hd hn (hr.len hl) fun j u hj => by have := hr.cell hl hs hj; simpa using this

/-- a field of an element -/
theorem Yld.loadRowF {c m i j : Nat} {p : Option Addr} {cl : Nat} {H : PH} {ls : List (List Value)} {l : List Value} {v : Value} {d : TypeDesc} (hT : X.P.underlying T = some d) (hd : aggD d = false) (hx : ev σ x = some (.pointer (some ⟨(rowAt p (i * m)).block, (rowAt p (i * m)).off + j, none⟩))) (hL : lk L cl = some H)
    (hS : Sl H p c m ls) (hl : ls[i]? = some l) (hv : l[j]? = some v) : Yld X (.load T x) ty σ L v := by
  obtain ⟨a, rfl, hr⟩ := hS.row (i := i) (List.getElem?_eq_some_iff.1 hl).1
  exact Yld.load hx hL fun w hs => run_loadVar1 hT hd (by have := hr.cell hl hs hv; simpa using this)
end

/-! ### slices of one's own: the piece is the slice's whole block, and nobody else looks at it -/
def Own (H : PH) (p : Option Addr) (c e n : Nat) (ls : List (List Value)) : Prop :=
  (∀ l ∈ ls, l.length = n ∧ ∀ v ∈ l, v.oneCell' = true) ∧ ls.length ≤ c ∧ c ≤ maxLen ∧
  match p with
  | none => ls = [] ∧ c = 0 ∧ H = emp
  | some a => a.off = 0 ∧ a.spot = none ∧ ∃ sp, H = single a.block (.cells (ls.flatten ++ sp).toArray e (0, 0)) ∧ (ls.flatten ++ sp).length = c * n

theorem flatten_length {n : Nat} : ∀ {ls : List (List Value)}, (∀ l ∈ ls, l.length = n) → ls.flatten.length = ls.length * n
  | [], _ => by simp
  | l :: ls, h => by
    have := flatten_length (n := n) (ls := ls) (fun l hl => h l (List.mem_cons_of_mem _ hl))
    simp only [List.flatten_cons, List.length_append, List.length_cons, this, h l (by simp), Nat.succ_mul]
    omega

theorem flatten_get {n : Nat} : ∀ {ls : List (List Value)} (sp : List Value), (∀ l ∈ ls, l.length = n) → ∀ (i : Nat) l, ls[i]? = some l → ((ls.flatten ++ sp).drop (i * n)).take n = l
  | [], _, _, i, l, h => by simp at h
  | a :: ls, sp, h, 0, l, hl => by
    simp at hl; subst hl
    have := h a (by simp)
    simp [this ▸ List.take_append_of_le_length (Nat.le_refl _)]
    rw [← this]; simp
  | a :: ls, sp, h, i + 1, l, hl => by
    have h1 := h a (by simp)
    have := flatten_get (n := n) sp (fun l hl => h l (List.mem_cons_of_mem _ hl)) i l (by simpa using hl)
    rw [List.flatten_cons, List.append_assoc, List.drop_append]
    rw [show (i + 1) * n - a.length = i * n by rw [h1, Nat.succ_mul]; omega]
    rw [List.drop_eq_nil_of_le (by rw [h1, Nat.succ_mul]; omega), List.nil_append]
    exact this

theorem Own.sl {H : PH} {p : Option Addr} {c e n : Nat} {ls : List (List Value)} (h : Own H p c e n ls) : Sl H p c n ls := by
  obtain ⟨h1, h2, h3, h4⟩ := h
  unfold Sl
  cases p with
  | none => exact ⟨h4.1, h4.2.1⟩
  | some a =>
    obtain ⟨h5, h6, sp, rfl, h7⟩ := h4
    refine ⟨h2, h3, fun _ => ⟨h6, _, e, (0, 0), single_self _ _, fun i l hl => ?_⟩⟩
    exact ⟨(h1 l (List.mem_of_getElem? hl)).1, by rw [h5, Nat.zero_add]; exact flatten_get sp (fun l hl => (h1 l hl).1) i l hl⟩

theorem Own.nil (e n : Nat) : Own emp none 0 e n [] := ⟨by simp, by simp, by simp [maxLen], rfl, rfl, rfl⟩

/-- a row that was just written out ('buildSlice', 'make') -/
theorem Own.mk {b c e n : Nat} {ls : List (List Value)} (sp : List Value) (h1 : ∀ l ∈ ls, l.length = n ∧ ∀ v ∈ l, v.oneCell' = true) (h2 : ls.length ≤ c) (h3 : c ≤ maxLen) (hl : (ls.flatten ++ sp).length = c * n) {cs : List Value} (hcs : cs = ls.flatten ++ sp) :
    Own (single b (.cells cs.toArray e (0, 0))) (some ⟨b, 0, none⟩) c e n ls := ⟨h1, h2, h3, rfl, rfl, sp, by rw [hcs], hl⟩

theorem Own.ownsRow {H : PH} {p : Option Addr} {c e n : Nat} {ls : List (List Value)} (h : Own H p c e n ls) {w : World} (hs : H.sub w) : w.ownsRow 0 e n (.slice p ls.length c) ls.length ls.flatten := by
  obtain ⟨h1, h2, h3, h4⟩ := h
  refine ⟨flatten_length fun l hl => (h1 l hl).1, ?_⟩
  cases p with
  | none => obtain ⟨rfl, rfl, rfl⟩ := h4; exact .inl ⟨rfl, rfl⟩
  | some a =>
    obtain ⟨b, o, s⟩ := a
    obtain ⟨h5, h6, sp, rfl, h7⟩ := h4
    simp only at h5 h6
    subst h5; subst h6
    refine .inr ⟨b, c, (ls.flatten ++ sp).toArray, rfl, Nat.zero_le _, hs b _ (single_self _ _), h2, h3, by simpa using h7, ?_⟩
    have := flatten_length (n := n) (ls := ls) fun l hl => (h1 l hl).1
    simp [← this]

/-- the piece of an own slice, as a world has it -/
theorem Own.of_ownsRow {w : World} {e n m : Nat} {v : Value} {ls : List (List Value)} (hl : ∀ l ∈ ls, l.length = n ∧ ∀ v ∈ l, v.oneCell' = true) (h : w.ownsRow 0 e n v m ls.flatten) (hm : m = ls.length) :
    ∃ H p c, v = .slice p ls.length c ∧ Own H p c e n ls ∧ H.sub w ∧ (∀ b o, H b = some o → v.ownBlock = some b) := by
  subst hm
  obtain ⟨h1, h2⟩ := h
  rcases h2 with ⟨rfl, h0⟩ | ⟨g, cap, cur, rfl, _, hg, hle, hmax, hsz, htake⟩
  · have : ls = [] := List.length_eq_zero_iff.1 h0
    subst this
    exact ⟨emp, none, 0, rfl, Own.nil e n, (fun b o h => by cases h), (fun b o h => by cases h)⟩
  · refine ⟨single g (.cells cur e (0, 0)), some ⟨g, 0, none⟩, cap, rfl, ⟨hl, hle, hmax, rfl, rfl, cur.toList.drop (ls.length * n), ?_, ?_⟩, ?_, ?_⟩
    · congr 2
      rw [← htake, List.take_append_drop]
    · rw [← htake, List.take_append_drop]; simpa using hsz
    · intro b o h; obtain ⟨rfl, rfl⟩ := single_inv h; exact hg
    · intro b o h; obtain ⟨rfl, rfl⟩ := single_inv h; rfl

section
variable {X : Cx} {σ : Loc} {L : Sh} {ty T : TypeId} {x y z : Operand}

/-- what a type's elements weigh: size in cells, in bytes; its zero value is known -/
def el (P : Program) (e n by_ : Nat) : Prop := ∃ i z, P.info? e = some i ∧ i.zero = some z ∧ i.size = n ∧ z.cells.size = n ∧ i.bytes = by_

theorem el.mk {P : Program} {e n by_ : Nat} (h : (P.info? e).map (fun i => (i.zero.map (fun z : Value => z.cells.size), i.size, i.bytes)) = some (some n, n, by_)) : el P e n by_ := by
  cases hi : P.info? e with
  | none => rw [hi] at h; cases h
  | some i =>
    rw [hi] at h
    simp at h
    obtain ⟨⟨z, hz, h1⟩, h2, h3⟩ := h
    exact ⟨i, z, hi, hz, h2, h1, h3⟩

theorem sl_cells {H : PH} {p : Option Addr} {c n : Nat} {ls : List (List Value)} (h : Sl H p c n ls) {w : World} (hs : H.sub w) {a : Addr} (hp : p = some a) : ∀ (j : Nat) u, ls.flatten[j]? = some u → w.cell? (a.add j) = some u := by
  subst hp
  obtain ⟨b, o, s⟩ := a
  obtain ⟨h2, _, h4⟩ := h
  intro j u hu
  have hne : 0 < ls.length := by
    cases ls with
    | nil => simp at hu
    | cons a r => simp
  obtain ⟨h1, hr⟩ := h4 (by omega)
  simp only at h1 hr
  subst h1
  rw [Addr.add_lit]
  have hlen : ∀ l ∈ ls, l.length = n := fun l hl => by
    obtain ⟨i, hi, rfl⟩ := List.getElem_of_mem hl
    exact hr.len (List.getElem?_eq_getElem hi)
  have hj := (List.getElem?_eq_some_iff.1 hu).1
  rw [flatten_length hlen] at hj
  have hn : 0 < n := by rcases Nat.eq_zero_or_pos n with h | h; · subst h; simp at hj
                        · exact h
  have hi : j / n < ls.length := Nat.div_lt_of_lt_mul (by rw [Nat.mul_comm]; exact hj)
  have hg := flatten_get (n := n) [] hlen (j / n) _ (List.getElem?_eq_getElem hi)
  have hv : (ls[j / n])[j % n]? = some u := by
    rw [← hg, List.append_nil, List.getElem?_take, if_pos (Nat.mod_lt _ hn), List.getElem?_drop]
    rw [Nat.mul_comm, Nat.div_add_mod]; exact hu
  have := hr.cell (List.getElem?_eq_getElem hi) hs hv
  rwa [Nat.add_assoc, Nat.mul_comm, Nat.div_add_mod] at this

/-- append to an own slice: the elements of whatever slice -/
theorem Eff.append {e n by_ tc sc : Nat} {p q : Option Addr} {c d len1 len2 : Nat} {H G : PH} {ls ms : List (List Value)} (ht : X.P.underlying T = some (.slice e)) (he : el X.P e n by_) (hx : ev σ x = some (.slice p len1 c)) (hy : ev σ y = some (.slice q len2 d))
    (hL : lk L tc = some H) (hG : lk L sc = some G) (hO : Own H p c e n ls) (hl1 : len1 = ls.length) (hS : Sl G q d n ms) (hl2 : len2 = ms.length) (h1 : ∀ l ∈ ms, ∀ v ∈ l, v.oneCell' = true) (hn : 0 < n) (hb : (ls.length + ms.length) * by_ ≤ 140737488355328) (hmax : ls.length + ms.length ≤ maxLen) :
    Eff X (.call { callee := .builtin .append, args := #[x, y], argTypes := #[T, T] }) ty σ L (fun v L' => ∃ H' p' c', v = .slice p' (ls ++ ms).length c' ∧ Own H' p' c' e n (ls ++ ms) ∧ L' = (tc, H') :: L) := fun a w ha hm o ho hty K Q hK => by
  subst hl1; subst hl2
  obtain ⟨i, z, hi, hz0, hz1, hz2, hz3⟩ := he
  have hms : ∀ l ∈ ms, l.length = n ∧ ∀ v ∈ l, v.oneCell' = true := fun l hl => by
    obtain ⟨j, hj, rfl⟩ := List.getElem_of_mem hl
    obtain ⟨a', _, hr⟩ := hS.row hj
    exact ⟨hr.len (List.getElem?_eq_getElem hj), h1 _ (List.getElem_mem hj)⟩
  have hls := hO.1
  have hall : ∀ l ∈ ls ++ ms, l.length = n ∧ ∀ v ∈ l, v.oneCell' = true := fun l hl => by
    rcases List.mem_append.1 hl with h | h
    · exact hls l h
    · exact hms l h
  have key : ∀ v w', w.grownBy w' (Value.ownBlock (.slice p ls.length c)) → w'.ownsRow 0 e n v (ls ++ ms).length (ls ++ ms).flatten → (∀ k, v.ownBlock = some k → (Value.slice p ls.length c).ownBlock = some k ∨ w.heap.size ≤ k) →
      ∃ H' p' c', v = .slice p' (ls ++ ms).length c' ∧ Own H' p' c' e n (ls ++ ms) ∧ Mem X.E ((tc, H') :: L) w' := by
    intro v w' hg hown hblk
    obtain ⟨H', p', c', rfl, hO', hs', hdom⟩ := Own.of_ownsRow hall hown rfl
    refine ⟨H', p', c', rfl, hO', hm.set tc (.inl hL) ⟨hg.os, hg.output, hg.size, fun b hb hD => ?_⟩ hs' fun b x hb => ?_⟩
    · refine hg.block b hb fun e => hD ?_
      cases p with
      | none => simp [Value.ownBlock] at e
      | some a' =>
        simp [Value.ownBlock] at e
        obtain ⟨_, _, _, _, _, sp, rfl, _⟩ := hO
        exact ⟨_, by rw [e]; exact single_self _ _⟩
    · rcases hblk b (hdom b x hb) with h | h
      · cases p with
        | none => simp [Value.ownBlock] at h
        | some a' =>
          simp [Value.ownBlock] at h
          obtain ⟨_, _, _, _, _, sp, rfl, _⟩ := hO
          exact .inl ⟨_, by rw [← h]; exact single_self _ _⟩
      · exact .inr h
  have hrow := hO.ownsRow (hm.sub _ _ hL)
  have hrun : ∃ v w', (Builtin.append_ #[T, T] ty #[.slice p ls.length c, .slice q ms.length d]).run X.P w = .ok v w' ∧ w.grownBy w' (Value.ownBlock (.slice p ls.length c)) ∧ w'.ownsRow 0 e n v (ls ++ ms).length (ls ++ ms).flatten ∧ (∀ k, v.ownBlock = some k → (Value.slice p ls.length c).ownBlock = some k ∨ w.heap.size ≤ k) := by
    cases q with
    | none =>
      obtain ⟨rfl, rfl⟩ := hS
      refine ⟨_, w, run_append_owned_none (P := X.P) (w := w) 0 T ty e i n ht hi _ _ _ hrow, ⟨rfl, rfl, rfl, Nat.le_refl _, fun _ _ _ => rfl⟩, by simpa using hrow, fun k hk => .inl hk⟩
    | some qa =>
      have hlo : ms.flatten.length = ms.length * n := flatten_length fun l hl => (hms l hl).1
      have hcells := sl_cells hS (hm.sub _ _ hG) rfl
      have hone : ∀ u ∈ ms.flatten, u.oneCell' = true := fun u hu => by
        obtain ⟨l, hl, hu'⟩ := List.mem_flatten.1 hu
        exact (hms l hl).2 u hu'
      cases p with
      | none =>
        obtain ⟨_, _, _, rfl, rfl, rfl⟩ := hO
        obtain ⟨v', w', hr, hown', hg, _⟩ := run_append_own (P := X.P) w w.heap.size T ty e i z n by_ ht hi hz0 hz1 hz3 hz2 hn (.slice none 0 0) 0 [] (World.ownsRow_nil w _ e n) qa ms.length d ms.flatten hlo hcells hone (by simpa using hmax) (by simpa using hb) (Nat.le_refl _)
        refine ⟨v', w', hr, hg, ?_, fun k hk => .inr (hown'.lt k hk).1⟩
        obtain ⟨g1, g2⟩ := hown'
        refine ⟨by simpa using g1, ?_⟩
        rcases g2 with g2 | ⟨g, cap, cur, hv, _, r⟩
        · exact .inl (by simpa using g2)
        · exact .inr ⟨g, cap, cur, by simpa using hv, Nat.zero_le _, by simpa using r⟩
      | some pa =>
        by_cases hroom : ls.length + ms.length ≤ c
        · obtain ⟨v', w', hr, hown', hg, _⟩ := run_append_own (P := X.P) w 0 T ty e i z n by_ ht hi hz0 hz1 hz3 hz2 hn _ _ _ hrow qa ms.length d ms.flatten hlo hcells hone hmax hb (Nat.zero_le _)
          obtain ⟨_, _, _, h5, h6, sp, rfl, h7⟩ := hO
          obtain ⟨b, o', s'⟩ := pa
          simp only at h5 h6
          subst h5; subst h6
          have hr2 := run_append_room (P := X.P) w T ty e i ht hi b ls.length c (ls.flatten ++ sp).toArray (hm.sub _ _ hL b _ (single_self _ _)) qa ms.length d ms.flatten (by rw [hz1]; exact hlo) hcells hone hroom (by
            rw [hz1, hlo, ← Nat.add_mul]; simp only [List.size_toArray, h7]; exact Nat.mul_le_mul_right _ hroom)
          rw [hr] at hr2
          injection hr2 with e1 e2
          subst e1
          refine ⟨_, w', hr, hg, ?_, fun k hk => .inl (by simpa [Value.ownBlock] using hk)⟩
          simpa using hown'
        · have holds := sl_cells hO.sl (hm.sub _ _ hL) (a := pa) rfl
          have hr := run_append_grow (P := X.P) w T ty e i z ht hi hz0 pa ls.length c ls.flatten (by rw [hz1]; exact flatten_length fun l hl => (hls l hl).1) holds qa ms.length d ms.flatten (by rw [hz1]; exact hlo) hcells (by omega) (by simp only [maxLen] at hmax; omega) (by rw [hz3]; exact growslice_fits (by omega) hb)
          obtain ⟨v', w', hr2, hown', hg, _⟩ := run_append_own (P := X.P) w 0 T ty e i z n by_ ht hi hz0 hz1 hz3 hz2 hn _ _ _ hrow qa ms.length d ms.flatten hlo hcells hone hmax hb (Nat.zero_le _)
          rw [hr2] at hr
          injection hr with e1 e2
          subst e1
          refine ⟨_, w', hr2, hg, by simpa using hown', fun k hk => .inr (by simp [Value.ownBlock] at hk; omega)⟩
  obtain ⟨v, w', hr, hg, hown, hblk⟩ := hrun
  obtain ⟨H', p', c', rfl, hO', hm'⟩ := key v w' hg hown hblk
  unfold Oper.wp
  have : (execOp a.eval o).run X.P w = .ok (.value (.slice p' (ls ++ ms).length c')) w' := by
    simp only [execOp, ho, resolve, Sem.run_bind, Sem.run_pure, Result.andThen_ok, invoke, builtin, eval2 hx hy a ha, hty]
    rw [hr]; rfl
  rw [this]
  exact hK _ _ w' ⟨H', p', c', rfl, hO', rfl⟩ hm'
end
end Go.Proofs.Ytbgppnkccbhbpaa.SL
