/- Several texts in one, in their build order: what the proofs of this seat share. -/
import Derived.Test.YtnakhfmnchmhjaaGreatPk1
import Derived.MapKept
import Derived.ChangeMaps4
import Derived.Lib.AppendZeros
import Derived.Lib.SliceRun
import Derived.Sort.Row
import Derived.Sort.Grow
set_option linter.unusedVariables false
set_option linter.unusedSimpArgs false
set_option linter.unusedSectionVars false
/-
  Slices as rows of cells; append; maps.
-/
namespace Go.Proofs.YtnakhfmnchmhjaaGreat.SL
set_option linter.unusedVariables false
open Go.RowKit

/-! ### rows -/
/-- the cells from place o on of block b are the elements ls, of n cells each -/
def Row (H : PH) (b o n : Nat) (ls : List (List Value)) : Prop :=
  ∃ cs e fr, H b = some (.cells (List.toArray cs) e fr) ∧ ∀ (i : Nat) l, ls[i]? = some l → l.length = n ∧ (cs.drop (o + i * n)).take n = l

/-- the slice value '.slice p ls.length c' reads as ls -/
def Sl (H : PH) (p : Option Addr) (c n : Nat) (ls : List (List Value)) : Prop :=
  match p with
  | none => ls = [] ∧ c = 0
  | some a => ls.length ≤ c ∧ c ≤ maxLen ∧ (0 < c → a.spot = none ∧ Row H a.block a.off n ls)

@[reducible] def rowAt (p : Option Addr) (k : Nat) : Addr := ⟨(p.getD default).block, (p.getD default).off + k, none⟩

theorem Row.cell {H : PH} {b o n : Nat} {ls : List (List Value)} (h : Row H b o n ls) {i : Nat} {l : List Value} (hl : ls[i]? = some l) {w : World} (hs : H.sub w) {j : Nat} {v : Value} (hj : l[j]? = some v) : w.cell? ⟨b, o + i * n + j, none⟩ = some v := by
  obtain ⟨cs, e, fr, hb, hr⟩ := h
  obtain ⟨h1, h2⟩ := hr i l hl
  rw [PH.sub.cell hs hb]
  rw [← h2, List.getElem?_take] at hj
  split at hj
  · simpa using hj
  · cases hj

theorem Row.len {H : PH} {b o n : Nat} {ls : List (List Value)} (h : Row H b o n ls) {i : Nat} {l : List Value} (hl : ls[i]? = some l) : l.length = n := by
  obtain ⟨cs, e, fr, hb, hr⟩ := h
  exact (hr i l hl).1

theorem Sl.row {H : PH} {p : Option Addr} {c n : Nat} {ls : List (List Value)} (h : Sl H p c n ls) {i : Nat} (hi : i < ls.length) : ∃ a : Addr, p = some ⟨a.block, a.off, none⟩ ∧ Row H a.block a.off n ls := by
  unfold Sl at h
  split at h
  · simp [h.1] at hi
  · rename_i a
    obtain ⟨h1, h2⟩ := h.2.2 (by omega)
    exact ⟨a, by obtain ⟨_, _, s⟩ := a; simp at h1; simp [h1], h2⟩

theorem Sl.mono {H H' : PH} {p : Option Addr} {c n : Nat} {ls : List (List Value)} (h : Sl H p c n ls) (hs : ∀ b o, H b = some o → H' b = some o) : Sl H' p c n ls := by
  unfold Sl at *
  split
  · exact h
  · obtain ⟨h2, h3, h4⟩ := h
    refine ⟨h2, h3, fun hc => ?_⟩
    obtain ⟨h1, cs, e, fr, hb, hr⟩ := h4 hc
    exact ⟨h1, cs, e, fr, hs _ _ hb, hr⟩

theorem Sl.len_le {H : PH} {p : Option Addr} {c n : Nat} {ls : List (List Value)} (h : Sl H p c n ls) : ls.length ≤ c ∧ c ≤ maxLen := by
  unfold Sl at h
  split at h
  · simp [h.1, h.2]
  · exact ⟨h.1, h.2.1⟩

section
variable {X : Cx} {σ : Loc} {L : Sh} {ty T : TypeId} {x y z : Operand}

theorem Yld.indexRow {e c m n : Nat} {p : Option Addr} {k : IntKind} {i : Int} {H : PH} {ls : List (List Value)} (ht : X.P.underlying T = some (.slice e)) (hm : sz X.P e m) (hx : ev σ x = some (.slice p n c)) (hy : ev σ y = some (.int k i))
    (hS : Sl H p c m ls) (hn : n = ls.length) (h0 : 0 ≤ i) (h1 : i < ls.length) : Yld X (.indexAddr T x y) ty σ L (.pointer (some (rowAt p (i.toNat * m)))) := by
  subst hn
  obtain ⟨a, rfl, hr⟩ := hS.row (i := i.toNat) (by omega)
  exact Yld.indexSl ht hm hx hy h0 h1

/-- an element of one cell -/
theorem Yld.loadRow1 {c m i : Nat} {p : Option Addr} {cl : Nat} {H : PH} {ls : List (List Value)} {v : Value} {d : TypeDesc} (hT : X.P.underlying T = some d) (hd : aggD d = false) (hx : ev σ x = some (.pointer (some (rowAt p (i * m))))) (hL : lk L cl = some H)
    (hS : Sl H p c m ls) (hl : ls[i]? = some [v]) : Yld X (.load T x) ty σ L v := by
  obtain ⟨a, rfl, hr⟩ := hS.row (i := i) (List.getElem?_eq_some_iff.1 hl).1
  exact Yld.load hx hL fun w hs => run_loadVar1 hT hd (by have := hr.cell hl hs (j := 0) rfl; simpa using this)

/-- a whole element -/
theorem Yld.loadRow {c m i : Nat} {p : Option Addr} {cl : Nat} {H : PH} {ls : List (List Value)} {l : List Value} {d : TypeDesc} (hT : X.P.underlying T = some d) (hd : aggD d = true) (hn : sz X.P T m) (hx : ev σ x = some (.pointer (some (rowAt p (i * m))))) (hL : lk L cl = some H)
    (hS : Sl H p c m ls) (hl : ls[i]? = some l) : Yld X (.load T x) ty σ L (.agg l.toArray) := by
  obtain ⟨a, rfl, hr⟩ := hS.row (i := i) (List.getElem?_eq_some_iff.1 hl).1
  exact Yld.load hx hL fun w hs => run_loadVarA hT hd hn (hr.len hl) fun j u hj => by have := hr.cell hl hs hj; simpa using this

/-- a field of an element -/
theorem Yld.loadRowF {c m i j : Nat} {p : Option Addr} {cl : Nat} {H : PH} {ls : List (List Value)} {l : List Value} {v : Value} {d : TypeDesc} (hT : X.P.underlying T = some d) (hd : aggD d = false) (hx : ev σ x = some (.pointer (some ⟨(rowAt p (i * m)).block, (rowAt p (i * m)).off + j, none⟩))) (hL : lk L cl = some H)
    (hS : Sl H p c m ls) (hl : ls[i]? = some l) (hv : l[j]? = some v) : Yld X (.load T x) ty σ L v := by
  obtain ⟨a, rfl, hr⟩ := hS.row (i := i) (List.getElem?_eq_some_iff.1 hl).1
  exact Yld.load hx hL fun w hs => run_loadVar1 hT hd (by have := hr.cell hl hs hv; simpa using this)
end

/-! ### slices of one's own: the piece is the slice's whole block, and nobody else looks at it -/
def Own (H : PH) (p : Option Addr) (c e n : Nat) (ls : List (List Value)) : Prop :=
  (∀ l ∈ ls, l.length = n ∧ ∀ v ∈ l, v.oneCell' = true) ∧ ls.length ≤ c ∧ c ≤ maxLen ∧
  match p with
  | none => ls = [] ∧ c = 0 ∧ H = emp
  | some a => a.off = 0 ∧ a.spot = none ∧ ∃ sp, H = single a.block (.cells (ls.flatten ++ sp).toArray e (0, 0)) ∧ (ls.flatten ++ sp).length = c * n

theorem flatten_length {n : Nat} : ∀ {ls : List (List Value)}, (∀ l ∈ ls, l.length = n) → ls.flatten.length = ls.length * n
  | [], _ => by simp
  | l :: ls, h => by
    have := flatten_length (n := n) (ls := ls) (fun l hl => h l (List.mem_cons_of_mem _ hl))
    simp only [List.flatten_cons, List.length_append, List.length_cons, this, h l (by simp), Nat.succ_mul]
    omega

theorem flatten_get {n : Nat} : ∀ {ls : List (List Value)} (sp : List Value), (∀ l ∈ ls, l.length = n) → ∀ (i : Nat) l, ls[i]? = some l → ((ls.flatten ++ sp).drop (i * n)).take n = l
  | [], _, _, i, l, h => by simp at h
  | a :: ls, sp, h, 0, l, hl => by
    simp at hl; subst hl
    have := h a (by simp)
    simp [this ▸ List.take_append_of_le_length (Nat.le_refl _)]
    rw [← this]; simp
  | a :: ls, sp, h, i + 1, l, hl => by
    have h1 := h a (by simp)
    have := flatten_get (n := n) sp (fun l hl => h l (List.mem_cons_of_mem _ hl)) i l (by simpa using hl)
    rw [List.flatten_cons, List.append_assoc, List.drop_append]
    rw [show (i + 1) * n - a.length = i * n by rw [h1, Nat.succ_mul]; omega]
    rw [List.drop_eq_nil_of_le (by rw [h1, Nat.succ_mul]; omega), List.nil_append]
    exact this

theorem Own.sl {H : PH} {p : Option Addr} {c e n : Nat} {ls : List (List Value)} (h : Own H p c e n ls) : Sl H p c n ls := by
  obtain ⟨h1, h2, h3, h4⟩ := h
  unfold Sl
  cases p with
  | none => exact ⟨h4.1, h4.2.1⟩
  | some a =>
    obtain ⟨h5, h6, sp, rfl, h7⟩ := h4
    refine ⟨h2, h3, fun _ => ⟨h6, _, e, (0, 0), single_self _ _, fun i l hl => ?_⟩⟩
    exact ⟨(h1 l (List.mem_of_getElem? hl)).1, by rw [h5, Nat.zero_add]; exact flatten_get sp (fun l hl => (h1 l hl).1) i l hl⟩

theorem Own.nil (e n : Nat) : Own emp none 0 e n [] := ⟨by simp, by simp, by simp [maxLen], rfl, rfl, rfl⟩

/-- a row that was just written out ('buildSlice', 'make') -/
theorem Own.mk {b c e n : Nat} {ls : List (List Value)} (sp : List Value) (h1 : ∀ l ∈ ls, l.length = n ∧ ∀ v ∈ l, v.oneCell' = true) (h2 : ls.length ≤ c) (h3 : c ≤ maxLen) (hl : (ls.flatten ++ sp).length = c * n) {cs : List Value} (hcs : cs = ls.flatten ++ sp) :
    Own (single b (.cells cs.toArray e (0, 0))) (some ⟨b, 0, none⟩) c e n ls := ⟨h1, h2, h3, rfl, rfl, sp, by rw [hcs], hl⟩

theorem Own.ownsRow {H : PH} {p : Option Addr} {c e n : Nat} {ls : List (List Value)} (h : Own H p c e n ls) {w : World} (hs : H.sub w) : w.ownsRow 0 e n (.slice p ls.length c) ls.length ls.flatten := by
  obtain ⟨h1, h2, h3, h4⟩ := h
  refine ⟨flatten_length fun l hl => (h1 l hl).1, ?_⟩
  cases p with
  | none => obtain ⟨rfl, rfl, rfl⟩ := h4; exact .inl ⟨rfl, rfl⟩
  | some a =>
    obtain ⟨b, o, s⟩ := a
    obtain ⟨h5, h6, sp, rfl, h7⟩ := h4
    simp only at h5 h6
    subst h5; subst h6
    refine .inr ⟨b, c, (ls.flatten ++ sp).toArray, rfl, Nat.zero_le _, hs b _ (single_self _ _), h2, h3, by simpa using h7, ?_⟩
    have := flatten_length (n := n) (ls := ls) fun l hl => (h1 l hl).1
    simp [← this]

/-- the piece of an own slice, as a world has it -/
theorem Own.of_ownsRow {w : World} {e n m : Nat} {v : Value} {ls : List (List Value)} (hl : ∀ l ∈ ls, l.length = n ∧ ∀ v ∈ l, v.oneCell' = true) (h : w.ownsRow 0 e n v m ls.flatten) (hm : m = ls.length) :
    ∃ H p c, v = .slice p ls.length c ∧ Own H p c e n ls ∧ H.sub w ∧ (∀ b o, H b = some o → v.ownBlock = some b) := by
  subst hm
  obtain ⟨h1, h2⟩ := h
  rcases h2 with ⟨rfl, h0⟩ | ⟨g, cap, cur, rfl, _, hg, hle, hmax, hsz, htake⟩
  · have : ls = [] := List.length_eq_zero_iff.1 h0
    subst this
    exact ⟨emp, none, 0, rfl, Own.nil e n, (fun b o h => by cases h), (fun b o h => by cases h)⟩
  · refine ⟨single g (.cells cur e (0, 0)), some ⟨g, 0, none⟩, cap, rfl, ⟨hl, hle, hmax, rfl, rfl, cur.toList.drop (ls.length * n), ?_, ?_⟩, ?_, ?_⟩
    · congr 2
      rw [← htake, List.take_append_drop]
    · rw [← htake, List.take_append_drop]; simpa using hsz
    · intro b o h; obtain ⟨rfl, rfl⟩ := single_inv h; exact hg
    · intro b o h; obtain ⟨rfl, rfl⟩ := single_inv h; rfl

section
variable {X : Cx} {σ : Loc} {L : Sh} {ty T : TypeId} {x y z : Operand}
theorem Yld.ixr {e c m n : Nat} {p : Option Addr} {k : IntKind} {i : Int} {H : PH} {ls : List (List Value)} (ht : X.P.underlying T = some (.slice e)) (hm : sz X.P e m) (hx : ev σ x = some (.slice p n c)) (hy : ev σ y = some (.int k i))
    (hS : Sl H p c m ls := by first | assumption | exact Own.sl (by assumption)) (hn : n = ls.length := by first | rfl | omega | (simp; done) | (simp; omega)) (h0 : 0 ≤ i := by omega) (h1 : i < ls.length := by first | omega | (simp; done) | (simp; omega)) : Yld X (.indexAddr T x y) ty σ L (.pointer (some (rowAt p (i.toNat * m)))) := Yld.indexRow ht hm hx hy hS hn h0 h1
theorem Yld.lrA (cl : Nat) {c m i : Nat} {p : Option Addr} {H : PH} {ls : List (List Value)} {l : List Value} {d : TypeDesc} (hT : X.P.underlying T = some d) (hn : sz X.P T m) (hd : aggD d = true) (hx : ev σ x = some (.pointer (some (rowAt p (i * m))))) (hL : lk L cl = some H)
    (hS : Sl H p c m ls := by first | assumption | exact Own.sl (by assumption)) (hl : ls[i]? = some l := by assumption) : Yld X (.load T x) ty σ L (.agg l.toArray) := Yld.loadRow hT hd hn hx hL hS hl
theorem Yld.lrF (cl j : Nat) {c m i : Nat} {p : Option Addr} {H : PH} {ls : List (List Value)} {l : List Value} {v : Value} {d : TypeDesc} (hT : X.P.underlying T = some d) (hd : aggD d = false) (hx : ev σ x = some (.pointer (some ⟨(rowAt p (i * m)).block, (rowAt p (i * m)).off + j, none⟩))) (hL : lk L cl = some H)
    (hv : l[j]? = some v) (hS : Sl H p c m ls := by first | assumption | exact Own.sl (by assumption)) (hl : ls[i]? = some l := by assumption) : Yld X (.load T x) ty σ L v := Yld.loadRowF hT hd hx hL hS hl hv

/-- what a type's elements weigh: size in cells, in bytes; its zero value is known -/
def el (P : Program) (e n by_ : Nat) : Prop := ∃ i z, P.info? e = some i ∧ i.zero = some z ∧ i.size = n ∧ z.cells.size = n ∧ i.bytes = by_

theorem el.mk {P : Program} {e n by_ : Nat} (h : (P.info? e).map (fun i => (i.zero.map (fun z : Value => z.cells.size), i.size, i.bytes)) = some (some n, n, by_)) : el P e n by_ := by
  cases hi : P.info? e with
  | none => rw [hi] at h; cases h
  | some i =>
    rw [hi] at h
    simp at h
    obtain ⟨⟨z, hz, h1⟩, h2, h3⟩ := h
    exact ⟨i, z, hi, hz, h2, h1, h3⟩

theorem sl_cells {H : PH} {p : Option Addr} {c n : Nat} {ls : List (List Value)} (h : Sl H p c n ls) {w : World} (hs : H.sub w) {a : Addr} (hp : p = some a) : ∀ (j : Nat) u, ls.flatten[j]? = some u → w.cell? (a.add j) = some u := by
  subst hp
  obtain ⟨b, o, s⟩ := a
  obtain ⟨h2, _, h4⟩ := h
  intro j u hu
  have hne : 0 < ls.length := by
    cases ls with
    | nil => simp at hu
    | cons a r => simp
  obtain ⟨h1, hr⟩ := h4 (by omega)
  simp only at h1 hr
  subst h1
  rw [Addr.add_lit]
  have hlen : ∀ l ∈ ls, l.length = n := fun l hl => by
    obtain ⟨i, hi, rfl⟩ := List.getElem_of_mem hl
    exact hr.len (List.getElem?_eq_getElem hi)
  have hj := (List.getElem?_eq_some_iff.1 hu).1
  rw [flatten_length hlen] at hj
  have hn : 0 < n := by rcases Nat.eq_zero_or_pos n with h | h; · subst h; simp at hj
                        · exact h
  have hi : j / n < ls.length := Nat.div_lt_of_lt_mul (by rw [Nat.mul_comm]; exact hj)
  have hg := flatten_get (n := n) [] hlen (j / n) _ (List.getElem?_eq_getElem hi)
  have hv : (ls[j / n])[j % n]? = some u := by
    rw [← hg, List.append_nil, List.getElem?_take, if_pos (Nat.mod_lt _ hn), List.getElem?_drop]
    rw [Nat.mul_comm, Nat.div_add_mod]; exact hu
  have := hr.cell (List.getElem?_eq_getElem hi) hs hv
  rwa [Nat.add_assoc, Nat.mul_comm, Nat.div_add_mod] at this

/-- append to an own slice: the elements of whatever slice -/
theorem Eff.append {e n by_ tc sc : Nat} {p q : Option Addr} {c d len1 len2 : Nat} {H G : PH} {ls ms : List (List Value)} (ht : X.P.underlying T = some (.slice e)) (he : el X.P e n by_) (hx : ev σ x = some (.slice p len1 c)) (hy : ev σ y = some (.slice q len2 d))
    (hL : lk L tc = some H) (hG : lk L sc = some G) (hO : Own H p c e n ls) (hl1 : len1 = ls.length) (hS : Sl G q d n ms) (hl2 : len2 = ms.length) (h1 : ∀ l ∈ ms, ∀ v ∈ l, v.oneCell' = true) (hn : 0 < n) (hb : (ls.length + ms.length) * by_ ≤ 140737488355328) (hmax : ls.length + ms.length ≤ maxLen) :
    Eff X (.call { callee := .builtin .append, args := #[x, y], argTypes := #[T, T] }) ty σ L (fun v L' => ∃ H' p' c', v = .slice p' (ls ++ ms).length c' ∧ Own H' p' c' e n (ls ++ ms) ∧ L' = (tc, H') :: L) := fun a w ha hm o ho hty K Q hK => by
  subst hl1; subst hl2
  obtain ⟨i, z, hi, hz0, hz1, hz2, hz3⟩ := he
  have hms : ∀ l ∈ ms, l.length = n ∧ ∀ v ∈ l, v.oneCell' = true := fun l hl => by
    obtain ⟨j, hj, rfl⟩ := List.getElem_of_mem hl
    obtain ⟨a', _, hr⟩ := hS.row hj
    exact ⟨hr.len (List.getElem?_eq_getElem hj), h1 _ (List.getElem_mem hj)⟩
  have hls := hO.1
  have hall : ∀ l ∈ ls ++ ms, l.length = n ∧ ∀ v ∈ l, v.oneCell' = true := fun l hl => by
    rcases List.mem_append.1 hl with h | h
    · exact hls l h
    · exact hms l h
  have key : ∀ v w', w.grownBy w' (Value.ownBlock (.slice p ls.length c)) → w'.ownsRow 0 e n v (ls ++ ms).length (ls ++ ms).flatten → (∀ k, v.ownBlock = some k → (Value.slice p ls.length c).ownBlock = some k ∨ w.heap.size ≤ k) →
      ∃ H' p' c', v = .slice p' (ls ++ ms).length c' ∧ Own H' p' c' e n (ls ++ ms) ∧ Mem X.E ((tc, H') :: L) w' := by
    intro v w' hg hown hblk
    obtain ⟨H', p', c', rfl, hO', hs', hdom⟩ := Own.of_ownsRow hall hown rfl
    refine ⟨H', p', c', rfl, hO', hm.set tc (.inl hL) ⟨hg.os, hg.output, hg.size, fun b hb hD => ?_⟩ hs' fun b x hb => ?_⟩
    · refine hg.block b hb fun e => hD ?_
      cases p with
      | none => simp [Value.ownBlock] at e
      | some a' =>
        simp [Value.ownBlock] at e
        obtain ⟨_, _, _, _, _, sp, rfl, _⟩ := hO
        exact ⟨_, by rw [e]; exact single_self _ _⟩
    · rcases hblk b (hdom b x hb) with h | h
      · cases p with
        | none => simp [Value.ownBlock] at h
        | some a' =>
          simp [Value.ownBlock] at h
          obtain ⟨_, _, _, _, _, sp, rfl, _⟩ := hO
          exact .inl ⟨_, by rw [← h]; exact single_self _ _⟩
      · exact .inr h
  have hrow := hO.ownsRow (hm.sub _ _ hL)
  have hrun : ∃ v w', (Builtin.append_ #[T, T] ty #[.slice p ls.length c, .slice q ms.length d]).run X.P w = .ok v w' ∧ w.grownBy w' (Value.ownBlock (.slice p ls.length c)) ∧ w'.ownsRow 0 e n v (ls ++ ms).length (ls ++ ms).flatten ∧ (∀ k, v.ownBlock = some k → (Value.slice p ls.length c).ownBlock = some k ∨ w.heap.size ≤ k) := by
    cases q with
    | none =>
      obtain ⟨rfl, rfl⟩ := hS
      refine ⟨_, w, run_append_owned_none (P := X.P) (w := w) 0 T ty e i n ht hi _ _ _ hrow, ⟨rfl, rfl, rfl, Nat.le_refl _, fun _ _ _ => rfl⟩, by simpa using hrow, fun k hk => .inl hk⟩
    | some qa =>
      have hlo : ms.flatten.length = ms.length * n := flatten_length fun l hl => (hms l hl).1
      have hcells := sl_cells hS (hm.sub _ _ hG) rfl
      have hone : ∀ u ∈ ms.flatten, u.oneCell' = true := fun u hu => by
        obtain ⟨l, hl, hu'⟩ := List.mem_flatten.1 hu
        exact (hms l hl).2 u hu'
      cases p with
      | none =>
        obtain ⟨_, _, _, rfl, rfl, rfl⟩ := hO
        obtain ⟨v', w', hr, hown', hg, _⟩ := run_append_own (P := X.P) w w.heap.size T ty e i z n by_ ht hi hz0 hz1 hz3 hz2 hn (.slice none 0 0) 0 [] (World.ownsRow_nil w _ e n) qa ms.length d ms.flatten hlo hcells hone (by simpa using hmax) (by simpa using hb) (Nat.le_refl _)
        refine ⟨v', w', hr, hg, ?_, fun k hk => .inr (hown'.lt k hk).1⟩
        obtain ⟨g1, g2⟩ := hown'
        refine ⟨by simpa using g1, ?_⟩
        rcases g2 with g2 | ⟨g, cap, cur, hv, _, r⟩
        · exact .inl (by simpa using g2)
        · exact .inr ⟨g, cap, cur, by simpa using hv, Nat.zero_le _, by simpa using r⟩
      | some pa =>
        by_cases hroom : ls.length + ms.length ≤ c
        · obtain ⟨v', w', hr, hown', hg, _⟩ := run_append_own (P := X.P) w 0 T ty e i z n by_ ht hi hz0 hz1 hz3 hz2 hn _ _ _ hrow qa ms.length d ms.flatten hlo hcells hone hmax hb (Nat.zero_le _)
          obtain ⟨_, _, _, h5, h6, sp, rfl, h7⟩ := hO
          obtain ⟨b, o', s'⟩ := pa
          simp only at h5 h6
          subst h5; subst h6
          have hr2 := run_append_room (P := X.P) w T ty e i ht hi b ls.length c (ls.flatten ++ sp).toArray (hm.sub _ _ hL b _ (single_self _ _)) qa ms.length d ms.flatten (by rw [hz1]; exact hlo) hcells hone hroom (by
            rw [hz1, hlo, ← Nat.add_mul]; simp only [List.size_toArray, h7]; exact Nat.mul_le_mul_right _ hroom)
          rw [hr] at hr2
          injection hr2 with e1 e2
          subst e1
          refine ⟨_, w', hr, hg, ?_, fun k hk => .inl (by simpa [Value.ownBlock] using hk)⟩
          simpa using hown'
        · have holds := sl_cells hO.sl (hm.sub _ _ hL) (a := pa) rfl
          have hr := run_append_grow (P := X.P) w T ty e i z ht hi hz0 pa ls.length c ls.flatten (by rw [hz1]; exact flatten_length fun l hl => (hls l hl).1) holds qa ms.length d ms.flatten (by rw [hz1]; exact hlo) hcells (by omega) (by simp only [maxLen] at hmax; omega) (by rw [hz3]; exact growslice_fits (by omega) hb)
          obtain ⟨v', w', hr2, hown', hg, _⟩ := run_append_own (P := X.P) w 0 T ty e i z n by_ ht hi hz0 hz1 hz3 hz2 hn _ _ _ hrow qa ms.length d ms.flatten hlo hcells hone hmax hb (Nat.zero_le _)
          rw [hr2] at hr
          injection hr with e1 e2
          subst e1
          refine ⟨_, w', hr2, hg, by simpa using hown', fun k hk => .inr (by simp [Value.ownBlock] at hk; omega)⟩
  obtain ⟨v, w', hr, hg, hown, hblk⟩ := hrun
  obtain ⟨H', p', c', rfl, hO', hm'⟩ := key v w' hg hown hblk
  unfold Oper.wp
  have : (execOp a.eval o).run X.P w = .ok (.value (.slice p' (ls ++ ms).length c')) w' := by
    simp only [execOp, ho, resolve, Sem.run_bind, Sem.run_pure, Result.andThen_ok, invoke, builtin, eval2 hx hy a ha, hty]
    rw [hr]; rfl
  rw [this]
  exact hK _ _ w' ⟨H', p', c', rfl, hO', rfl⟩ hm'
end
end Go.Proofs.YtnakhfmnchmhjaaGreat.SL
/-
  Maps: a piece that is one map block; its content is a list of pairs, in the block's own order.
-/
namespace Go.Proofs.YtnakhfmnchmhjaaGreat.SL
set_option linter.unusedVariables false
set_option linter.unusedSectionVars false
open Go.RowKit

section
variable {κ : Type} [DecidableEq κ]
def mget : List (κ × Value) → κ → Option Value
  | [], _ => none
  | (a, v) :: r, k => if a = k then some v else mget r k
def midx : List (κ × Value) → κ → Nat
  | [], _ => 0
  | (a, _) :: r, k => if a = k then 0 else midx r k + 1
def mset : List (κ × Value) → κ → Value → List (κ × Value)
  | [], k, v => [(k, v)]
  | (a, b) :: r, k, v => if a = k then (k, v) :: r else (a, b) :: mset r k v
def mdel : List (κ × Value) → κ → List (κ × Value)
  | [], _ => []
  | (a, b) :: r, k => if a = k then r else (a, b) :: mdel r k

theorem mget_none_iff {m : List (κ × Value)} {k : κ} : mget m k = none ↔ ∀ p ∈ m, p.1 ≠ k := by
  induction m with
  | nil => simp [mget]
  | cons p r ih => obtain ⟨a, v⟩ := p; by_cases h : a = k <;> simp [mget, h, ih]
theorem mget_mset (m : List (κ × Value)) (k k' : κ) (v : Value) : mget (mset m k v) k' = if k = k' then some v else mget m k' := by
  induction m with
  | nil => simp [mset, mget]
  | cons p r ih =>
    obtain ⟨a, b⟩ := p
    by_cases h : a = k
    · subst h; by_cases h' : a = k' <;> simp [mset, mget, h']
    · by_cases h' : a = k'
      · subst h'; simp [mset, mget, h, Ne.symm h]
      · simp [mset, mget, h, h', ih]
theorem mget_mem {m : List (κ × Value)} {k : κ} {v : Value} (h : mget m k = some v) : (k, v) ∈ m := by
  induction m with
  | nil => simp [mget] at h
  | cons p r ih =>
    obtain ⟨a, b⟩ := p
    unfold mget at h
    split at h
    · rename_i e; subst e; cases h; simp
    · exact List.mem_cons_of_mem _ (ih h)
theorem mget_mdel {m : List (κ × Value)} (hn : (m.map (·.1)).Nodup) (k k' : κ) : mget (mdel m k) k' = if k = k' then none else mget m k' := by
  induction m with
  | nil => simp [mdel, mget]
  | cons p r ih =>
    obtain ⟨a, b⟩ := p
    simp only [List.map_cons, List.nodup_cons] at hn
    by_cases h : a = k
    · subst h
      by_cases h' : a = k'
      · subst h'
        simp only [mdel, if_true]
        exact mget_none_iff.2 fun p hp e => hn.1 (List.mem_map.2 ⟨p, hp, e⟩)
      · simp [mdel, mget, h']
    · by_cases h' : a = k'
      · subst h'; simp [mdel, mget, h, Ne.symm h]
      · simp [mdel, mget, h, h', ih hn.2]
theorem midx_lt {m : List (κ × Value)} {k : κ} {v : Value} (h : mget m k = some v) : midx m k < m.length := by
  induction m with
  | nil => simp [mget] at h
  | cons p r ih =>
    obtain ⟨a, b⟩ := p
    unfold mget at h
    unfold midx
    split
    · simp
    · rename_i hne; rw [if_neg hne] at h; have := ih h; simp; omega
theorem mset_some {m : List (κ × Value)} {k : κ} {u : Value} (h : mget m k = some u) (v : Value) : mset m k v = m.set (midx m k) (k, v) := by
  induction m with
  | nil => simp [mget] at h
  | cons p r ih =>
    obtain ⟨a, b⟩ := p
    unfold mget at h
    unfold mset midx
    split
    · rfl
    · rename_i hne; rw [if_neg hne] at h; simp [ih h]
theorem mset_none {m : List (κ × Value)} {k : κ} (h : mget m k = none) (v : Value) : mset m k v = m ++ [(k, v)] := by
  induction m with
  | nil => rfl
  | cons p r ih =>
    obtain ⟨a, b⟩ := p
    unfold mget at h
    unfold mset
    split at h
    · cases h
    · rename_i hne; rw [if_neg hne]; simp [ih h]
theorem mdel_some {m : List (κ × Value)} {k : κ} {u : Value} (h : mget m k = some u) : mdel m k = m.eraseIdx (midx m k) := by
  induction m with
  | nil => simp [mget] at h
  | cons p r ih =>
    obtain ⟨a, b⟩ := p
    unfold mget at h
    unfold mdel midx
    split
    · rfl
    · rename_i hne; rw [if_neg hne] at h; simp [ih h]
theorem mdel_none {m : List (κ × Value)} {k : κ} (h : mget m k = none) : mdel m k = m := by
  induction m with
  | nil => rfl
  | cons p r ih =>
    obtain ⟨a, b⟩ := p
    unfold mget at h
    unfold mdel
    split at h
    · cases h
    · rename_i hne; rw [if_neg hne, ih h]
theorem midx_get {m : List (κ × Value)} {k : κ} {u : Value} (h : mget m k = some u) : m[midx m k]? = some (k, u) := by
  induction m with
  | nil => simp [mget] at h
  | cons p r ih =>
    obtain ⟨a, b⟩ := p
    unfold mget at h
    unfold midx
    split
    · rename_i e; rw [if_pos e] at h; cases h; simp [e]
    · rename_i hne; rw [if_neg hne] at h; simpa using ih h
theorem nodup_mset {m : List (κ × Value)} (hn : (m.map (·.1)).Nodup) (k : κ) (v : Value) : ((mset m k v).map (·.1)).Nodup := by
  cases h : mget m k with
  | none =>
    rw [mset_none h, List.map_append, List.nodup_append]
    refine ⟨hn, by simp, ?_⟩
    intro a ha b hb e
    simp at hb; subst hb; subst e
    obtain ⟨p, hp, rfl⟩ := List.mem_map.1 ha
    exact mget_none_iff.1 h p hp rfl
  | some u =>
    have e : (mset m k v).map (·.1) = m.map (·.1) := by
      rw [mset_some h, List.map_set]
      have := midx_get h
      apply List.ext_getElem?
      intro i
      rw [List.getElem?_set]
      split
      · rename_i hi; subst hi; split
        · simp [this]
        · rename_i hlt; simp at hlt; simp [List.getElem?_eq_none hlt]
      · rfl
    rw [e]; exact hn
theorem nodup_mdel {m : List (κ × Value)} (hn : (m.map (·.1)).Nodup) (k : κ) : ((mdel m k).map (·.1)).Nodup := by
  cases h : mget m k with
  | none => rw [mdel_none h]; exact hn
  | some u => rw [mdel_some h]; exact hn.sublist ((List.eraseIdx_sublist _ _).map _)

/-- the block's entries, in their order, are the pairs of m -/
structure MapP (enc : κ → Value) (es : Array MapEntry) (clock : Nat) (m : List (κ × Value)) : Prop where
  eq : es.toList.map (fun e => (e.key, e.val)) = m.map (fun p => (enc p.1, p.2))
  born : (es.toList.map (·.born)).Nodup
  clock : ∀ e ∈ es.toList, e.born < clock
  nodup : (m.map (·.1)).Nodup

theorem MapP.empty (enc : κ → Value) : MapP enc #[] 0 [] := ⟨rfl, by simp, by simp, by simp⟩

theorem MapP.length {enc : κ → Value} {es : Array MapEntry} {clock : Nat} {m : List (κ × Value)} (h : MapP enc es clock m) : es.size = m.length := by
  have := congrArg List.length h.eq; simpa using this

/-- what is asked of a type of keys -/
structure KeyOK (P : Program) (kt : TypeId) (enc : κ → Value) : Prop where
  find : ∀ (k : κ) (es : List MapEntry) (m : List (κ × Value)) (w : World), es.map (fun e => (e.key, e.val)) = m.map (fun p => (enc p.1, p.2)) → (Instr.findKey kt (enc k) es).run P w = .ok ((mget m k).map fun v => (midx m k, v)) w
  check : ∀ (b : Bool) (k : κ) (w : World), (Instr.checkKey b 10000 kt (enc k)).run P w = .ok () w
  same : ∀ k, Instr.sameBits 10000 (enc k) (enc k) = true

theorem findNow_run {kind : TypeDesc} {enc : κ → Value} (hs : ∀ a b, Instr.sameNow kind (enc a) (enc b) = some (decide (b = a))) (k : κ) : ∀ (es : List MapEntry) (m : List (κ × Value)) (i : Nat), es.map (fun e => (e.key, e.val)) = m.map (fun p => (enc p.1, p.2)) →
    Instr.findNow kind (enc k) es i = some ((mget m k).map fun v => (i + midx m k, v))
  | [], [], i, _ => rfl
  | [], _ :: _, _, h => by simp at h
  | _ :: _, [], _, h => by simp at h
  | e :: es, (a, v) :: m, i, h => by
    simp only [List.map_cons, List.cons.injEq, Prod.mk.injEq] at h
    obtain ⟨⟨h1, h2⟩, h3⟩ := h
    unfold Instr.findNow
    rw [h1, hs]
    by_cases hk : a = k
    · subst hk; simp [mget, midx, h2]
    · have := findNow_run hs k es m (i + 1) h3
      simp only [hk, decide_false, this]
      simp only [mget, midx, if_neg hk, Option.some.injEq]
      congr 1
      funext x
      congr 1
      omega

theorem KeyOK.ofNow {P : Program} {kt : TypeId} {enc : κ → Value} {kind : TypeDesc} (hu : P.underlying kt = some kind) (hs : ∀ a b, Instr.sameNow kind (enc a) (enc b) = some (decide (b = a)))
    (hc : ∀ (b : Bool) (k : κ) (w : World), (Instr.checkKey b 10000 kt (enc k)).run P w = .ok () w) (hb : ∀ k, Instr.sameBits 10000 (enc k) (enc k) = true) : KeyOK P kt enc := by
  refine ⟨fun k es m w h => ?_, hc, hb⟩
  have := findNow_run hs k es m 0 h
  simp only [Instr.findKey, Sem.run_bind, run_underlying hu, Result.andThen_ok, this, Sem.run_pure]
  simp
end

theorem keyInt {P : Program} {kt : TypeId} {q : IntKind} (hu : P.underlying kt = some (.int q)) : KeyOK P kt (fun a : Int => Value.int q a) :=
  .ofNow hu (fun a b => by simp [Instr.sameNow, Bool.beq_eq_decide_eq, eq_comm]) (fun b k w => by rw [show (10000 : Nat) = 9999 + 1 from rfl, Instr.checkKey, Sem.run_bind, run_underlying hu]; rfl) (fun k => by simp [Instr.sameBits])
theorem keyString {P : Program} {kt : TypeId} (hu : P.underlying kt = some .string) : KeyOK P kt (fun s : ByteArray => Value.string s) :=
  .ofNow hu (fun a b => by
    simp only [Instr.sameNow, Option.some.injEq]
    rw [Bool.eq_iff_iff, MapKept.bytes_beq, decide_eq_true_eq]; exact eq_comm) (fun b k w => by rw [show (10000 : Nat) = 9999 + 1 from rfl, Instr.checkKey, Sem.run_bind, run_underlying hu]; rfl) (fun k => by unfold Instr.sameBits; exact (MapKept.bytes_beq k k).2 rfl)

section
variable {κ : Type} [DecidableEq κ] {X : Cx} {σ : Loc} {L : Sh} {ty T : TypeId} {x y z : Operand}

def zv (P : Program) (T : TypeId) (v : Value) : Prop := (P.info? T).bind (·.zero) = some v
theorem zv.run {P : Program} {v : Value} (h : zv P T v) (w : World) : (zeroValue T).run P w = .ok v w := by
  unfold zv at h
  cases hi : P.info? T with
  | none => rw [hi] at h; cases h
  | some i => rw [hi] at h; simp at h; simp [zeroValue, typeInfo, hi, h]

theorem run_getObj_map {P : Program} {w : World} {b : Nat} {es : Array MapEntry} {clock : Nat} (h : w.heap[b]? = some (.map es clock)) : (getObj b).run P w = .ok (.map es clock) w := by
  simp [getObj, Sem.run, h]
theorem run_setObj_map {P : Program} {w : World} {b : Nat} {es : Array MapEntry} {clock : Nat} (h : w.heap[b]? = some (.map es clock)) (o : Obj) : (setObj b o).run P w = .ok () { w with heap := w.heap.setIfInBounds b o } := by
  simp [setObj, Sem.run, h]

theorem Mem.setMap {E : Env} {L : Sh} {w : World} (hm : Mem E L w) {c b : Nat} {es : Array MapEntry} {clock : Nat} (hL : lk L c = some (single b (.map es clock))) (o : Obj) : Mem E ((c, single b o) :: L) { w with heap := w.heap.setIfInBounds b o } := by
  have hb := hm.sub c _ hL b _ (single_self _ _)
  refine hm.set c (.inl hL) ⟨rfl, rfl, by simp, fun k hk hD => ?_⟩ (fun k x hk => ?_) (fun k x hk => ?_)
  · have : b ≠ k := fun e => hD ⟨_, by rw [← e]; exact single_self _ _⟩
    simp [Array.getElem?_setIfInBounds_ne this]
  · obtain ⟨rfl, rfl⟩ := single_inv hk
    have := (Array.getElem?_eq_some_iff.1 hb).1
    simp [this]
  · obtain ⟨rfl, rfl⟩ := single_inv hk
    exact .inl ⟨_, single_self _ _⟩

/-- 'm[k]' -/
theorem Yld.lookup {kt e c b : Nat} {enc : κ → Value} {k : κ} {es : Array MapEntry} {clock : Nat} {m : List (κ × Value)} {zr : Value} (ht : X.P.underlying T = some (.map kt e)) (K : KeyOK X.P kt enc) (hz : zv X.P e zr) (hx : ev σ x = some (.map (some b))) (hy : ev σ y = some (enc k))
    (hL : lk L c = some (single b (.map es clock))) (hM : MapP enc es clock m) : Yld X (.lookup T x y false) ty σ L ((mget m k).getD zr) :=
  Yld.of (fun ρ => Instr.lookup T (ρ x) (ρ y) false) (fun ρ o ho => by simp [execOp, ho]) fun a w ha hm => by
    rw [ha.ev hx, ha.ev hy]
    have hb := hm.sub c _ hL b _ (single_self _ _)
    simp only [Instr.lookup, Sem.run_bind, run_underlying ht, Result.andThen_ok, run_getObj_map hb, Sem.run_pure, K.check, K.find k es.toList m w hM.eq]
    cases h : mget m k with
    | none => simp [hz.run w]
    | some v => simp
/-- 'v, ok := m[k]' -/
theorem Yld.lookupOk {kt e c b : Nat} {enc : κ → Value} {k : κ} {es : Array MapEntry} {clock : Nat} {m : List (κ × Value)} {zr : Value} (ht : X.P.underlying T = some (.map kt e)) (K : KeyOK X.P kt enc) (hz : zv X.P e zr) (hx : ev σ x = some (.map (some b))) (hy : ev σ y = some (enc k))
    (hL : lk L c = some (single b (.map es clock))) (hM : MapP enc es clock m) : Yld X (.lookup T x y true) ty σ L (.tuple [(mget m k).getD zr, .bool (mget m k).isSome].toArray) :=
  Yld.of (fun ρ => Instr.lookup T (ρ x) (ρ y) true) (fun ρ o ho => by simp [execOp, ho]) fun a w ha hm => by
    rw [ha.ev hx, ha.ev hy]
    have hb := hm.sub c _ hL b _ (single_self _ _)
    simp only [Instr.lookup, Sem.run_bind, run_underlying ht, Result.andThen_ok, run_getObj_map hb, Sem.run_pure, K.check, K.find k es.toList m w hM.eq]
    cases h : mget m k with
    | none => simp [hz.run w]
    | some v => simp
/-- .. of a nil map -/
theorem Yld.lookupNil {kt e : Nat} {enc : κ → Value} {k : κ} {zr : Value} (ht : X.P.underlying T = some (.map kt e)) (K : KeyOK X.P kt enc) (hz : zv X.P e zr) (hx : ev σ x = some (.map none)) (hy : ev σ y = some (enc k)) : Yld X (.lookup T x y false) ty σ L zr :=
  Yld.of (fun ρ => Instr.lookup T (ρ x) (ρ y) false) (fun ρ o ho => by simp [execOp, ho]) fun a w ha hm => by
    rw [ha.ev hx, ha.ev hy]
    have := K.find k [] [] w rfl
    simp only [Instr.lookup, Sem.run_bind, run_underlying ht, Result.andThen_ok, Sem.run_pure, K.check, this]
    simp [mget, hz.run w]

theorem MapP.put {enc : κ → Value} {es : Array MapEntry} {clock : Nat} {m : List (κ × Value)} (h : MapP enc es clock m) (k : κ) (v : Value) :
    (∀ u, mget m k = some u → MapP enc (es.modify (midx m k) fun e => { e with key := enc k, val := v }) clock (mset m k v)) ∧
    (mget m k = none → MapP enc (es.push { key := enc k, val := v, born := clock }) (clock + 1) (mset m k v)) := by
  refine ⟨fun u hu => ?_, fun hn => ?_⟩
  · refine ⟨?_, ?_, ?_, nodup_mset h.nodup k v⟩
    · rw [mset_some hu]
      apply List.ext_getElem?
      intro i
      have hi := congrArg (fun l => l[i]?) h.eq
      simp only [List.getElem?_map, Array.getElem?_toList] at hi
      simp only [List.getElem?_map, Array.getElem?_toList, Array.getElem?_modify, List.getElem?_set]
      have hlen := h.length
      split
      · rename_i e
        subst e
        have hlt := midx_lt hu
        rw [if_pos hlt]
        rw [Array.getElem?_eq_getElem (by omega)]
        simp
      · exact hi
    · have e : (es.modify (midx m k) fun e => { e with key := enc k, val := v }).toList.map (·.born) = es.toList.map (·.born) := by
        apply List.ext_getElem?
        intro i
        simp only [List.getElem?_map, Array.getElem?_toList, Array.getElem?_modify]
        split <;> cases es[i]? <;> simp
      rw [e]; exact h.born
    · intro e he
      rw [Array.mem_toList_iff] at he
      obtain ⟨i, hi, rfl⟩ := Array.getElem_of_mem he
      have hi' : i < es.size := by simpa using hi
      have hb := h.clock es[i] (by simp)
      rw [Array.getElem_modify]
      split <;> exact hb
  · refine ⟨?_, ?_, ?_, nodup_mset h.nodup k v⟩
    · rw [mset_none hn]; simp [h.eq]
    · simp only [Array.toList_push, List.map_append, List.map_cons, List.map_nil]
      rw [List.nodup_append]
      refine ⟨h.born, by simp, ?_⟩
      intro a ha b hb e
      simp at hb; subst hb; subst e
      obtain ⟨x, hx, he⟩ := List.mem_map.1 ha
      have := h.clock x hx
      omega
    · intro e he
      simp at he
      rcases he with he | rfl
      · have := h.clock e (by simpa using he); omega
      · simp

/-- 'm[k] = v' -/
theorem Eff.mapUpdate {kt e c b : Nat} {enc : κ → Value} {k : κ} {es : Array MapEntry} {clock : Nat} {m : List (κ × Value)} {v : Value} (ht : X.P.underlying T = some (.map kt e)) (K : KeyOK X.P kt enc) (hx : ev σ x = some (.map (some b))) (hy : ev σ y = some (enc k)) (hz : ev σ z = some v)
    (hL : lk L c = some (single b (.map es clock))) (hM : MapP enc es clock m) : Eff X (.mapUpdate T x y z) ty σ L (fun _ L' => ∃ es' clock', MapP enc es' clock' (mset m k v) ∧ L' = (c, single b (.map es' clock')) :: L) :=
  Eff.unit (fun ρ => Instr.mapUpdate T (ρ x) (ρ y) (ρ z)) (fun ρ o ho => by simp [execOp, ho]) fun a w ha hm => by
    rw [ha.ev hx, ha.ev hy, ha.ev hz]
    have hb := hm.sub c _ hL b _ (single_self _ _)
    obtain ⟨h1, h2⟩ := hM.put k v
    cases h : mget m k with
    | none =>
      refine ⟨_, _, ?_, ⟨_, _, h2 h, rfl⟩, hm.setMap hL _⟩
      simp only [Instr.mapUpdate, Sem.run_bind, run_underlying ht, Result.andThen_ok, run_getObj_map hb, K.check, K.find k es.toList m w hM.eq, h, Option.map_none, run_setObj_map hb]
    | some u =>
      refine ⟨_, _, ?_, ⟨_, _, h1 u h, rfl⟩, hm.setMap hL _⟩
      have hi := midx_get h
      have hkey : ((es[midx m k]?).map (·.key)).getD (enc k) = enc k := by
        have := congrArg (fun l => l[midx m k]?) hM.eq
        simp only [List.getElem?_map, Array.getElem?_toList, hi, Option.map_some] at this
        cases he : es[midx m k]? with
        | none => simp
        | some x => rw [he] at this; simp at this; simp [this.1]
      simp only [Instr.mapUpdate, Sem.run_bind, run_underlying ht, Result.andThen_ok, run_getObj_map hb, K.check, K.find k es.toList m w hM.eq, h, Option.map_some, hkey, Instr.keyThatStays, K.same, if_true, Sem.run_pure, run_setObj_map hb]

/-- an entry of a map's literal -/
theorem Eff.insert {kt e c b : Nat} {enc : κ → Value} {k : κ} {es : Array MapEntry} {clock : Nat} {m : List (κ × Value)} {v : Value} (ht : X.P.underlying T = some (.map kt e)) (K : KeyOK X.P kt enc) (hx : ev σ x = some (.map (some b))) (hy : ev σ y = some (enc k)) (hz : ev σ z = some v)
    (hL : lk L c = some (single b (.map es clock))) (hM : MapP enc es clock m) : Eff X (.insert T x y z) ty σ L (fun _ L' => ∃ es' clock', MapP enc es' clock' (mset m k v) ∧ L' = (c, single b (.map es' clock')) :: L) :=
  Eff.unit (fun ρ => Instr.mapUpdate T (ρ x) (ρ y) (ρ z)) (fun ρ o ho => by simp [execOp, ho]) fun a w ha hm => by
    rw [ha.ev hx, ha.ev hy, ha.ev hz]
    have hb := hm.sub c _ hL b _ (single_self _ _)
    obtain ⟨h1, h2⟩ := hM.put k v
    cases h : mget m k with
    | none =>
      refine ⟨_, _, ?_, ⟨_, _, h2 h, rfl⟩, hm.setMap hL _⟩
      simp only [Instr.mapUpdate, Sem.run_bind, run_underlying ht, Result.andThen_ok, run_getObj_map hb, K.check, K.find k es.toList m w hM.eq, h, Option.map_none, run_setObj_map hb]
    | some u =>
      refine ⟨_, _, ?_, ⟨_, _, h1 u h, rfl⟩, hm.setMap hL _⟩
      have hi := midx_get h
      have hkey : ((es[midx m k]?).map (·.key)).getD (enc k) = enc k := by
        have := congrArg (fun l => l[midx m k]?) hM.eq
        simp only [List.getElem?_map, Array.getElem?_toList, hi, Option.map_some] at this
        cases he : es[midx m k]? with
        | none => simp
        | some x => rw [he] at this; simp at this; simp [this.1]
      simp only [Instr.mapUpdate, Sem.run_bind, run_underlying ht, Result.andThen_ok, run_getObj_map hb, K.check, K.find k es.toList m w hM.eq, h, Option.map_some, hkey, Instr.keyThatStays, K.same, if_true, Sem.run_pure, run_setObj_map hb]

theorem MapP.del {enc : κ → Value} {es : Array MapEntry} {clock : Nat} {m : List (κ × Value)} (h : MapP enc es clock m) (k : κ) {u : Value} (hu : mget m k = some u) : MapP enc (es.eraseIdxIfInBounds (midx m k)) clock (mdel m k) := by
  have hlt : midx m k < es.size := by rw [h.length]; exact midx_lt hu
  have e : (es.eraseIdxIfInBounds (midx m k)).toList = es.toList.eraseIdx (midx m k) := by
    simp [Array.eraseIdxIfInBounds, hlt]
  refine ⟨?_, ?_, ?_, nodup_mdel h.nodup k⟩
  · rw [e, mdel_some hu, ChangeMaps.map_eraseIdx, ChangeMaps.map_eraseIdx, h.eq]
  · rw [e]; exact h.born.sublist ((List.eraseIdx_sublist _ _).map _)
  · intro x hx
    rw [e] at hx
    exact h.clock x ((List.eraseIdx_sublist _ _).subset hx)

/-- 'delete(m, k)' -/
theorem Eff.delete {kt e c b : Nat} {enc : κ → Value} {k : κ} {es : Array MapEntry} {clock : Nat} {m : List (κ × Value)} {t2 : TypeId} (ht : X.P.underlying T = some (.map kt e)) (K : KeyOK X.P kt enc) (hx : ev σ x = some (.map (some b))) (hy : ev σ y = some (enc k))
    (hL : lk L c = some (single b (.map es clock))) (hM : MapP enc es clock m) : Eff X (.call { callee := .builtin .delete, args := #[x, y], argTypes := #[T, t2] }) ty σ L (fun v L' => v = .tuple #[] ∧ ∃ es' clock', MapP enc es' clock' (mdel m k) ∧ L' = (c, single b (.map es' clock')) :: L) := fun a w ha hm o ho hty Kk Q hK => by
  have hb := hm.sub c _ hL b _ (single_self _ _)
  have hrun : ∃ w' es', (Builtin.delete_ #[T, t2] ty #[.map (some b), enc k]).run X.P w = .ok (.tuple #[]) w' ∧ MapP enc es' clock (mdel m k) ∧ Mem X.E ((c, single b (.map es' clock)) :: L) w' := by
    cases h : mget m k with
    | none =>
      refine ⟨_, es, ?_, by rw [mdel_none h]; exact hM, hm.setMap hL _⟩
      simp only [Builtin.delete_, List.getElem?_toArray, List.getElem?_cons_zero, List.getElem?_cons_succ, Sem.run_bind, run_underlying ht, Result.andThen_ok, run_getObj_map hb, K.check, K.find k es.toList m w hM.eq, h, Option.map_none, run_setObj_map hb, Sem.run_pure]
    | some u =>
      refine ⟨_, _, ?_, hM.del k h, hm.setMap hL _⟩
      simp only [Builtin.delete_, List.getElem?_toArray, List.getElem?_cons_zero, List.getElem?_cons_succ, Sem.run_bind, run_underlying ht, Result.andThen_ok, run_getObj_map hb, K.check, K.find k es.toList m w hM.eq, h, Option.map_some, run_setObj_map hb, Sem.run_pure]
  obtain ⟨w', es', hr, hM', hm'⟩ := hrun
  unfold Oper.wp
  have : (execOp a.eval o).run X.P w = .ok (.value (.tuple #[])) w' := by
    simp only [execOp, ho, resolve, Sem.run_bind, Sem.run_pure, Result.andThen_ok, invoke, builtin, eval2 hx hy a ha, hty]
    rw [hr]; rfl
  rw [this]
  exact hK _ _ w' ⟨rfl, es', clock, hM', rfl⟩ hm'

theorem Yld.lenM {kt e c b : Nat} {enc : κ → Value} {es : Array MapEntry} {clock : Nat} {m : List (κ × Value)} (ht : X.P.underlying T = some (.map kt e)) (hx : ev σ x = some (.map (some b))) (hL : lk L c = some (single b (.map es clock))) (hM : MapP enc es clock m) :
    Yld X (.call { callee := .builtin .len, args := #[x], argTypes := #[T] }) ty σ L (.int .i64 m.length) :=
  Yld.builtin (Builtin.len_ #[T] ty) (fun _ _ _ => rfl) (eval1 hx) fun w hm => by
    have hb := hm.sub c _ hL b _ (single_self _ _)
    simp [Builtin.len_, run_underlying ht, goInt, run_getObj_map hb, hM.length]
end
end Go.Proofs.YtnakhfmnchmhjaaGreat.SL
/-
  Parts of a piece: one block of a piece handed over by itself; slices that own one block of a piece.
-/
namespace Go.Proofs.YtnakhfmnchmhjaaGreat.SL
set_option linter.unusedVariables false
set_option linter.unusedSectionVars false
open Go.RowKit

/-- the memory read in another way -/
def Imp (L L' : Sh) : Prop := ∀ E w, Mem E L w → Mem E L' w
def hdel (H : PH) (b : Nat) : PH := fun x => if x = b then none else H x
def hjoin (G H : PH) : PH := fun x => match G x with | some o => some o | none => H x
def jput (G H : PH) (D : Nat → Prop) [DecidablePred D] : PH := fun x => if D x then H x else G x

section
variable {X : Cx} {Q : Exit → Act → World → Prop} {σ : Loc} {L L' : Sh} {ops : Array Oper} {l : List Oper}
theorem W.imp {c : Code} (h : Imp L L') (hw : W X c Q σ L') : W X c Q σ L := fun a w ha hm => hw a w ha (h _ _ hm)
theorem RL.imp (h : Imp L L') (hw : RL X ops Q l σ L') : RL X ops Q l σ L := fun a w ha hm => hw a w ha (h _ _ hm)
theorem N.imp {e : Exit} (h : Imp L L') (hw : N X Q e σ L') : N X Q e σ L := fun a w ha hm => hw a w ha (h _ _ hm)
theorem DL.imp {Ls : Sh} {p : Plan} (h : Imp L L') (hw : DL X ops Q Ls p σ L') : DL X ops Q Ls p σ L := fun a w ha hm hs => hw a w ha (h _ _ hm) hs
end

theorem hdel_some {H : PH} {b x : Nat} {o : Obj} (h : hdel H b x = some o) : x ≠ b ∧ H x = some o := by
  unfold hdel at h; split at h
  · cases h
  · rename_i hne; exact ⟨hne, h⟩

/-- one block of piece c becomes a piece of its own, c' -/
theorem Imp.carve {L : Sh} {c c' b : Nat} {H : PH} {o : Obj} (hL : lk L c = some H) (hb : H b = some o) (hne : Nat.beq c' c = false) : Imp L ((c', single b o) :: (c, hdel H b) :: L) := fun E w hm => by
  have hcc : c' ≠ c := fun e => by subst e; simp at hne
  have look : ∀ i G, lk ((c', single b o) :: (c, hdel H b) :: L) i = some G → (i = c' ∧ G = single b o) ∨ (i = c ∧ G = hdel H b) ∨ (i ≠ c ∧ i ≠ c' ∧ lk L i = some G) := by
    intro i G h
    rw [lk_cons] at h
    split at h
    · rename_i e; cases h; exact .inl ⟨e.symm, rfl⟩
    · rename_i e; rw [lk_cons] at h
      split at h
      · rename_i e'; cases h; exact .inr (.inl ⟨e'.symm, rfl⟩)
      · rename_i e'; exact .inr (.inr ⟨Ne.symm e', Ne.symm e, h⟩)
  refine ⟨hm.os, hm.out, fun i G h => ?_, fun i j G K hij hG hK => ?_⟩
  · rcases look i G h with ⟨_, rfl⟩ | ⟨_, rfl⟩ | ⟨_, _, h⟩
    · intro x y hx; obtain ⟨rfl, rfl⟩ := single_inv hx; exact hm.sub c H hL _ _ hb
    · intro x y hx; exact hm.sub c H hL _ _ (hdel_some hx).2
    · exact hm.sub i G h
  · intro x y z hx hz
    rcases look i G hG with ⟨hi, rfl⟩ | ⟨hi, rfl⟩ | ⟨hi, hi', h⟩ <;> rcases look j K hK with ⟨hj, rfl⟩ | ⟨hj, rfl⟩ | ⟨hj, hj', h'⟩
    · omega
    · obtain ⟨rfl, rfl⟩ := single_inv hx; exact (hdel_some hz).1 rfl
    · obtain ⟨rfl, rfl⟩ := single_inv hx; exact hm.dis c j H K (Ne.symm hj) hL h' _ _ _ hb hz
    · obtain ⟨rfl, rfl⟩ := single_inv hz; exact (hdel_some hx).1 rfl
    · omega
    · exact hm.dis c j H K (Ne.symm hj) hL h' _ _ _ (hdel_some hx).2 hz
    · obtain ⟨rfl, rfl⟩ := single_inv hz; exact hm.dis i c G H hi h hL _ _ _ hx hb
    · exact hm.dis i c G H hi h hL _ _ _ hx (hdel_some hz).2
    · exact hm.dis i j G K hij h h' _ _ _ hx hz

/-- two pieces become one, c; c' is empty then -/
theorem Imp.merge {L : Sh} {c c' : Nat} {G K : PH} (hG : lk L c = some G) (hK : lk L c' = some K) (hne : Nat.beq c' c = false) : Imp L ((c, hjoin G K) :: (c', emp) :: L) := fun E w hm => by
  have hcc : c' ≠ c := fun e => by subst e; simp at hne
  have look : ∀ i J, lk ((c, hjoin G K) :: (c', emp) :: L) i = some J → (i = c ∧ J = hjoin G K) ∨ (i = c' ∧ J = emp) ∨ (i ≠ c ∧ i ≠ c' ∧ lk L i = some J) := by
    intro i J h
    rw [lk_cons] at h
    split at h
    · rename_i e; cases h; exact .inl ⟨e.symm, rfl⟩
    · rename_i e; rw [lk_cons] at h
      split at h
      · rename_i e'; cases h; exact .inr (.inl ⟨e'.symm, rfl⟩)
      · rename_i e'; exact .inr (.inr ⟨Ne.symm e, Ne.symm e', h⟩)
  have jn : ∀ x y, hjoin G K x = some y → G x = some y ∨ K x = some y := by
    intro x y h; unfold hjoin at h
    cases hg : G x with
    | some o => rw [hg] at h; exact .inl h
    | none => rw [hg] at h; exact .inr h
  refine ⟨hm.os, hm.out, fun i J h => ?_, fun i j J M hij hJ hM => ?_⟩
  · rcases look i J h with ⟨_, rfl⟩ | ⟨_, rfl⟩ | ⟨_, _, h⟩
    · intro x y hx
      rcases jn x y hx with h | h
      · exact hm.sub c G hG _ _ h
      · exact hm.sub c' K hK _ _ h
    · intro x y hx; cases hx
    · exact hm.sub i J h
  · intro x y z hx hz
    rcases look i J hJ with ⟨hi, rfl⟩ | ⟨hi, rfl⟩ | ⟨hi, hi', h⟩ <;> rcases look j M hM with ⟨hj, rfl⟩ | ⟨hj, rfl⟩ | ⟨hj, hj', h'⟩
    · omega
    · cases hz
    · rcases jn x y hx with g | g
      · exact hm.dis c j G M (Ne.symm hj) hG h' _ _ _ g hz
      · exact hm.dis c' j K M (Ne.symm hj') hK h' _ _ _ g hz
    · cases hx
    · cases hx
    · cases hx
    · rcases jn x z hz with g | g
      · exact hm.dis i c J G hi h hG _ _ _ hx g
      · exact hm.dis i c' J K hi' h hK _ _ _ hx g
    · cases hz
    · exact hm.dis i j J M hij h h' _ _ _ hx hz

theorem hjoin_single {H : PH} {b : Nat} {o' : Obj} : hjoin (hdel H b) (single b o') = pset H b o' := by
  funext x
  unfold hjoin hdel single pset
  by_cases h : x = b
  · simp [h]
  · simp only [h, if_false]; cases H x <;> rfl

theorem hjoin_empty {G : PH} : hjoin G emp = G := by
  funext x; unfold hjoin; cases G x <;> rfl

section
variable {X : Cx} {σ : Loc} {L : Sh} {ty T : TypeId} {x y z : Operand}

theorem Mem.forget {E : Env} {L : Sh} {w : World} {c c' : Nat} {H G : PH} (h : Mem E ((c, H) :: (c', G) :: L) w) : Mem E ((c, H) :: (c', G) :: L) w := h

/-- a call that is handed one block of a piece -/
theorem Eff.call1 {f : FuncId} {xs : List Operand} {ts : Array TypeId} {vs : List Value} {R0 : Value → Obj → Prop} {b c : Nat} {H : PH} {o : Obj} (c' : Nat) (hent : Ent X.P f) (hargs : Evs σ xs vs) (hf : Ct X.P f vs [single b o] (fun v Hs => ∃ o', R0 v o' ∧ Hs = [single b o']))
    (hL : lk L c = some H) (hb : H b = some o) (hne : Nat.beq c' c = false) :
    Eff X (.call { callee := .value (.func f), args := xs.toArray, argTypes := ts }) ty σ L (fun v L' => ∃ o', R0 v o' ∧ L' = (c, pset H b o') :: (c', emp) :: L) := fun a w ha hm oo ho ht K Q hK => by
  have h1 := Imp.carve hL hb hne X.E w hm
  have hcall := Eff.call (X := X) (σ := σ) (L := (c', single b o) :: (c, hdel H b) :: L) (ty := ty) (ts := ts) hent [c'] [c'] hargs hf (by simp [lks, lk_cons]) rfl rfl (by simp) (by rintro _ _ ⟨_, _, rfl⟩; rfl)
  refine hcall a w ha h1 oo ho ht K Q ?_
  rintro v L' w' ⟨Hs', ⟨o', hr, rfl⟩, rfl⟩ hm'
  have hcc : c' ≠ c := fun e => by subst e; simp at hne
  have e1 : lk (relab [c'] [single b o'] ((c', single b o) :: (c, hdel H b) :: L)) c = some (hdel H b) := by simp [relab, lk_cons, hcc]
  have e2 : lk (relab [c'] [single b o'] ((c', single b o) :: (c, hdel H b) :: L)) c' = some (single b o') := by simp [relab, lk_cons]
  have h2 := Imp.merge e1 e2 hne X.E w' hm'
  rw [hjoin_single] at h2
  refine hK v _ w' ⟨o', hr, rfl⟩ (h2.weak fun i J hi => ?_)
  rw [lk_cons] at hi ⊢
  split at hi
  · rename_i e; rw [if_pos e]; exact hi
  · rename_i e
    rw [if_neg e]
    rw [lk_cons] at hi ⊢
    split at hi
    · rename_i e'; rw [if_pos e']; exact hi
    · rename_i e'
      rw [if_neg e']
      simp only [relab]
      rw [lk_cons, if_neg e', lk_cons, if_neg e', lk_cons, if_neg e]
      exact hi

/-! ### slices that own one block of a piece -/
def OwnB (H : PH) (p : Option Addr) (c e n : Nat) (ls : List (List Value)) : Prop :=
  (∀ l ∈ ls, l.length = n ∧ ∀ v ∈ l, v.oneCell' = true) ∧ ls.length ≤ c ∧ c ≤ maxLen ∧
  match p with
  | none => ls = [] ∧ c = 0
  | some a => a.off = 0 ∧ a.spot = none ∧ ∃ sp, H a.block = some (.cells (ls.flatten ++ sp).toArray e (0, 0)) ∧ (ls.flatten ++ sp).length = c * n

def blk (p : Option Addr) : Option Nat := p.map (·.block)

theorem OwnB.sl {H : PH} {p : Option Addr} {c e n : Nat} {ls : List (List Value)} (h : OwnB H p c e n ls) : Sl H p c n ls := by
  obtain ⟨h1, h2, h3, h4⟩ := h
  unfold Sl
  cases p with
  | none => exact ⟨h4.1, h4.2⟩
  | some a =>
    obtain ⟨h5, h6, sp, hb, h7⟩ := h4
    refine ⟨h2, h3, fun _ => ⟨h6, _, e, (0, 0), hb, fun i l hl => ?_⟩⟩
    exact ⟨(h1 l (List.mem_of_getElem? hl)).1, by rw [h5, Nat.zero_add]; exact flatten_get sp (fun l hl => (h1 l hl).1) i l hl⟩

theorem OwnB.nil (H : PH) (e n : Nat) : OwnB H none 0 e n [] := ⟨by simp, by simp, by simp [maxLen], rfl, rfl⟩

theorem OwnB.mono {H H' : PH} {p : Option Addr} {c e n : Nat} {ls : List (List Value)} (h : OwnB H p c e n ls) (hs : ∀ b o, blk p = some b → H b = some o → H' b = some o) : OwnB H' p c e n ls := by
  obtain ⟨h1, h2, h3, h4⟩ := h
  refine ⟨h1, h2, h3, ?_⟩
  cases p with
  | none => exact h4
  | some a => obtain ⟨h5, h6, sp, hb, h7⟩ := h4; exact ⟨h5, h6, sp, hs _ _ rfl hb, h7⟩

theorem Own.b {H : PH} {p : Option Addr} {c e n : Nat} {ls : List (List Value)} (h : Own H p c e n ls) : OwnB H p c e n ls := by
  obtain ⟨h1, h2, h3, h4⟩ := h
  refine ⟨h1, h2, h3, ?_⟩
  cases p with
  | none => exact ⟨h4.1, h4.2.1⟩
  | some a => obtain ⟨h5, h6, sp, rfl, h7⟩ := h4; exact ⟨h5, h6, sp, single_self _ _, h7⟩

/-- append to a slice that owns one block of piece tc -/
theorem Eff.appendB {e n by_ tc sc : Nat} {p q : Option Addr} {c d len1 len2 : Nat} {H G : PH} {ls ms : List (List Value)} (c' : Nat) (ht : X.P.underlying T = some (.slice e)) (he : el X.P e n by_) (hx : ev σ x = some (.slice p len1 c)) (hy : ev σ y = some (.slice q len2 d))
    (hL : lk L tc = some H) (hG : lk L sc = some G) (hO : OwnB H p c e n ls) (hl1 : len1 = ls.length) (hS : Sl G q d n ms) (hl2 : len2 = ms.length) (h1 : ∀ l ∈ ms, ∀ v ∈ l, v.oneCell' = true) (hn : 0 < n) (hb : (ls.length + ms.length) * by_ ≤ 140737488355328) (hmax : ls.length + ms.length ≤ maxLen)
    (hne : Nat.beq c' tc = false) (hne2 : Nat.beq c' sc = false) (hne3 : Nat.beq tc sc = false) :
    Eff X (.call { callee := .builtin .append, args := #[x, y], argTypes := #[T, T] }) ty σ L (fun v L' => ∃ H' p' c'', v = .slice p' (ls ++ ms).length c'' ∧ OwnB H' p' c'' e n (ls ++ ms) ∧ (∀ b, blk p ≠ some b → blk p' ≠ some b → H' b = H b) ∧ (∀ b, blk p' = some b → blk p = some b ∨ H b = none) ∧
      L' = (tc, H') :: (c', emp) :: L) := fun a w ha hm oo ho hty K Q hK => by
  have hcc : c' ≠ tc := fun e => by subst e; simp at hne
  have hcs : c' ≠ sc := fun e => by subst e; simp at hne2
  have htc : tc ≠ sc := fun e => by subst e; simp at hne3
  -- the slice's block by itself
  have hown : ∃ G0 : PH, Own G0 p c e n ls ∧ (∀ b o, G0 b = some o → blk p = some b ∧ H b = some o) ∧ (∀ b o, blk p = some b → H b = some o → G0 b = some o) := by
    obtain ⟨g1, g2, g3, g4⟩ := hO
    cases p with
    | none => obtain ⟨rfl, rfl⟩ := g4; exact ⟨emp, ⟨by simp, by simp, by simp [maxLen], rfl, rfl, rfl⟩, (fun b o h => by cases h), (fun b o h => by cases h)⟩
    | some pa =>
      obtain ⟨g5, g6, sp, hbb, g7⟩ := g4
      refine ⟨single pa.block (.cells (ls.flatten ++ sp).toArray e (0, 0)), ⟨g1, g2, g3, g5, g6, sp, rfl, g7⟩, fun b o h => ?_, fun b o h h' => ?_⟩
      · obtain ⟨rfl, rfl⟩ := single_inv h; exact ⟨rfl, hbb⟩
      · simp [blk] at h; subst h; rw [hbb] at h'; cases h'; exact single_self _ _
  obtain ⟨G0, hO0, hG0, hG0'⟩ := hown
  let R : PH := fun b => if blk p = some b then none else H b
  have hRs : ∀ b o, R b = some o → blk p ≠ some b ∧ H b = some o := by
    intro b o h; simp only [R] at h; split at h
    · cases h
    · rename_i hnb; exact ⟨hnb, h⟩
  have look : ∀ i J, lk ((c', G0) :: (tc, R) :: L) i = some J → (i = c' ∧ J = G0) ∨ (i = tc ∧ J = R) ∨ (i ≠ tc ∧ i ≠ c' ∧ lk L i = some J) := by
    intro i J h
    rw [lk_cons] at h
    split at h
    · rename_i e; cases h; exact .inl ⟨e.symm, rfl⟩
    · rename_i e; rw [lk_cons] at h
      split at h
      · rename_i e'; cases h; exact .inr (.inl ⟨e'.symm, rfl⟩)
      · rename_i e'; exact .inr (.inr ⟨Ne.symm e', Ne.symm e, h⟩)
  have hm1 : Mem X.E ((c', G0) :: (tc, R) :: L) w := by
    refine ⟨hm.os, hm.out, fun i J h => ?_, fun i j J M hij hJ hM => ?_⟩
    · rcases look i J h with ⟨_, rfl⟩ | ⟨_, rfl⟩ | ⟨_, _, h⟩
      · intro b o hb; exact hm.sub tc H hL _ _ (hG0 b o hb).2
      · intro b o hb; exact hm.sub tc H hL _ _ (hRs b o hb).2
      · exact hm.sub i J h
    · intro b y z hy hz
      rcases look i J hJ with ⟨hi, rfl⟩ | ⟨hi, rfl⟩ | ⟨hi, hi', h⟩ <;> rcases look j M hM with ⟨hj, rfl⟩ | ⟨hj, rfl⟩ | ⟨hj, hj', h'⟩
      · omega
      · exact (hRs _ _ hz).1 (hG0 _ _ hy).1
      · exact hm.dis tc j H M (Ne.symm hj) hL h' _ _ _ (hG0 _ _ hy).2 hz
      · exact (hRs _ _ hy).1 (hG0 _ _ hz).1
      · omega
      · exact hm.dis tc j H M (Ne.symm hj) hL h' _ _ _ (hRs _ _ hy).2 hz
      · exact hm.dis i tc J H hi h hL _ _ _ hy (hG0 _ _ hz).2
      · exact hm.dis i tc J H hi h hL _ _ _ hy (hRs _ _ hz).2
      · exact hm.dis i j J M hij h h' _ _ _ hy hz
  have happ := Eff.append (X := X) (σ := σ) (L := (c', G0) :: (tc, R) :: L) (ty := ty) (tc := c') (sc := sc) ht he hx hy (by simp [lk_cons]) (by rw [lk_cons, if_neg hcs, lk_cons, if_neg htc]; exact hG) hO0 hl1 hS hl2 h1 hn hb hmax
  refine happ a w ha hm1 oo ho hty K Q ?_
  rintro v L' w' ⟨H1, p', c'', rfl, hO1, rfl⟩ hm'
  have hH1 : ∀ b o, H1 b = some o → blk p' = some b := by
    intro b o h
    obtain ⟨_, _, _, g4⟩ := hO1
    cases p' with
    | none => obtain ⟨_, _, rfl⟩ := g4; cases h
    | some pa => obtain ⟨_, _, sp, rfl, _⟩ := g4; obtain ⟨rfl, _⟩ := single_inv h; rfl
  have hH1' : ∀ b, blk p' = some b → ∃ o, H1 b = some o := by
    intro b h
    obtain ⟨_, _, _, g4⟩ := hO1
    cases p' with
    | none => cases h
    | some pa => obtain ⟨_, _, sp, rfl, _⟩ := g4; simp [blk] at h; subst h; exact ⟨_, single_self _ _⟩
  have e1 : lk ((c', H1) :: (c', G0) :: (tc, R) :: L) tc = some R := by simp [lk_cons, hcc]
  have e2 : lk ((c', H1) :: (c', G0) :: (tc, R) :: L) c' = some H1 := by simp [lk_cons]
  have h2 := Imp.merge e1 e2 hne X.E w' hm'
  have hdis : ∀ b o, R b = some o → blk p' ≠ some b := fun b o hr hp => by
    obtain ⟨o', ho'⟩ := hH1' b hp
    exact hm'.dis tc c' R H1 (Ne.symm hcc) e1 e2 b o o' hr ho'
  refine hK _ _ w' ⟨hjoin R H1, p', c'', rfl, hO1.b.mono fun b o hp hh => ?_, fun b hb1 hb2 => ?_, fun b hp => ?_, rfl⟩ (h2.weak fun i J hi => ?_)
  · unfold hjoin
    cases hr : R b with
    | some o' => exact absurd hp (hdis b o' hr)
    | none => exact hh
  · unfold hjoin
    have : R b = H b := by simp only [R]; rw [if_neg hb1]
    rw [this]
    cases hh : H b with
    | some o => rfl
    | none =>
      cases h1 : H1 b with
      | none => rfl
      | some o => exact absurd (hH1 b o h1) hb2
  · by_cases hpb : blk p = some b
    · exact .inl hpb
    · right
      cases hh : H b with
      | none => rfl
      | some o => exact absurd hp (hdis b o (by simp only [R]; rw [if_neg hpb]; exact hh))
  · rw [lk_cons] at hi ⊢
    split at hi
    · rename_i e; rw [if_pos e]; exact hi
    · rename_i e
      rw [if_neg e]
      rw [lk_cons] at hi ⊢
      split at hi
      · rename_i e'; rw [if_pos e']; exact hi
      · rename_i e'
        rw [if_neg e']
        rw [lk_cons, if_neg e', lk_cons, if_neg e', lk_cons, if_neg e]
        exact hi
end

/-! ### several blocks of one kind in one piece -/
def many : Nat → (Nat → Nat) → (Nat → Obj) → PH
  | 0, _, _ => emp
  | n + 1, ks, f => pset (many n ks f) (ks n) (f n)
theorem many_get {n : Nat} {ks : Nat → Nat} {f : Nat → Obj} (hinj : ∀ i j, i < n → j < n → ks i = ks j → i = j) {i : Nat} (hi : i < n) : many n ks f (ks i) = some (f i) := by
  induction n with
  | zero => omega
  | succ n ih =>
    unfold many pset
    by_cases h : i = n
    · subst h; simp
    · rw [if_neg (fun e => h (hinj i n (by omega) (by omega) e))]
      exact ih (fun i j hi hj => hinj i j (by omega) (by omega)) (by omega)
theorem many_set {n : Nat} {ks : Nat → Nat} {f : Nat → Obj} (hinj : ∀ i j, i < n → j < n → ks i = ks j → i = j) {i : Nat} (hi : i < n) (o : Obj) : pset (many n ks f) (ks i) o = many n ks (fun j => if j = i then o else f j) := by
  induction n with
  | zero => omega
  | succ n ih =>
    by_cases h : i = n
    · subst h
      have e : many i ks (fun j => if j = i then o else f j) = many i ks f := by
        have : ∀ m, m ≤ i → many m ks (fun j => if j = i then o else f j) = many m ks f := by
          intro m
          induction m with
          | zero => intro _; rfl
          | succ m ihm => intro hm; unfold many; rw [ihm (by omega)]; simp [show m ≠ i by omega]
        exact this i (Nat.le_refl _)
      unfold many
      rw [e]
      funext x
      unfold pset
      split <;> simp_all
    · have := ih (fun i j hi hj => hinj i j (by omega) (by omega)) (by omega)
      unfold many
      rw [← this]
      funext x
      have hne : ks n ≠ ks i := fun e => h (hinj n i (by omega) (by omega) e).symm
      unfold pset
      by_cases h1 : x = ks n
      · subst h1; simp [hne, show n ≠ i from fun e => h e.symm]
      · by_cases h2 : x = ks i <;> simp [h1, h2, hne.symm]

theorem Imp.empty (L : Sh) (c : Nat) : Imp L ((c, emp) :: L) := fun E w hm => by
  refine ⟨hm.os, hm.out, fun i G h => ?_, fun i j G K hij hG hK => ?_⟩
  · rw [lk_cons] at h; split at h
    · cases h; intro x y hx; cases hx
    · exact hm.sub i G h
  · intro x y z hx hz
    rw [lk_cons] at hG hK
    split at hG
    · cases hG; cases hx
    · split at hK
      · cases hK; cases hz
      · exact hm.dis i j G K hij hG hK _ _ _ hx hz
theorem Imp.as {L : Sh} {c : Nat} {H H' : PH} (hL : lk L c = some H) (e : H = H') : Imp L ((c, H') :: L) := fun E w hm => hm.weak fun i J h => by
  rw [lk_cons] at h; split at h
  · rename_i e'; subst e'; cases h; subst e; exact hL
  · exact h
theorem Mem.ne {E : Env} {L : Sh} {w : World} (hm : Mem E L w) {c c' b b' : Nat} {o o' : Obj} (h1 : lk L c = some (single b o)) (h2 : lk L c' = some (single b' o')) (hne : c ≠ c') : b ≠ b' := fun e => by
  subst e; exact hm.dis c c' _ _ hne h1 h2 b o o' (single_self _ _) (single_self _ _)
section
variable {X : Cx} {Q : Exit → Act → World → Prop} {σ : Loc} {L : Sh} {ops : Array Oper} {l : List Oper}
theorem W.fact {c : Code} {p : Prop} (h : ∀ E w, Mem E L w → p) (hw : p → W X c Q σ L) : W X c Q σ L := fun a w ha hm => hw (h _ _ hm) a w ha hm
theorem RL.fact {p : Prop} (h : ∀ E w, Mem E L w → p) (hw : p → RL X ops Q l σ L) : RL X ops Q l σ L := fun a w ha hm => hw (h _ _ hm) a w ha hm
end
def q4 (a b c d : Nat) : Nat → Nat
  | 0 => a
  | 1 => b
  | 2 => c
  | _ => d
theorem q4_inj {a b c d : Nat} (h : a ≠ b ∧ a ≠ c ∧ a ≠ d ∧ b ≠ c ∧ b ≠ d ∧ c ≠ d) : ∀ i j, i < 4 → j < 4 → q4 a b c d i = q4 a b c d j → i = j := by
  intro i j hi hj
  match i, j, hi, hj with
  | 0, 0, _, _ => simp
  | 0, 1, _, _ => simp [q4]; omega
  | 0, 2, _, _ => simp [q4]; omega
  | 0, 3, _, _ => simp [q4]; omega
  | 1, 0, _, _ => simp [q4]; omega
  | 1, 1, _, _ => simp
  | 1, 2, _, _ => simp [q4]; omega
  | 1, 3, _, _ => simp [q4]; omega
  | 2, 0, _, _ => simp [q4]; omega
  | 2, 1, _, _ => simp [q4]; omega
  | 2, 2, _, _ => simp
  | 2, 3, _, _ => simp [q4]; omega
  | 3, 0, _, _ => simp [q4]; omega
  | 3, 1, _, _ => simp [q4]; omega
  | 3, 2, _, _ => simp [q4]; omega
  | 3, 3, _, _ => simp
theorem join_many4 {a b c d : Nat} (h : a ≠ b ∧ a ≠ c ∧ a ≠ d ∧ b ≠ c ∧ b ≠ d ∧ c ≠ d) (f : Nat → Obj) : hjoin (hjoin (hjoin (single a (f 0)) (single b (f 1))) (single c (f 2))) (single d (f 3)) = many 4 (q4 a b c d) f := by
  funext x
  simp only [many, pset, hjoin, single, q4, emp]
  by_cases h1 : x = a
  · subst h1; simp [h.1, h.2.1, h.2.2.1]
  · by_cases h2 : x = b
    · subst h2; simp [h1, h.2.2.2.1, h.2.2.2.2.1]
    · by_cases h3 : x = c
      · subst h3; simp [h1, h2, h.2.2.2.2.2]
      · by_cases h4 : x = d
        · subst h4; simp [h1, h2, h3]
        · simp [h1, h2, h3, h4]

/-! ### reslicing -/
def subP (p : Option Addr) (c l n : Nat) : Option Addr := if c = l then p else p.map (·.add (l * n))
section
variable {X : Cx} {σ : Loc} {L : Sh} {ty T : TypeId} {x y z : Operand}
theorem run_sliceB {P : Program} {k : IntKind} {i : Int} {y : Nat} (code : BoundsCode) (h0 : 0 ≤ i) (h1 : i ≤ y) (w : World) : (Instr.sliceBound (.int k i) y code).run P w = .ok i.toNat w := by
  simp [Instr.sliceBound, asIntOf, h0, h1]
/-- 'x[:h]' -/
theorem Yld.sliceH {e m n c : Nat} {p : Option Addr} {k : IntKind} {h : Int} (ht : X.P.underlying T = some (.slice e)) (hm : sz X.P e m) (hx : ev σ x = some (.slice p n c)) (hy : ev σ y = some (.int k h)) (h0 : 0 ≤ h) (h1 : h ≤ c) :
    Yld X (.slice T x none (some y) none) ty σ L (.slice p h.toNat c) :=
  Yld.of (fun ρ => Instr.sliceAt T (ρ x) none (some (ρ y)) none) (fun ρ o ho => by simp [execOp, ho]) fun a w ha hmem => by
    rw [ha.ev hx, ha.ev hy]
    simp only [Instr.sliceAt, Sem.run_bind, run_underlying ht, Result.andThen_ok, Instr.slice, Instr.sliceBounds, Sem.run_pure, run_sliceB _ h0 h1, run_sizeOf hm]
    cases p with
    | none => simp
    | some q => simp [Addr.add]
/-- 'x[l:]' -/
theorem Yld.sliceL {e m n c : Nat} {p : Option Addr} {k : IntKind} {l : Int} (ht : X.P.underlying T = some (.slice e)) (hm : sz X.P e m) (hx : ev σ x = some (.slice p n c)) (hy : ev σ y = some (.int k l)) (h0 : 0 ≤ l) (h1 : l ≤ n) :
    Yld X (.slice T x (some y) none none) ty σ L (.slice (subP p c l.toNat m) (n - l.toNat) (c - l.toNat)) :=
  Yld.of (fun ρ => Instr.sliceAt T (ρ x) (some (ρ y)) none none) (fun ρ o ho => by simp [execOp, ho]) fun a w ha hmem => by
    rw [ha.ev hx, ha.ev hy]
    simp only [Instr.sliceAt, Sem.run_bind, run_underlying ht, Result.andThen_ok, Instr.slice, Instr.sliceBounds, Sem.run_pure, run_sliceB _ h0 h1, run_sizeOf hm, subP]
/-- 'x[l:h]' -/
theorem Yld.sliceLH {e m n c : Nat} {p : Option Addr} {k k' : IntKind} {l h : Int} (ht : X.P.underlying T = some (.slice e)) (hm : sz X.P e m) (hx : ev σ x = some (.slice p n c)) (hy : ev σ y = some (.int k l)) (hz : ev σ z = some (.int k' h)) (h0 : 0 ≤ l) (h1 : l ≤ h) (h2 : h ≤ c) :
    Yld X (.slice T x (some y) (some z) none) ty σ L (.slice (subP p c l.toNat m) (h.toNat - l.toNat) (c - l.toNat)) :=
  Yld.of (fun ρ => Instr.sliceAt T (ρ x) (some (ρ y)) (some (ρ z)) none) (fun ρ o ho => by simp [execOp, ho]) fun a w ha hmem => by
    rw [ha.ev hx, ha.ev hy, ha.ev hz]
    simp only [Instr.sliceAt, Sem.run_bind, run_underlying ht, Result.andThen_ok, Instr.slice, Instr.sliceBounds, Sem.run_pure, run_sliceB _ (Int.le_trans h0 h1) h2, run_sizeOf hm, subP, Option.isSome_none]
    simp [run_sliceB (y := h.toNat) _ h0 (show l ≤ (h.toNat : Int) by omega)]
end
theorem Sl.take {H : PH} {p : Option Addr} {c n : Nat} {ls : List (List Value)} (h : Sl H p c n ls) (k : Nat) : Sl H p c n (ls.take k) := by
  unfold Sl at *
  cases p with
  | none => obtain ⟨rfl, h2⟩ := h; exact ⟨by simp, h2⟩
  | some a =>
    obtain ⟨h2, h3, h4⟩ := h
    refine ⟨by simp; omega, h3, fun hc => ?_⟩
    obtain ⟨h1, cs, e, fr, hb, hr⟩ := h4 hc
    refine ⟨h1, cs, e, fr, hb, fun i l hl => ?_⟩
    rw [List.getElem?_take] at hl
    split at hl
    · exact hr i l hl
    · cases hl
theorem Sl.drop {H : PH} {p : Option Addr} {c n : Nat} {ls : List (List Value)} (h : Sl H p c n ls) {k : Nat} (hk : k ≤ ls.length) : Sl H (subP p c k n) (c - k) n (ls.drop k) := by
  unfold Sl at h
  cases p with
  | none =>
    obtain ⟨rfl, rfl⟩ := h
    simp at hk; subst hk
    simp [subP, Sl]
  | some a =>
    obtain ⟨h2, h3, h4⟩ := h
    rcases Nat.eq_zero_or_pos c with hc0 | hc0
    · have hl0 : ls = [] := List.eq_nil_of_length_eq_zero (by omega)
      subst hl0; subst hc0
      simp at hk; subst hk
      simp [subP, Sl]
    obtain ⟨h1, cs, e, fr, hb, hr⟩ := h4 hc0
    obtain ⟨b, o, s⟩ := a
    simp only at h1 hb hr
    subst h1
    have key : ∀ (i : Nat) l, (ls.drop k)[i]? = some l → l.length = n ∧ (cs.drop (o + k * n + i * n)).take n = l := fun i l hl => by
      rw [List.getElem?_drop] at hl
      have := hr (k + i) l hl
      rwa [Nat.add_mul, ← Nat.add_assoc] at this
    unfold subP
    split
    · rename_i e'
      have : ls.drop k = [] := List.drop_eq_nil_of_le (by omega)
      refine ⟨by simp [this], by simp [maxLen] at h3 ⊢; omega, fun h => by omega⟩
    · show Sl H (some (Addr.add ⟨b, o, none⟩ (k * n))) (c - k) n (ls.drop k)
      rw [Addr.add_lit]
      exact ⟨by simp; omega, by simp [maxLen] at h3 ⊢; omega, fun _ => ⟨rfl, cs, e, fr, hb, key⟩⟩
theorem Own.one {b e n : Nat} {l cs : List Value} (hl : l.length = n) (h1 : ∀ v ∈ l, v.oneCell' = true) (hcs : cs = l) : Own (single b (.cells cs.toArray e (0, 0))) (some ⟨b, 0, none⟩) 1 e n [l] :=
  Own.mk [] (by simp; exact ⟨hl, h1⟩) (by simp) (by simp [maxLen]) (by simp [hl]) (by simp [hcs])
theorem Own.none0 {b e n : Nat} {cs : List Value} (hcs : cs = []) : Own (single b (.cells cs.toArray e (0, 0))) (some ⟨b, 0, none⟩) 0 e n [] :=
  Own.mk [] (by simp) (by simp) (by simp [maxLen]) (by simp) (by simp [hcs])
theorem Imp.move {L : Sh} {c c' : Nat} {H : PH} (hL : lk L c = some H) (hne : Nat.beq c' c = false) : Imp L ((c', H) :: (c, emp) :: L) := fun E w hm => by
  have hcc : c' ≠ c := fun e => by subst e; simp at hne
  have look : ∀ i J, lk ((c', H) :: (c, emp) :: L) i = some J → (i = c' ∧ J = H) ∨ (i = c ∧ J = emp) ∨ (i ≠ c ∧ i ≠ c' ∧ lk L i = some J) := by
    intro i J h
    rw [lk_cons] at h
    split at h
    · rename_i e; cases h; exact .inl ⟨e.symm, rfl⟩
    · rename_i e; rw [lk_cons] at h
      split at h
      · rename_i e'; cases h; exact .inr (.inl ⟨e'.symm, rfl⟩)
      · rename_i e'; exact .inr (.inr ⟨Ne.symm e', Ne.symm e, h⟩)
  refine ⟨hm.os, hm.out, fun i J h => ?_, fun i j J M hij hJ hM => ?_⟩
  · rcases look i J h with ⟨_, rfl⟩ | ⟨_, rfl⟩ | ⟨_, _, h⟩
    · exact hm.sub c _ hL
    · intro x y hx; cases hx
    · exact hm.sub i J h
  · intro x y z hx hz
    rcases look i J hJ with ⟨hi, rfl⟩ | ⟨hi, rfl⟩ | ⟨hi, hi', h⟩ <;> rcases look j M hM with ⟨hj, rfl⟩ | ⟨hj, rfl⟩ | ⟨hj, hj', h'⟩
    · omega
    · cases hz
    · exact hm.dis c j _ M (Ne.symm hj) hL h' _ _ _ hx hz
    · cases hx
    · cases hx
    · cases hx
    · exact hm.dis i c J _ hi h hL _ _ _ hx hz
    · cases hz
    · exact hm.dis i j J M hij h h' _ _ _ hx hz
end Go.Proofs.YtnakhfmnchmhjaaGreat.SL
/-
  Guarded groups of operations ('&&', '||' within a region) taken as one step: both ways through the group meet behind it. Equality of structs.
-/
namespace Go.Proofs.YtnakhfmnchmhjaaGreat.SL
open Go
set_option linter.unusedVariables false

/-- as Q, but the normal end goes on as K says -/
def Mid (Q : Exit → Act → World → Prop) (K : Act → World → Prop) : Exit → Act → World → Prop
  | .normal, a, w => K a w
  | e, a, w => Q e a w

theorem Oper.wp_out {P : Program} {o : Oper} {a : Act} {w : World} {next : Act → World → Prop} {Q Q' : Exit → Act → World → Prop} (hp : ∀ c a w, Q (.panic c) a w → Q' (.panic c) a w) (ho : LetsOut Q → LetsOut Q')
    (h : o.wp P a w next Q) : o.wp P a w next Q' := by
  unfold Go.Oper.wp at *
  generalize (execOp a.eval o).run P w = r at *
  cases r with
  | ok n w' =>
    cases n with
    | enter f args =>
      exact Calls.mono (show Calls P f args w' _ from h) fun e w'' hq => by
        cases e with
        | returned v => exact hq
        | panicked c => exact hp _ _ _ hq
        | outgrown => exact ho hq
    | _ => exact h
  | halt s w' =>
    cases s with
    | panic v => exact hp _ _ _ h
    | _ => exact h

theorem Oper.wp_mid {P : Program} {o : Oper} {a : Act} {w : World} {next : Act → World → Prop} {Q : Exit → Act → World → Prop} {K : Act → World → Prop} (h : o.wp P a w next (Mid Q K)) : o.wp P a w next Q :=
  Oper.wp_out (fun _ _ _ h => h) (fun h => h) h

theorem wpList_mid {P : Program} {ops : Array Oper} {Q : Exit → Act → World → Prop} {K : Act → World → Prop} {l2 : List Oper} (hK : ∀ a w, K a w → wpList P ops Q l2 a w) :
    ∀ (l1 : List Oper) (a : Act) (w : World), wpList P ops (Mid Q K) l1 a w → wpList P ops Q (l1 ++ l2) a w
  | [], a, w, h => hK a w h
  | o :: r, a, w, h => by
    show wpList P ops Q (o :: (r ++ l2)) a w
    unfold wpList at h ⊢
    split at h
    · rename_i hw
      rw [if_pos hw]
      rcases h with h | h
      · exact .inl (Oper.wp_mono (fun a w => wpList_mid hK r a w) (Oper.wp_mid h))
      · exact .inr h
    · rename_i hw
      rw [if_neg hw]
      exact wpList_mid hK r _ _ h

section
variable {X : Cx} {Q : Exit → Act → World → Prop} {σ σ0 : Loc} {L L0 Ls : Sh} {ops : Array Oper} {l : List Oper} {p : Plan}

def Meet (X : Cx) (σ : Loc) (L : Sh) : Act → World → Prop := fun a w => AF X.n σ a ∧ Mem X.E L w

theorem N.meet {σ' : Loc} {L' : Sh} (hS : Keep σ σ') (hL : Keep L L') : N X (Mid Q (Meet X σ' L')) .normal σ L := fun _ _ ha hm => ⟨ha.keep hS, hm.keep hL⟩

theorem RL.cut {σ' : Loc} {L' : Sh} (k : Nat) (h1 : RL X ops (Mid Q (Meet X σ' L')) (l.take k) σ L) (h : RL X ops Q (l.drop k) σ' L') : RL X ops Q l σ L := fun a w ha hm => by
  have := wpList_mid (l2 := l.drop k) (fun a w h' => h a w h'.1 h'.2) (l.take k) a w (h1 a w ha hm)
  rwa [List.take_append_drop] at this

theorem AF.with {n t : Nat} {σ σ0 : Loc} {a : Act} {v : Value} (ha : AF n σ a) (hx : lk σ t = some v) (hk : Keep σ σ0) : AF n ((t, v) :: σ0) a := by
  have h0 := ha.keep hk
  refine ⟨h0.1, h0.2.1, fun i u hi => ?_⟩
  rw [lk_cons] at hi
  split at hi
  · rename_i e; subst e; cases hi; exact ha.2.2 _ _ hx
  · exact h0.2.2 i u hi

theorem RL.or {t d : Nat} {b c : Bool} (k : Nat) (hx : lk σ t = some (.bool b)) (hk : Keep σ σ0) (hL : Keep L L0)
    (h1 : b = false → RL X ops (Mid Q (Meet X ((d, .bool c) :: σ0) L0)) (l.take k) ((t, .bool false) :: σ0) L0)
    (h2 : b = true → RL X ops (Mid Q (Meet X ((d, .bool true) :: σ0) L0)) (l.take k) ((t, .bool true) :: σ0) L0)
    (h : RL X ops Q (l.drop k) ((d, .bool (b || c)) :: σ0) L0) : RL X ops Q l σ L := fun a w ha hm => by
  cases b with
  | false => exact RL.cut k (h1 rfl) h a w (ha.with hx hk) (hm.keep hL)
  | true => exact RL.cut k (h2 rfl) h a w (ha.with hx hk) (hm.keep hL)

theorem RL.and {t d : Nat} {b c : Bool} (k : Nat) (hx : lk σ t = some (.bool b)) (hk : Keep σ σ0) (hL : Keep L L0)
    (h1 : b = true → RL X ops (Mid Q (Meet X ((d, .bool c) :: σ0) L0)) (l.take k) ((t, .bool true) :: σ0) L0)
    (h2 : b = false → RL X ops (Mid Q (Meet X ((d, .bool false) :: σ0) L0)) (l.take k) ((t, .bool false) :: σ0) L0)
    (h : RL X ops Q (l.drop k) ((d, .bool (b && c)) :: σ0) L0) : RL X ops Q l σ L := fun a w ha hm => by
  cases b with
  | true => exact RL.cut k (h1 rfl) h a w (ha.with hx hk) (hm.keep hL)
  | false => exact RL.cut k (h2 rfl) h a w (ha.with hx hk) (hm.keep hL)

/-- the operation that decides was not done itself -/
theorem RL.gskipU {d j t : Nat} {g : Bool} {op : Op} {ty : TypeId} {pos : String} {after : Array Edge} (hj : guardSlot ops j = some t) (hx : lk σ t = some undef) (hd : Nat.blt d X.n = true) (h : RL X ops Q l ((d, undef) :: σ) L) :
    RL X ops Q (⟨some d, op, ty, pos, after, some (j, g)⟩ :: l) σ L := fun a w ha hm =>
  wpList_step fun _ hK => by
    rw [if_neg (by
      have h1 := ha.2.2 t undef hx
      have h2 : (ops[j]?).bind (·.dst) = some t := hj
      simp only [Region.wanted, yielded, h2, Option.bind_some, h1]
      simp [undef])]
    exact hK _ _ (h _ _ (ha.put (lt_of_blt hd) undef) hm)

/-! regions that draw their order -/
def Plan.take : Nat → Plan → Plan
  | 0, _ => .done
  | k + 1, .q i p => .q i (p.take k)
  | k + 1, .one i p => .one i (p.take k)
  | _ + 1, _ => .done
def Plan.drop : Nat → Plan → Plan
  | 0, p => p
  | k + 1, .q _ p => p.drop k
  | k + 1, .one _ p => p.drop k
  | _ + 1, p => p

theorem DW.cut {P : Program} {S : World → Prop} {Q : Exit → Act → World → Prop} {K : Act → World → Prop} : ∀ (k : Nat) (p : Plan) (a : Act) (w : World), (∀ a w, K a w → DW P ops Q S (p.drop k) a w) → DW P ops (Mid Q K) S (p.take k) a w → DW P ops Q S p a w
  | 0, p, a, w, hK, h => hK a w h
  | k + 1, .q i p, a, w, hK, ⟨h1, o, v, h2, h3, h4⟩ => ⟨h1, o, v, h2, h3, DW.cut k p _ _ hK h4⟩
  | k + 1, .one i p, a, w, hK, h => by
    have h1 : wpOp P ops (Mid Q K) i (fun a' w' => S w' ∧ DW P ops Q S p a' w') a w := wpOp_mono (fun a' w' h' => ⟨h'.1, DW.cut k p _ _ hK h'.2⟩) h
    show wpOp P ops Q i (fun a' w' => S w' ∧ DW P ops Q S p a' w') a w
    unfold wpOp at h1 ⊢
    split at h1
    · exact h1
    · rename_i o ho
      split at h1
      · rename_i hw
        rw [if_pos hw]
        rcases h1 with h1 | h1
        · exact .inl (Oper.wp_mid h1)
        · exact .inr h1
      · rename_i hw
        rw [if_neg hw]
        exact h1
  | k + 1, .done, a, w, hK, h => hK a w h
  | k + 1, .two _ _ _ _, a, w, hK, h => hK a w h
  | k + 1, .three _ _ _ _ _ _, a, w, hK, h => hK a w h
  | k + 1, .bag _ _, a, w, hK, h => hK a w h

theorem wpOp_out {P : Program} {i : Nat} {a : Act} {w : World} {K : Act → World → Prop} {Q Q' : Exit → Act → World → Prop} (hp : ∀ c a w, Q (.panic c) a w → Q' (.panic c) a w) (ho : LetsOut Q → LetsOut Q') (h1 : wpOp P ops Q i K a w) : wpOp P ops Q' i K a w := by
  unfold wpOp at h1 ⊢
  split at h1
  · exact h1
  · rename_i o hoo
    split at h1
    · rename_i hw
      rw [if_pos hw]
      rcases h1 with h1 | h1
      · exact .inl (Oper.wp_out hp ho h1)
      · exact .inr ⟨h1.1, ho h1.2⟩
    · rename_i hw
      rw [if_neg hw]
      exact h1

theorem DW.mono {P : Program} {S : World → Prop} {Q Q' : Exit → Act → World → Prop} (hn : ∀ a w, Q .normal a w → Q' .normal a w) (hp : ∀ c a w, Q (.panic c) a w → Q' (.panic c) a w) (ho : LetsOut Q → LetsOut Q') : ∀ (p : Plan) (a : Act) (w : World), DW P ops Q S p a w → DW P ops Q' S p a w
  | .done, a, w, h => hn a w h
  | .q i p, a, w, ⟨h1, o, v, h2, h3, h4⟩ => ⟨h1, o, v, h2, h3, DW.mono hn hp ho p _ _ h4⟩
  | .one i p, a, w, h => wpOp_out hp ho (wpOp_mono (fun a' w' h' => ⟨h'.1, DW.mono hn hp ho p _ _ h'.2⟩) h)
  | .two i p j r, a, w, h => ⟨wpOp_out hp ho (wpOp_mono (fun a' w' h' => ⟨h'.1, DW.mono hn hp ho p _ _ h'.2⟩) h.1), wpOp_out hp ho (wpOp_mono (fun a' w' h' => ⟨h'.1, DW.mono hn hp ho r _ _ h'.2⟩) h.2)⟩
  | .three i p j r k s, a, w, h => ⟨wpOp_out hp ho (wpOp_mono (fun a' w' h' => ⟨h'.1, DW.mono hn hp ho p _ _ h'.2⟩) h.1), wpOp_out hp ho (wpOp_mono (fun a' w' h' => ⟨h'.1, DW.mono hn hp ho r _ _ h'.2⟩) h.2.1), wpOp_out hp ho (wpOp_mono (fun a' w' h' => ⟨h'.1, DW.mono hn hp ho s _ _ h'.2⟩) h.2.2)⟩
  | .bag B p, a, w, ⟨I, h0, hI, hE⟩ => ⟨I, h0, fun D a w hi t ht hD hj => wpOp_out hp ho (hI D a w hi t ht hD hj), fun D a w hi hD => DW.mono hn hp ho p _ _ (hE D a w hi hD)⟩

def Meet3 (X : Cx) (Ls : Sh) (σ : Loc) (L : Sh) : Act → World → Prop := fun a w => AF X.n σ a ∧ Mem X.E L w ∧ Mem X.E Ls w

theorem DL.meet {σ' : Loc} {L' : Sh} (hS : Keep σ σ') (hL : Keep L L') : DL X ops (Mid Q (Meet3 X Ls σ' L')) Ls .done σ L := fun _ _ ha hm hs => ⟨ha.keep hS, hm.keep hL, hs⟩

theorem DL.cut {σ' : Loc} {L' : Sh} (k : Nat) (h1 : DL X ops (Mid Q (Meet3 X Ls σ' L')) Ls (p.take k) σ L) (h : DL X ops Q Ls (p.drop k) σ' L') : DL X ops Q Ls p σ L := fun a w ha hm hs => by
  refine DW.cut (K := Meet3 X Ls σ' L') k p a w (fun a w h' => h a w h'.1 h'.2.1 h'.2.2) (DW.mono (Q := NP (Mid Q (Meet3 X Ls σ' L'))) (Q' := Mid (NP Q) (Meet3 X Ls σ' L')) (fun _ _ h => h) (fun _ _ _ h => h) (fun ⟨a, w, h⟩ => ⟨a, w, h⟩) _ _ _ (h1 a w ha hm hs))

theorem DL.or {t d : Nat} {b c : Bool} (k : Nat) (hx : lk σ t = some (.bool b)) (hk : Keep σ σ0) (hL : Keep L L0)
    (h1 : b = false → DL X ops (Mid Q (Meet3 X Ls ((d, .bool c) :: σ0) L0)) Ls (p.take k) ((t, .bool false) :: σ0) L0)
    (h2 : b = true → DL X ops (Mid Q (Meet3 X Ls ((d, .bool true) :: σ0) L0)) Ls (p.take k) ((t, .bool true) :: σ0) L0)
    (h : DL X ops Q Ls (p.drop k) ((d, .bool (b || c)) :: σ0) L0) : DL X ops Q Ls p σ L := fun a w ha hm => by
  cases b with
  | false => exact DL.cut k (h1 rfl) h a w (ha.with hx hk) (hm.keep hL)
  | true => exact DL.cut k (h2 rfl) h a w (ha.with hx hk) (hm.keep hL)

theorem DL.and {t d : Nat} {b c : Bool} (k : Nat) (hx : lk σ t = some (.bool b)) (hk : Keep σ σ0) (hL : Keep L L0)
    (h1 : b = true → DL X ops (Mid Q (Meet3 X Ls ((d, .bool c) :: σ0) L0)) Ls (p.take k) ((t, .bool true) :: σ0) L0)
    (h2 : b = false → DL X ops (Mid Q (Meet3 X Ls ((d, .bool false) :: σ0) L0)) Ls (p.take k) ((t, .bool false) :: σ0) L0)
    (h : DL X ops Q Ls (p.drop k) ((d, .bool (b && c)) :: σ0) L0) : DL X ops Q Ls p σ L := fun a w ha hm => by
  cases b with
  | true => exact DL.cut k (h1 rfl) h a w (ha.with hx hk) (hm.keep hL)
  | false => exact DL.cut k (h2 rfl) h a w (ha.with hx hk) (hm.keep hL)

theorem unwanted {n t j : Nat} {g : Bool} {op : Op} {ty : TypeId} {pos : String} {after : Array Edge} {od : Option Tmp} {a : Act} (ha : AF n σ a) (hj : guardSlot ops j = some t) (hx : lk σ t = some undef) :
    Region.wanted ⟨od, op, ty, pos, after, some (j, g)⟩ (yielded ops a.tmps) = false := by
  have h1 := ha.2.2 t undef hx
  have h2 : (ops[j]?).bind (·.dst) = some t := hj
  simp only [Region.wanted, yielded, h2, Option.bind_some, h1]
  simp [undef]

theorem DL.gskipU {i d j t : Nat} {g : Bool} {op : Op} {ty : TypeId} {pos : String} {after : Array Edge} (ho : ops[i]? = some ⟨some d, op, ty, pos, after, some (j, g)⟩) (hj : guardSlot ops j = some t) (hx : lk σ t = some undef) (hd : Nat.blt d X.n = true)
    (h : DL X ops Q Ls p ((d, undef) :: σ) L) : DL X ops Q Ls (.q i p) σ L := fun a w ha hm hs =>
  ⟨hs, _, undef, ho, .inr ⟨by rw [unwanted ha hj hx], rfl⟩, h _ _ (ha.put (lt_of_blt hd) undef) hm hs⟩

theorem DL.skip1 {i d : Nat} {o : Oper} (ho : ops[i]? = some o) (hdst : o.dst = some d) (hd : Nat.blt d X.n = true) (hw : ∀ a w, AF X.n σ a → Mem X.E L w → Region.wanted o (yielded ops a.tmps) = false) (h : DL X ops Q Ls p ((d, undef) :: σ) L) : DL X ops Q Ls (.one i p) σ L := fun a w ha hm hs => by
  show wpOp X.P ops (NP Q) i _ a w
  unfold wpOp
  rw [ho]
  simp only [hw a w ha hm, Bool.false_eq_true, if_false, hdst]
  exact ⟨hs, h _ _ (ha.put (lt_of_blt hd) undef) hm hs⟩

theorem DL.gskip1 {i d j t : Nat} {g x : Bool} {op : Op} {ty : TypeId} {pos : String} {after : Array Edge} (ho : ops[i]? = some ⟨some d, op, ty, pos, after, some (j, g)⟩) (hj : guardSlot ops j = some t) (hx : lk σ t = some (.bool x)) (hne : (x == g) = false) (hd : Nat.blt d X.n = true)
    (h : DL X ops Q Ls p ((d, undef) :: σ) L) : DL X ops Q Ls (.one i p) σ L :=
  DL.skip1 ho rfl hd (fun a w ha _ => by simp only [Region.wanted, yielded_of ha hj hx]; cases x <;> cases g <;> simp_all) h

theorem DL.gskip1U {i d j t : Nat} {g : Bool} {op : Op} {ty : TypeId} {pos : String} {after : Array Edge} (ho : ops[i]? = some ⟨some d, op, ty, pos, after, some (j, g)⟩) (hj : guardSlot ops j = some t) (hx : lk σ t = some undef) (hd : Nat.blt d X.n = true)
    (h : DL X ops Q Ls p ((d, undef) :: σ) L) : DL X ops Q Ls (.one i p) σ L :=
  DL.skip1 ho rfl hd (fun a w ha _ => unwanted ha hj hx) h
end

/-! ### '==' on structs -/
def EqV (P : Program) (d : Nat) (t : TypeId) (u v : Value) (b : Bool) : Prop := ∀ w, (Op.equalIn d t u v).run P w = .ok b w
def EqF (P : Program) (d : Nat) (xs ys : List Value) (fs : List Field) (b : Bool) : Prop := ∀ w, (Op.eqFields d xs.toArray ys.toArray fs).run P w = .ok b w
def PartV (P : Program) (t : TypeId) (xs : List Value) (o : Nat) (v : Value) : Prop := ∀ w, (part t xs.toArray o).run P w = .ok v w

section
variable {P : Program} {d : Nat} {t : TypeId}
theorem EqV.int {k k' : IntKind} {a b : Int} (h : P.underlying t = some (.int k')) : EqV P (d + 1) t (.int k a) (.int k b) (decide (a = b)) := fun w => by
  rw [run_equalIn_int w d t k k' a b h]; rfl
theorem EqV.bool {a b : Bool} (h : P.underlying t = some .bool) : EqV P (d + 1) t (.bool a) (.bool b) (a == b) := fun w => run_equalIn_bool' w d t a b h
theorem EqV.string {a b : ByteArray} (h : P.underlying t = some .string) : EqV P (d + 1) t (.string a) (.string b) (decide (a = b)) := fun w => by
  rw [run_equalIn_string w d t a b h, toList_beq]
theorem EqV.struct {fs : Array Field} {xs ys : List Value} {b : Bool} (h : P.underlying t = some (.struct fs)) (hp : P.stoodInHeld t = false) (he : EqF P d xs ys fs.toList b) : EqV P (d + 1) t (.agg xs.toArray) (.agg ys.toArray) b := fun w => by
  have e : P.fieldsOf t = fs := by simp [Program.fieldsOf, h]
  rw [run_equalIn_agg w d t _ _ (by rw [e]; exact h) hp, e]
  exact he w
theorem EqF.nil {xs ys : List Value} : EqF P d xs ys [] true := fun w => rfl
theorem EqF.cons {xs ys : List Value} {f : Field} {fs : List Field} {u v : Value} {r s : Bool} (hn : (f.name == "_") = false) (hx : PartV P f.type xs f.offset u) (hy : PartV P f.type ys f.offset v) (he : EqV P d f.type u v r) (hs : EqF P d xs ys fs s) :
    EqF P d xs ys (f :: fs) (r && s) := fun w => by
  have hn' : f.name ≠ "_" := by intro h; simp [h] at hn
  unfold Op.eqFields
  rw [if_pos hn']
  simp only [Sem.run_bind, hx w, hy w, he w, Result.andThen_ok]
  cases r with
  | false => rfl
  | true => exact hs w
theorem PartV.one {xs : List Value} {o : Nat} {v : Value} {de : TypeDesc} (h : P.underlying t = some de) (ha : aggD de = false) (hv : xs[o]? = some v) : PartV P t xs o v := fun w => by
  have hv' : xs.toArray[o]? = some v := by simpa using hv
  unfold part
  rw [Sem.run_bind, run_isAgg h, Result.andThen_ok]
  simp only [ha, Bool.false_eq_true, if_false, hv', Sem.run_pure]
theorem PartV.agg {xs l : List Value} {o n : Nat} {de : TypeDesc} (h : P.underlying t = some de) (ha : aggD de = true) (hn : sz P t n) (hl : (xs.drop o).take n = l) : PartV P t xs o (.agg l.toArray) := fun w => by
  unfold part
  rw [Sem.run_bind, run_isAgg h, Result.andThen_ok]
  simp only [ha, if_true]
  rw [Sem.run_bind, run_sizeOf hn, Result.andThen_ok, Sem.run_pure]
  congr 2
  rw [List.extract_toArray, ← hl]
  simp [List.extract_eq_take_drop]
end
theorem BinV.eqlT {P : Program} {T : TypeId} {xs ys : List Value} {b : Bool} (hm : P.eqGuardType P.depth T = false) (h : EqV P 10000 T (.agg xs.toArray) (.agg ys.toArray) b) : BinV P .eql T (.agg xs.toArray) (.agg ys.toArray) (.bool b) := fun w p q => by
  rw [Sem.run_bind, run_eqGuard_agg w _ _ _ _ _ _ hm, Result.andThen_ok, run_eql_struct, h w]; rfl
theorem BinV.neqT {P : Program} {T : TypeId} {xs ys : List Value} {b : Bool} (hm : P.eqGuardType P.depth T = false) (h : EqV P 10000 T (.agg xs.toArray) (.agg ys.toArray) b) : BinV P .neq T (.agg xs.toArray) (.agg ys.toArray) (.bool (!b)) := fun w p q => by
  rw [Sem.run_bind, run_eqGuard_agg w _ _ _ _ _ _ hm, Result.andThen_ok, run_neq_struct, h w]; rfl

/-! ### keys that are structs -/
section
variable {κ : Type} [DecidableEq κ]
theorem findAsking_run {P : Program} {kt : TypeId} {enc : κ → Value} (he : ∀ a b w, (Op.equal kt (enc a) (enc b)).run P w = .ok (decide (b = a)) w) (k : κ) (w : World) : ∀ (es : List MapEntry) (m : List (κ × Value)) (i : Nat), es.map (fun e => (e.key, e.val)) = m.map (fun p => (enc p.1, p.2)) →
    (Instr.findAsking kt (enc k) es i).run P w = .ok ((mget m k).map fun v => (i + midx m k, v)) w
  | [], [], i, _ => rfl
  | [], _ :: _, _, h => by simp at h
  | _ :: _, [], _, h => by simp at h
  | e :: es, (a, v) :: m, i, h => by
    simp only [List.map_cons, List.cons.injEq, Prod.mk.injEq] at h
    obtain ⟨⟨h1, h2⟩, h3⟩ := h
    unfold Instr.findAsking
    rw [h1, Sem.run_bind, he, Result.andThen_ok]
    by_cases hak : a = k
    · subst hak; simp [mget, midx, h2]
    · simp only [decide_eq_true_eq, hak, if_false, mget, midx]
      rw [findAsking_run he k w es m (i + 1) h3]
      congr 2
      funext v
      rw [show i + 1 + midx m k = i + (midx m k + 1) by omega]

theorem KeyOK.ofEq {P : Program} {kt : TypeId} {enc : κ → Value} {kind : TypeDesc} (hu : P.underlying kt = some kind) (hs : ∀ a b, Instr.sameNow kind (enc a) (enc b) = none) (he : ∀ a b w, (Op.equal kt (enc a) (enc b)).run P w = .ok (decide (b = a)) w)
    (hc : ∀ (b : Bool) (k : κ) (w : World), (Instr.checkKey b 10000 kt (enc k)).run P w = .ok () w) (hb : ∀ k, Instr.sameBits 10000 (enc k) (enc k) = true) : KeyOK P kt enc := by
  refine ⟨fun k es m w h => ?_, hc, hb⟩
  simp only [Instr.findKey, Sem.run_bind, run_underlying hu, Result.andThen_ok]
  match es, m, h with
  | [], [], _ => rfl
  | [], _ :: _, h => simp at h
  | _ :: _, [], h => simp at h
  | e :: es, (a, v) :: m, h =>
    have h1 : e.key = enc a := by simp at h; exact h.1.1
    have hn : Instr.findNow kind (enc k) (e :: es) 0 = none := by unfold Instr.findNow; rw [h1, hs]
    rw [hn]
    have := findAsking_run he k w (e :: es) ((a, v) :: m) 0 h
    simp only [Nat.zero_add] at this
    exact this
end

def enc2 (q : IntKind) (k : Int × Int) : Value := .agg [.int q k.1, .int q k.2].toArray
theorem keyPair {P : Program} {kt : TypeId} {q : IntKind} {f0 f1 : Field} (hu : P.underlying kt = some (.struct #[f0, f1])) (hst : P.stoodInHeld kt = false) (n0 : (f0.name == "_") = false) (n1 : (f1.name == "_") = false) (o0 : f0.offset = 0) (o1 : f1.offset = 1)
    (t0 : P.underlying f0.type = some (.int q)) (t1 : P.underlying f1.type = some (.int q)) : KeyOK P kt (enc2 q) := by
  have p0 : ∀ (k : Int × Int), PartV P f0.type [.int q k.1, .int q k.2] f0.offset (.int q k.1) := fun k => PartV.one t0 rfl (by rw [o0]; rfl)
  have p1 : ∀ (k : Int × Int), PartV P f1.type [.int q k.1, .int q k.2] f1.offset (.int q k.2) := fun k => PartV.one t1 rfl (by rw [o1]; rfl)
  refine .ofEq hu (fun _ _ => rfl) (fun a b w => ?_) (fun e k w => ?_) (fun k => ?_)
  · have h : EqV P 10000 kt (enc2 q a) (enc2 q b) _ := EqV.struct hu hst (EqF.cons n0 (p0 a) (p0 b) (EqV.int t0) (EqF.cons n1 (p1 a) (p1 b) (EqV.int t1) EqF.nil))
    have h2 := h w
    unfold Op.equal Op.maxDepth
    rw [h2]
    congr 1
    rw [Bool.eq_iff_iff]
    simp only [Bool.and_eq_true, decide_eq_true_eq, and_true]
    constructor
    · rintro ⟨h1, h2⟩; exact Prod.ext h1.symm h2.symm
    · rintro rfl; exact ⟨rfl, rfl⟩
  · have c : ∀ (t : TypeId) (x : Int) (w : World), P.underlying t = some (.int q) → (Instr.checkKey e 9999 t (.int q x)).run P w = .ok () w := fun t x w h => by
      rw [show (9999 : Nat) = 9998 + 1 from rfl, Instr.checkKey, Sem.run_bind, run_underlying h]; rfl
    have m0 : f0.name ≠ "_" := by intro h; simp [h] at n0
    have m1 : f1.name ≠ "_" := by intro h; simp [h] at n1
    rw [show (10000 : Nat) = 9999 + 1 from rfl, Instr.checkKey, Sem.run_bind, run_underlying hu, Result.andThen_ok]
    simp only [enc2]
    rw [← Array.forIn_toList]
    simp only [List.forIn_cons, List.forIn_nil, Sem.run_bind, m0, m1, ne_eq, not_false_eq_true, if_true, p0 k w, p1 k w, Result.andThen_ok, c _ _ _ t0, c _ _ _ t1, Sem.run_pure]
  · simp [enc2, Instr.sameBits]

/-! ### storing into a row of one's own slice -/
theorem putAt_len {cs vs : List Value} {o : Nat} (h : o + vs.length ≤ cs.length) : (putAt cs o vs).length = cs.length := by
  simp only [putAt, List.length_append, List.length_take, List.length_drop]; omega
theorem putAt_left {a r vs : List Value} {j : Nat} (h : j + vs.length ≤ a.length) : putAt (a ++ r) j vs = putAt a j vs ++ r := by
  unfold putAt
  rw [List.take_append_of_le_length (by omega), List.drop_append_of_le_length h]
  simp
theorem putAt_right {a r vs : List Value} {o : Nat} : putAt (a ++ r) (a.length + o) vs = a ++ putAt r o vs := by
  unfold putAt
  rw [show a.length + o + vs.length = a.length + (o + vs.length) by omega, List.drop_append, List.take_append]
  simp [List.drop_of_length_le, List.take_of_length_le]
theorem flat_put {m : Nat} {vs sp : List Value} {j : Nat} (hj : j + vs.length ≤ m) : ∀ (ls : List (List Value)) (i : Nat) (l : List Value), (∀ l ∈ ls, l.length = m) → ls[i]? = some l → putAt (ls.flatten ++ sp) (i * m + j) vs = (ls.set i (putAt l j vs)).flatten ++ sp
  | [], i, l, _, h => by simp at h
  | a :: r, 0, l, hl, h => by
    simp at h; subst h
    have := hl a (by simp)
    rw [Nat.zero_mul, Nat.zero_add, List.flatten_cons, List.append_assoc, putAt_left (by omega)]
    simp
  | a :: r, i + 1, l, hl, h => by
    have ha := hl a (by simp)
    have := flat_put (m := m) (sp := sp) hj r i l (fun l h => hl l (List.mem_cons_of_mem _ h)) (by simpa using h)
    rw [List.flatten_cons, List.append_assoc, show (i + 1) * m + j = a.length + (i * m + j) by rw [Nat.succ_mul, ha]; omega, putAt_right, this]
    simp
section
variable {X : Cx} {σ : Loc} {L : Sh} {ty T : TypeId} {x y : Operand}
theorem Eff.storeRow {p : Option Addr} {c e m j i tc k : Nat} {H : PH} {ls : List (List Value)} {l vs l' : List Value} {v : Value} (hn : sz X.P T k) (hx : ev σ x = some (.pointer (some ⟨(rowAt p (i * m)).block, (rowAt p (i * m)).off + j, none⟩))) (hy : ev σ y = some v) (hL : lk L tc = some H)
    (hO : Own H p c e m ls) (hl : ls[i]? = some l) (hv : v.cells = vs.toArray) (hvl : vs.length = k) (hj : Nat.ble (j + k) m = true) (h1 : vs.all (·.oneCell') = true) (hl' : putAt l j vs = l') :
    Eff X (.store T x y) ty σ L (fun _ L' => ∃ H', Own H' p c e m (ls.set i l') ∧ L' = (tc, H') :: L) := by
  subst hl'
  have hjm := Nat.le_of_ble_eq_true hj
  obtain ⟨o1, o2, o3, o4⟩ := hO
  have hi := (List.getElem?_eq_some_iff.1 hl).1
  have hlen := (o1 l (List.mem_of_getElem? hl)).1
  cases p with
  | none => obtain ⟨rfl, _⟩ := o4; simp at hl
  | some a =>
    obtain ⟨a1, a2, sp, rfl, a4⟩ := o4
    have hput := flat_put (m := m) (sp := sp) (j := j) (vs := vs) (by omega) ls i l (fun l h => (o1 l h).1) hl
    have hflat := flatten_length (ls := ls) (n := m) (fun l h => (o1 l h).1)
    have hle : i * m + j + k ≤ (ls.flatten ++ sp).length := by
      rw [List.length_append, hflat]
      have : (i + 1) * m ≤ ls.length * m := Nat.mul_le_mul_right m hi
      rw [Nat.succ_mul] at this; omega
    have e0 : (rowAt (some a) (i * m)).off + j = i * m + j := by simp [a1]
    have := Eff.storeS (X := X) (σ := σ) (L := L) (ty := ty) (T := T) (x := x) (y := y) (b := a.block) (o := i * m + j) vs hn (by rw [hx]; simp [a1]) hy hL hv hvl (by rw [Nat.ble_eq]; exact hle) h1 hput
    refine fun a' w ha hm o ho ht K Q hK => this a' w ha hm o ho ht K Q ?_
    rintro u L' w' rfl hm'
    refine hK u _ w' ⟨_, ⟨fun q hq => ?_, by simpa using o2, o3, a1, a2, sp, rfl, ?_⟩, rfl⟩ hm'
    · rcases List.mem_or_eq_of_mem_set hq with hq | rfl
      · exact o1 q hq
      · refine ⟨by rw [putAt_len (by omega)]; exact hlen, fun v hv => ?_⟩
        have hl1 := (o1 l (List.mem_of_getElem? hl)).2
        unfold putAt at hv
        simp only [List.mem_append] at hv
        rcases hv with (hv | hv) | hv
        · exact hl1 v (List.mem_of_mem_take hv)
        · exact List.all_eq_true.1 h1 v hv
        · exact hl1 v (List.mem_of_mem_drop hv)
    · rw [← hput, putAt_len (by rw [hvl]; exact hle)]
      exact a4
end

/-! ### parts of strings -/
section
variable {X : Cx} {σ : Loc} {L : Sh} {ty T : TypeId} {x y z : Operand}
/-- 's[l:h]' -/
theorem Yld.sliceStr {k k' : IntKind} {l h : Int} {s : ByteArray} (ht : X.P.underlying T = some .string) (hx : ev σ x = some (.string s)) (hy : ev σ y = some (.int k l)) (hz : ev σ z = some (.int k' h)) (h0 : 0 ≤ l) (h1 : l ≤ h) (h2 : h ≤ s.size) :
    Yld X (.slice T x (some y) (some z) none) ty σ L (.string (s.extract l.toNat h.toNat)) :=
  Yld.of (fun ρ => Instr.sliceAt T (ρ x) (some (ρ y)) (some (ρ z)) none) (fun ρ o ho => by simp [execOp, ho]) fun a w ha hmem => by
    rw [ha.ev hx, ha.ev hy, ha.ev hz]
    simp only [Instr.sliceAt, Sem.run_bind, run_underlying ht, Result.andThen_ok, Instr.slice, Instr.sliceBounds, Sem.run_pure, Option.isSome_none, Bool.false_eq_true, if_false, run_sliceB _ (show 0 ≤ h by omega) h2]
    simp [run_sliceB (y := h.toNat) _ h0 (show l ≤ (h.toNat : Int) by omega)]
end
end Go.Proofs.YtnakhfmnchmhjaaGreat.SL
/-
  Loops and cuts that keep what they do not touch: the kept slots and pieces need not be named.
-/
namespace Go.Proofs.YtnakhfmnchmhjaaGreat.SL
set_option linter.unusedVariables false
open Go.RowKit

theorem lk_append {α : Type} : ∀ (a b : List (Nat × α)) (i : Nat) (v : α), lk (a ++ b) i = some v → lk a i = some v ∨ (lk a i = none ∧ lk b i = some v)
  | [], b, i, v, h => .inr ⟨rfl, h⟩
  | (k, u) :: a, b, i, v, h => by
    rw [List.cons_append, lk_cons] at h
    rw [lk_cons]
    split at h
    · rename_i e; subst e; exact .inl (by simpa using h)
    · rename_i e
      rcases lk_append a b i v h with h1 | h1
      · exact .inl (by rw [if_neg e]; exact h1)
      · exact .inr ⟨by rw [if_neg e]; exact h1.1, h1.2⟩

theorem AF.app {n : Nat} {σ l m : Loc} {a : Act} (h : AF n σ a) (hl : Keep σ l) (hm : Keep σ m) : AF n (l ++ m) a :=
  ⟨h.1, h.2.1, fun i v hv => (lk_append l m i v hv).elim (fun h1 => h.2.2 i v (hl.lk i v h1)) (fun h1 => h.2.2 i v (hm.lk i v h1.2))⟩
theorem Mem.app {E : Env} {L l m : Sh} {w : World} (h : Mem E L w) (hl : Keep L l) (hm : Keep L m) : Mem E (l ++ m) w :=
  h.weak fun c H hc => (lk_append l m c H hc).elim (fun h1 => hl.lk c H h1) (fun h1 => hm.lk c H h1.2)

section
variable {X : Cx} {Q : Exit → Act → World → Prop} {σ : Loc} {L : Sh}
theorem W.loopK {ι : Type} {c : Code} (I : ι → Prop) (S : ι → Loc) (M : ι → Sh) (μ : ι → Nat) {l : Loc} {m : Sh} (hl : Keep σ l) (hm : Keep L m) (i0 : ι) (h0 : I i0) (hS : Keep σ (S i0)) (hM : Keep L (M i0))
    (h : ∀ i, I i → W X c (Exit.then (fun a w => ∃ j, (I j ∧ μ j < μ i) ∧ AF X.n (S j ++ l) a ∧ Mem X.E (M j ++ m) w) Q) (S i ++ l) (M i ++ m)) : W X (.loop c) Q σ L := fun a w ha hmm => by
  refine wp_loop_ghost (fun k a w => ∃ i, I i ∧ μ i = k ∧ AF X.n (S i ++ l) a ∧ Mem X.E (M i ++ m) w) (μ i0) ⟨i0, h0, rfl, ha.app hS hl, hmm.app hM hm⟩ ?_
  rintro k a w ⟨i, hi, rfl, ha, hm⟩
  refine wp_mono (h i hi a w ha hm) ?_
  intro e a' w' hq
  cases e with
  | normal => obtain ⟨j, ⟨hj, hlt⟩, ha', hm'⟩ := hq; exact ⟨μ j, hlt, j, hj, rfl, ha', hm'⟩
  | _ => exact hq

theorem N.famK {ι : Type} {I : ι → Prop} {S : ι → Loc} {M : ι → Sh} {l : Loc} {m : Sh} (i : ι) (hi : I i) (hS : Keep σ (S i)) (hl : Keep σ l) (hM : Keep L (M i)) (hm : Keep L m) :
    N X (Exit.then (fun a w => ∃ i, I i ∧ AF X.n (S i ++ l) a ∧ Mem X.E (M i ++ m) w) Q) .normal σ L := fun _ _ ha hmm => ⟨i, hi, ha.app hS hl, hmm.app hM hm⟩

theorem W.cutK {ι : Type} {x y : Code} (I : ι → Prop) (S : ι → Loc) (M : ι → Sh) {l : Loc} {m : Sh} (hl : Keep σ l) (hm : Keep L m)
    (h : W X x (Exit.then (fun a w => ∃ i, I i ∧ AF X.n (S i ++ l) a ∧ Mem X.E (M i ++ m) w) Q) σ L)
    (hy : ∀ i, I i → W X y Q (S i ++ l) (M i ++ m)) : W X (.seq x y) Q σ L := fun a w ha hmm => by
  refine wp_seq (wp_mono (h a w ha hmm) ?_)
  intro e a' w' hq
  cases e with
  | normal => obtain ⟨i, hi, ha', hm'⟩ := hq; exact hy i hi a' w' ha' hm'
  | _ => exact hq

theorem BS.keep {ops : Array Oper} {i : Nat} {K : Loc → Sh → Prop} {σ' : Loc} {L' : Sh} (hσ : Keep σ σ') (hL : Keep L L') (h : BS X ops Q i K σ' L') : BS X ops Q i K σ L := fun a w ha hm => h a w (ha.keep hσ) (hm.keep hL)
theorem bput_self {D : Nat → Bool} {i : Nat} : bput D i i = true := by unfold bput; rw [Nat.beq_refl]; rfl
theorem bput_ne {D : Nat → Bool} {i j : Nat} (h : j ≠ i) : bput D i j = D j := by
  unfold bput
  cases h2 : Nat.beq j i with
  | true => exact absurd (Nat.eq_of_beq_eq_true h2) h
  | false => rfl
theorem DL.bagK {ι : Type} {ops : Array Oper} {Ls : Sh} {p : Plan} {B : List (Nat × List Nat)} (I : (Nat → Bool) → ι → Prop) (S : ι → Loc) (M : ι → Sh) {l : Loc} {m : Sh} (hl : Keep σ l) (hm : Keep L m) (x0 : ι) (h0 : ∀ D, (∀ t ∈ B, D t.1 = false) → I D x0) (hS : Keep σ (S x0)) (hM : Keep L (M x0))
    (hLs : ∀ x, Keep (M x ++ m) Ls)
    (hs : ∀ t ∈ B, ∀ D x, I D x → D t.1 = false → (∀ j ∈ t.2, D j = true) → BS X ops Q t.1 (fun σ' L' => ∃ x', I (bput D t.1) x' ∧ Keep σ' (S x') ∧ Keep σ' l ∧ Keep L' (M x') ∧ Keep L' m) (S x ++ l) (M x ++ m))
    (he : ∀ D x, I D x → (∀ t ∈ B, D t.1 = true) → DL X ops Q Ls p (S x ++ l) (M x ++ m)) : DL X ops Q Ls (.bag B p) σ L := fun a w ha hmm _ =>
  ⟨fun D a w => ∃ x, I D x ∧ AF X.n (S x ++ l) a ∧ Mem X.E (M x ++ m) w, fun D hD => ⟨x0, h0 D hD, ha.app hS hl, hmm.app hM hm⟩,
    fun D a w ⟨x, hx, ha, hm⟩ t ht hD hj => wpOp_mono (fun a' w' ⟨σ', L', ⟨x', hx', k1, k2, k3, k4⟩, ha', hm'⟩ => ⟨(hm'.app k3 k4).keep (hLs x'), x', hx', ha'.app k1 k2, hm'.app k3 k4⟩) (hs t ht D x hx hD hj a w ha hm),
    fun D a w ⟨x, hx, ha, hm⟩ hD => he D x hx hD a w ha hm (hm.keep (hLs x))⟩
/-- a part of an element, of several cells -/
theorem Yld.loadRowP {ty T : TypeId} {x : Operand} {c m i j n : Nat} {p : Option Addr} {cl : Nat} {H : PH} {ls : List (List Value)} {l vs : List Value} {d : TypeDesc} (hT : X.P.underlying T = some d) (hd : aggD d = true) (hn : sz X.P T n) (hx : ev σ x = some (.pointer (some ⟨(rowAt p (i * m)).block, (rowAt p (i * m)).off + j, none⟩))) (hL : lk L cl = some H)
    (hS : Sl H p c m ls) (hl : ls[i]? = some l) (hv : (l.drop j).take n = vs) (hvn : vs.length = n) : Yld X (.load T x) ty σ L (.agg vs.toArray) := by
  obtain ⟨a, rfl, hr⟩ := hS.row (i := i) (List.getElem?_eq_some_iff.1 hl).1
  refine Yld.load hx hL fun w hs => run_loadVarA hT hd hn hvn fun k u hk => ?_
  subst hv
  rw [List.getElem?_take] at hk
  split at hk
  · rw [List.getElem?_drop] at hk
    have := hr.cell hl hs hk
    simpa [Nat.add_assoc] using this
  · cases hk
end
end Go.Proofs.YtnakhfmnchmhjaaGreat.SL
/-
  More of slices that one owns: the head of one, 'clear' of its tail, 'append' of zero values to a nil slice.
-/
namespace Go.Proofs.YtnakhfmnchmhjaaGreat.SL
set_option linter.unusedVariables false
open Go.RowKit

theorem Own.take {H : PH} {p : Option Addr} {c e n : Nat} {ls : List (List Value)} (h : Own H p c e n ls) (k : Nat) : Own H p c e n (ls.take k) := by
  obtain ⟨h1, h2, h3, h4⟩ := h
  refine ⟨fun l hl => h1 l (List.mem_of_mem_take hl), by rw [List.length_take]; omega, h3, ?_⟩
  cases p with
  | none => obtain ⟨rfl, rfl, rfl⟩ := h4; exact ⟨by simp, rfl, rfl⟩
  | some a =>
    obtain ⟨h5, h6, sp, rfl, h7⟩ := h4
    refine ⟨h5, h6, (ls.drop k).flatten ++ sp, ?_, ?_⟩
    · rw [← List.append_assoc, ← List.flatten_append, List.take_append_drop]
    · rw [← List.append_assoc, ← List.flatten_append, List.take_append_drop]; exact h7

theorem zeroCells_rep {zs : List Value} {z : Value} (hz : z.cells = zs.toArray) (k : Nat) : (Builtin.zeroCells z.cells k).toList = (List.replicate k zs).flatten := by
  have hget : ∀ (k i : Nat), i < k * zs.length → (List.replicate k zs).flatten[i]? = zs[i % zs.length]? := by
    intro k
    induction k with
    | zero => intro i hi; simp at hi
    | succ k ih =>
      intro i hi
      rw [List.replicate_succ, List.flatten_cons]
      by_cases hin : i < zs.length
      · rw [List.getElem?_append_left (by omega), Nat.mod_eq_of_lt hin]
      · rw [List.getElem?_append_right (by omega), ih (i - zs.length) (by rw [Nat.succ_mul] at hi; omega)]
        congr 1
        rw [← Nat.mod_eq_sub_mod (by omega)]
  apply List.ext_getElem?
  intro i
  unfold Builtin.zeroCells
  rw [hz]
  by_cases hi : i < k * zs.length
  · have hn0 : 0 < zs.length := by rcases Nat.eq_zero_or_pos zs.length with h | h; · rw [h] at hi; simp at hi
                                   · exact h
    rw [hget k i hi, List.getElem?_eq_getElem (Nat.mod_lt _ hn0)]
    simp [hi, Nat.mod_lt _ hn0]
  · rw [List.getElem?_eq_none (by simp; omega), List.getElem?_eq_none (by simp; omega)]

section
variable {X : Cx} {σ : Loc} {L : Sh} {ty T : TypeId} {x y : Operand}

theorem Eff.clearOwn {e n tc k : Nat} {H : PH} {p q : Option Addr} {c c' m : Nat} {ls : List (List Value)} {zs : List Value} (ht : X.P.underlying T = some (.slice e)) (hz : zc X.P e zs) (hzl : zs.length = n) (hzo : zs.all (·.oneCell') = true)
    (hx : ev σ x = some (.slice q m c')) (hL : lk L tc = some H) (hO : Own H p c e n ls) (hk : k ≤ ls.length) (hq : q = subP p c k n) (hm : m = ls.length - k) :
    Eff X (.call { callee := .builtin .clear, args := #[x], argTypes := #[T] }) ty σ L (fun v L' => v = .tuple #[] ∧ ∃ H', Own H' p c e n (ls.take k) ∧ L' = (tc, H') :: L) := fun a w ha hmm o ho hty K Q hK => by
  subst hq; subst hm
  have run : ∃ w' H', (Builtin.clear_ #[T] ty #[.slice (subP p c k n) (ls.length - k) c']).run X.P w = .ok (.tuple #[]) w' ∧ Own H' p c e n (ls.take k) ∧ Mem X.E ((tc, H') :: L) w' := by
    by_cases hkl : ls.length = k
    · refine ⟨w, H, ?_, hO.take k, hmm.weak fun i J h => ?_⟩
      · rw [show ls.length - k = 0 by omega]
        cases hs : subP p c k n <;> simp [Builtin.clear_, run_underlying ht]
      · rw [lk_cons] at h
        split at h
        · rename_i e'; cases h; rw [← e']; exact hL
        · exact h
    · have hO' := hO
      obtain ⟨h1, h2, h3, h4⟩ := hO
      cases p with
      | none => obtain ⟨rfl, _⟩ := h4; simp at hk hkl; omega
      | some pa =>
        obtain ⟨h5, h6, sp, rfl, h7⟩ := h4
        obtain ⟨b, po, ps⟩ := pa
        simp only at h5 h6 h7
        subst h5; subst h6
        have hsub : subP (some ⟨b, 0, none⟩) c k n = some ⟨b, k * n, none⟩ := by
          unfold subP
          rw [if_neg (by omega)]
          simp [Addr.add_lit]
        obtain ⟨z, hzc, hrun⟩ := hz.run
        have hfl := flatten_length (n := n) (ls := ls) fun l hl => (h1 l hl).1
        have hrl : ((List.replicate (ls.length - k) zs).flatten).length = (ls.length - k) * n := by simp [hzl]
        have hkn : k * n + (ls.length - k) * n = ls.length * n := by rw [← Nat.add_mul]; congr 1; omega
        obtain ⟨w', hr, hm'⟩ := hmm.putCells hL (b := b) (single_self _ _) (o := k * n) (vs := (List.replicate (ls.length - k) zs).flatten) (by rw [hrl, List.length_append, hfl]; omega)
          (by intro v hv; obtain ⟨l, hl, hvl⟩ := List.mem_flatten.1 hv; rw [List.eq_of_mem_replicate hl] at hvl; exact List.all_eq_true.1 hzo v hvl) X.P
        rw [pset_single] at hm'
        have hput : putAt (ls.flatten ++ sp) (k * n) (List.replicate (ls.length - k) zs).flatten = (ls.take k).flatten ++ ((List.replicate (ls.length - k) zs).flatten ++ sp) := by
          unfold putAt
          have htk : (ls.take k).flatten.length = k * n := by
            rw [flatten_length fun l hl => (h1 l (List.mem_of_mem_take hl)).1, List.length_take]; congr 1; omega
          have e1 : (ls.flatten ++ sp).take (k * n) = (ls.take k).flatten := by
            conv => lhs; rw [← List.take_append_drop k ls, List.flatten_append, List.append_assoc]
            rw [List.take_append_of_le_length (by omega), List.take_of_length_le (by omega)]
          have e2 : (ls.flatten ++ sp).drop (k * n + (List.replicate (ls.length - k) zs).flatten.length) = sp := by
            rw [hrl, hkn, ← hfl, List.drop_left]
          rw [e1, e2, List.append_assoc]
        refine ⟨w', _, ?_, ?_, hm'⟩
        · rw [hsub]
          obtain ⟨m, hm2⟩ : ∃ m, ls.length - k = m + 1 := ⟨ls.length - k - 1, by omega⟩
          have hzr := zeroCells_rep hzc (ls.length - k)
          rw [hm2] at hzr hr ⊢
          simp only [Builtin.clear_, Sem.run_bind, run_underlying ht, Result.andThen_ok, hrun w, Sem.run_pure, List.getElem?_toArray, List.getElem?_cons_zero]
          rw [hzr, hr]
          rfl
        · refine ⟨fun l hl => h1 l (List.mem_of_mem_take hl), by rw [List.length_take]; omega, h3, rfl, rfl, (List.replicate (ls.length - k) zs).flatten ++ sp, by rw [hput], ?_⟩
          rw [← hput, length_putAt (by rw [hrl, List.length_append, hfl]; omega)]
          exact h7
  obtain ⟨w', H', hr, hO', hm'⟩ := run
  unfold Oper.wp
  have : (execOp a.eval o).run X.P w = .ok (.value (.tuple #[])) w' := by
    simp only [execOp, ho, resolve, Sem.run_bind, Sem.run_pure, Result.andThen_ok, invoke, builtin, eval1 hx a ha, hty]
    rw [hr]; rfl
  rw [this]
  exact hK _ _ w' ⟨rfl, H', hO', rfl⟩ hm'

/-- 'append(nil, make([]T, n)...)' -/
theorem Eff.appendZ {e n by_ : Nat} (tc : Nat) {Tn : TypeId} {kn k : IntKind} {m : Nat} {zs : List Value} (ht : X.P.underlying T = some (.slice e)) (htn : X.P.underlying Tn = some (.int kn)) (he : el X.P e n by_) (hz : zc X.P e zs) (hzo : zs.all (·.oneCell') = true) (hx : ev σ x = some (.slice none 0 0)) (hy : ev σ y = some (.int k (m : Nat)))
    (h0 : 0 < m) (hn : 0 < n) (hb : m * by_ ≤ 281474976710656) (hmax : m ≤ maxLen) :
    Eff X (.call { callee := .builtin .append, args := #[x, y], argTypes := #[T, Tn] }) ty σ L (fun v L' => ∃ H' p' c', v = .slice p' m c' ∧ Own H' p' c' e n (List.replicate m zs) ∧ L' = (tc, H') :: L) := fun a w ha hmm o ho hty K Q hK => by
  obtain ⟨i, z, hi, hz0, hz1, hz2, hz3⟩ := he
  obtain ⟨z', hzc, hrun'⟩ := hz.run
  have hzz : z' = z := by
    have := hrun' w
    simp [zeroValue, typeInfo, hi, hz0] at this
    exact this.symm
  subst hzz
  have hzl : zs.length = n := by have := hz2; rw [hzc] at this; simpa using this
  have hr := Go.Lib.run_append_nil_zeros (P := X.P) w T Tn ty e i z' k kn ht htn hi hz0 m h0 (by omega) (by simp only [maxLen] at hmax; omega) (by rw [hz3]; exact hb)
  have hge := grownCap_ge w m 0 e
  have hle := grownCap_le_maxLen w m 0 e hmax
  unfold Oper.wp
  have : (execOp a.eval o).run X.P w = .ok (.value (.slice (some ⟨w.heap.size, 0, none⟩) m (grownCap w m 0 e))) (w.drew.alloc (.cells (Builtin.zeroCells z'.cells m ++ Builtin.zeroCells z'.cells (grownCap w m 0 e - m)) e)) := by
    simp only [execOp, ho, resolve, Sem.run_bind, Sem.run_pure, Result.andThen_ok, invoke, builtin, eval2 hx hy a ha, hty]
    rw [hr]; rfl
  rw [this]
  have hcells : (Builtin.zeroCells z'.cells m ++ Builtin.zeroCells z'.cells (grownCap w m 0 e - m)) = ((List.replicate m zs).flatten ++ (List.replicate (grownCap w m 0 e - m) zs).flatten).toArray := by
    apply Array.ext'
    rw [Array.toList_append, zeroCells_rep hzc, zeroCells_rep hzc]
  rw [hcells]
  refine hK _ _ _ ⟨_, _, _, rfl, ⟨fun l hl => ?_, by simpa using hge, hle, rfl, rfl, (List.replicate (grownCap w m 0 e - m) zs).flatten, rfl, ?_⟩, rfl⟩ (hmm.drew.alloc tc _)
  · rw [List.eq_of_mem_replicate hl]
    exact ⟨hzl, List.all_eq_true.1 hzo⟩
  · rw [← List.flatten_append, List.replicate_append_replicate, show m + (grownCap w m 0 e - m) = grownCap w m 0 e by omega]
    simp [hzl]
end

/-- 'append' at rows that are encodings -/
theorem Eff.appendE {X : Cx} {σ : Loc} {L : Sh} {ty T : TypeId} {x y : Operand} {α : Type} (enc : α → List Value) {e n by_ tc sc : Nat} {p q : Option Addr} {c d len1 len2 : Nat} {H G : PH} {ls ms : List α} (ht : X.P.underlying T = some (.slice e)) (he : el X.P e n by_) (hx : ev σ x = some (.slice p len1 c)) (hy : ev σ y = some (.slice q len2 d))
    (hL : lk L tc = some H) (hG : lk L sc = some G) (hO : Own H p c e n (ls.map enc)) (hl1 : len1 = ls.length) (hS : Sl G q d n (ms.map enc)) (hl2 : len2 = ms.length) (h1 : ∀ a ∈ ms, ∀ v ∈ enc a, v.oneCell' = true) (hn : 0 < n) (hb : (ls.length + ms.length) * by_ ≤ 140737488355328) (hmax : ls.length + ms.length ≤ maxLen) :
    Eff X (.call { callee := .builtin .append, args := #[x, y], argTypes := #[T, T] }) ty σ L (fun v L' => ∃ H' p' c', v = .slice p' (ls ++ ms).length c' ∧ Own H' p' c' e n ((ls ++ ms).map enc) ∧ L' = (tc, H') :: L) := fun a w ha hm o ho hty K Q hK =>
  Eff.append (σ := σ) (tc := tc) (sc := sc) ht he hx hy hL hG hO (by simpa using hl1) hS (by simpa using hl2) (fun l hl v hv => by obtain ⟨a, ha, rfl⟩ := List.mem_map.1 hl; exact h1 a ha v hv) hn (by simpa using hb) (by simpa using hmax) a w ha hm o ho hty K Q
    fun v L' w' ⟨H', p', c', hv, hO', hL'⟩ hm' => hK v L' w' ⟨H', p', c', by rw [hv]; simp, by rw [List.map_append]; exact hO', hL'⟩ hm'

theorem BinV.eqlSN {P : Program} {T e : TypeId} {p : Option Addr} {n c : Nat} (h : P.underlying T = some (.slice e)) : BinV P .eql T (.slice p n c) (.slice none 0 0) (.bool p.isNone) := fun w r s => by
  rw [Sem.run_bind, eqGuard_at_slice]
  cases p with
  | none => simpa using Go.Lib.run_eql_slice_nil w T e none n c 0 0 h
  | some a => simpa using Go.Lib.run_eql_slice_nil w T e (some a) n c 0 0 h

/-! ### lists of integers -/
def iz (l : List Int) : List (List Value) := l.map fun z => [.int .i64 z]
@[simp] theorem iz_len (l : List Int) : (iz l).length = l.length := by simp [iz]
theorem iz_get {l : List Int} {i : Nat} {z : Int} (h : l[i]? = some z) : (iz l)[i]? = some [.int .i64 z] := by simp [iz, h]
theorem iz_at {l : List Int} {i : Nat} (h : i < l.length) : ∃ z, l[i]? = some z ∧ (iz l)[i]? = some [.int .i64 z] := ⟨l[i], List.getElem?_eq_getElem h, iz_get (List.getElem?_eq_getElem h)⟩
theorem iz_getD {l : List Int} {i : Nat} (h : i < l.length) : (iz l)[i]? = some [.int .i64 (l.getD i 0)] := iz_get (by rw [List.getD_eq_getElem?_getD, List.getElem?_eq_getElem h]; rfl)
theorem iz_none {b e : Nat} {cs : List Value} (hcs : cs = []) : Own (single b (.cells cs.toArray e (0, 0))) (some ⟨b, 0, none⟩) 0 e 1 (iz []) := Own.none0 hcs
theorem iz_single {b e : Nat} {z : Int} {cs : List Value} (hcs : cs = [.int .i64 z]) : Sl (single b (.cells cs.toArray e (0, 0))) (some ⟨b, 0, none⟩) 1 1 (iz [z]) := (Own.one (l := [Value.int .i64 z]) rfl (by simp [Value.oneCell']) hcs).sl
theorem iz_one1 : ∀ (l : List Int), ∀ a ∈ l, ∀ v ∈ [Value.int .i64 a], v.oneCell' = true := fun l a _ v hv => by simp only [List.mem_singleton] at hv; subst hv; rfl
theorem iz_app (l m : List Int) : iz (l ++ m) = iz l ++ iz m := by simp [iz]
theorem iz_take (l : List Int) (k : Nat) : iz (l.take k) = (iz l).take k := by simp [iz, List.map_take]
theorem iz_drop (l : List Int) (k : Nat) : iz (l.drop k) = (iz l).drop k := by simp [iz, List.map_drop]
theorem iz_set (l : List Int) (k : Nat) (z : Int) : iz (l.set k z) = (iz l).set k [.int .i64 z] := by simp [iz, List.map_set]
theorem iz_one (l : List Int) : ∀ r ∈ iz l, ∀ v ∈ r, v.oneCell' = true := by
  intro r hr v hv
  obtain ⟨z, _, rfl⟩ := List.mem_map.1 hr
  simp only [List.mem_singleton] at hv
  subst hv; rfl
end Go.Proofs.YtnakhfmnchmhjaaGreat.SL
/-
  The library's sort, met by its contract of the kit, in the terms of the small separation logic.
-/
namespace Go.Proofs.YtnakhfmnchmhjaaGreat.SL
set_option linter.unusedVariables false
open Go.RowKit Go.Sort

theorem flat_one {α : Type} (enc : α → Value) (l : List α) : (l.map fun a => [enc a]).flatten = l.map enc := by
  induction l with
  | nil => rfl
  | cons a l ih => simp [ih]

theorem sortCells {α : Type} [Inhabited α] (enc : α → Value) (l m : List α) (sp : List Value) (h : m.length = l.length) : putCells enc 0 m.toArray ((l.map fun a => [enc a]).flatten ++ sp).toArray = ((m.map fun a => [enc a]).flatten ++ sp).toArray := by
  rw [flat_one, flat_one]
  apply Array.ext
  · simp [putCells, h]
  · intro i h1 h2
    simp only [putCells, Array.getElem_mapIdx, List.size_toArray, Nat.zero_add, Nat.zero_le, true_and, Nat.sub_zero, List.getElem_toArray]
    by_cases hi : i < m.length
    · rw [if_pos hi, List.getElem_append_left (by simpa using hi)]
      simp [hi]
    · rw [if_neg hi, List.getElem_append_right (by simp; omega), List.getElem_append_right (by simp; omega)]
      simp [h]

theorem sort_ct_of {α : Type} [Inhabited α] {P : Program} {f : FuncId} (enc : α → Value) (srt : List α → List α) (hlen : ∀ l, (srt l).length = l.length) (h1c : ∀ a, (enc a).oneCell' = true)
    (h1 : ∀ (blk off cap : Nat) (zs : List α) (w : World), Holds enc w blk off zs.toArray → blk < w.heap.size → zs.length < 4611686018427387904 → Calls P f #[.slice (some ⟨blk, off, none⟩) zs.length cap] w fun e w' =>
      e = .returned (.tuple #[]) ∧ ∃ n os, w' = grow (putRow enc (Sort.ahead w n) blk off (srt zs).toArray) os)
    (h0 : ∀ (p : Option Addr) (cap : Nat) (w : World), Calls P f #[.slice p 0 cap] w fun e w' => e = .returned (.tuple #[]) ∧ w' = w)
    {H : PH} {p : Option Addr} {c e : Nat} {l : List α} (hO : Own H p c e 1 (l.map fun a => [enc a])) (hbig : l.length < 4611686018427387904) :
    Ct P f [.slice p l.length c] [H] (fun v Hs => v = .tuple #[] ∧ ∃ H', Own H' p c e 1 ((srt l).map fun a => [enc a]) ∧ Hs = [H']) := fun E F w hm => by
  obtain ⟨g1, g2, g3, g4⟩ := hO
  cases p with
  | none =>
    obtain ⟨hl, rfl, rfl⟩ := g4
    have hl0 : l = [] := List.map_eq_nil_iff.1 hl
    subst hl0
    have hs : srt [] = [] := List.length_eq_zero_iff.1 (by rw [hlen]; rfl)
    refine (h0 none 0 w).mono ?_
    rintro e w' ⟨rfl, rfl⟩
    exact ⟨_, _, rfl, ⟨rfl, emp, by rw [hs]; exact Own.nil _ _, rfl⟩, hm⟩
  | some a =>
    obtain ⟨b, o, s⟩ := a
    obtain ⟨g5, g6, sp, rfl, g7⟩ := g4
    simp only at g5 g6 g7
    subst g5; subst g6
    have hb : w.heap[b]? = some (.cells ((l.map fun a => [enc a]).flatten ++ sp).toArray e (0, 0)) := hm.sub 1 _ rfl b _ (single_self _ _)
    have hcell : ∀ o, w.cell? ⟨b, o, none⟩ = ((l.map fun a => [enc a]).flatten ++ sp)[o]? := fun o => by simp [World.cell?, hb]
    refine (h1 b 0 c l w (fun j hj => ⟨?_, ?_⟩) (Array.getElem?_eq_some_iff.1 hb).1 ?_).mono ?_
    · have hj' : j < l.length := by simpa using hj
      rw [hcell, Nat.zero_add, flat_one, List.getElem?_append_left (by simpa using hj')]
      simp [hj']
    · simp [World.frozen?, hb]
    · exact hbig
    · rintro e' w' ⟨rfl, n, os, rfl⟩
      have hlt := (Array.getElem?_eq_some_iff.1 hb).1
      have hnew : (grow (putRow enc (Sort.ahead w n) b 0 (srt l).toArray) os).heap[b]? = some (.cells (((srt l).map fun a => [enc a]).flatten ++ sp).toArray e (0, 0)) := by
        have hsz : b < (putRow enc (Sort.ahead w n) b 0 (srt l).toArray).heap.size := by simpa [putRow, mapBlock, Sort.ahead] using hlt
        simp only [grow, Array.getElem?_append_left hsz]
        simp only [putRow, mapBlock, Sort.ahead, Array.getElem?_modify, if_true, hb, Option.map_some, onCells]
        rw [sortCells enc l (srt l) sp (hlen l)]
      have hm' := hm.set (w' := grow (putRow enc (Sort.ahead w n) b 0 (srt l).toArray) os) 1 (G := single b (.cells ((l.map fun a => [enc a]).flatten ++ sp).toArray e (0, 0))) (H := single b (.cells (((srt l).map fun a => [enc a]).flatten ++ sp).toArray e (0, 0))) (.inl rfl)
        ⟨rfl, rfl, by simp [grow, putRow, mapBlock, Sort.ahead], fun k hk hD => by
          have hkb : k ≠ b := fun e => hD ⟨_, by rw [e]; exact single_self _ _⟩
          have hsz : k < (putRow enc (Sort.ahead w n) b 0 (srt l).toArray).heap.size := by simpa [putRow, mapBlock, Sort.ahead] using hk
          simp only [grow, Array.getElem?_append_left hsz]
          simp only [putRow, mapBlock, Sort.ahead, Array.getElem?_modify]
          rw [if_neg (fun e => hkb e.symm)]⟩
        (fun k x hk => by obtain ⟨rfl, rfl⟩ := single_inv hk; exact hnew)
        (fun k x hk => by obtain ⟨rfl, rfl⟩ := single_inv hk; exact .inl ⟨_, single_self _ _⟩)
      refine ⟨_, _, rfl, ⟨rfl, _, ⟨fun r hr => ?_, ?_, g3, rfl, rfl, sp, rfl, ?_⟩, rfl⟩, hm'.weak fun i J h => ?_⟩
      · obtain ⟨z, _, rfl⟩ := List.mem_map.1 hr
        exact ⟨rfl, fun v hv => by simp only [List.mem_singleton] at hv; subst hv; exact h1c z⟩
      · rw [List.length_map, hlen]; simpa using g2
      · rw [flat_one] at g7 ⊢
        simpa [hlen] using g7
      · unfold lab lab at h
        simp only [lk_cons] at h ⊢
        split at h
        · rename_i e0; subst e0; cases h; simp
        · split at h
          · rename_i e0 e1; subst e1; cases h; simp
          · cases h
end Go.Proofs.YtnakhfmnchmhjaaGreat.SL
