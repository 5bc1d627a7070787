/-
  Maps: a piece that is one map block; its content is a list of pairs, in the block's own order.
-/
import Derived.Test.YtbgppnkccbhbpaaSlData
import Derived.MapKept
import Derived.ChangeMaps4
namespace Go.Proofs.Ytbgppnkccbhbpaa.SL
set_option linter.unusedVariables false
set_option linter.unusedSectionVars false
open Go.RowKit

section
variable {κ : Type} [DecidableEq κ]
def mget : List (κ × Value) → κ → Option Value
  | [], _ => none
  | (a, v) :: r, k => if a = k then some v else mget r k
def midx : List (κ × Value) → κ → Nat
  | [], _ => 0
  | (a, _) :: r, k => if a = k then 0 else midx r k + 1
def mset : List (κ × Value) → κ → Value → List (κ × Value)
  | [], k, v => [(k, v)]
  | (a, b) :: r, k, v => if a = k then (k, v) :: r else (a, b) :: mset r k v
def mdel : List (κ × Value) → κ → List (κ × Value)
  | [], _ => []
  | (a, b) :: r, k => if a = k then r else (a, b) :: mdel r k

theorem mget_none_iff {m : List (κ × Value)} {k : κ} : mget m k = none ↔ ∀ p ∈ m, p.1 ≠ k := by
  induction m with
  | nil => simp [mget]
  | cons p r ih => obtain ⟨a, v⟩ := p; by_cases h : a = k <;> simp [mget, h, ih]
theorem mget_mset (m : List (κ × Value)) (k k' : κ) (v : Value) : mget (mset m k v) k' = if k = k' then some v else mget m k' := by
  induction m with
  | nil => simp [mset, mget]
  | cons p r ih =>
    obtain ⟨a, b⟩ := p
    by_cases h : a = k
    · subst h; by_cases h' : a = k' <;> simp [mset, mget, h']
    · by_cases h' : a = k'
      · subst h'; simp [mset, mget, h, Ne.symm h]
      · simp [mset, mget, h, h', ih]
theorem mget_mem {m : List (κ × Value)} {k : κ} {v : Value} (h : mget m k = some v) : (k, v) ∈ m := by
  induction m with
  | nil => simp [mget] at h
  | cons p r ih =>
    obtain ⟨a, b⟩ := p
    unfold mget at h
    split at h
    · rename_i e; subst e; cases h; simp
    · exact List.mem_cons_of_mem _ (ih h)
theorem mget_mdel {m : List (κ × Value)} (hn : (m.map (·.1)).Nodup) (k k' : κ) : mget (mdel m k) k' = if k = k' then none else mget m k' := by
  induction m with
  | nil => simp [mdel, mget]
  | cons p r ih =>
    obtain ⟨a, b⟩ := p
    simp only [List.map_cons, List.nodup_cons] at hn
    by_cases h : a = k
    · subst h
      by_cases h' : a = k'
      · subst h'
        simp only [mdel, if_true]
        exact mget_none_iff.2 fun p hp e => hn.1 (List.mem_map.2 ⟨p, hp, e⟩)
      · simp [mdel, mget, h']
    · by_cases h' : a = k'
      · subst h'; simp [mdel, mget, h, Ne.symm h]
      · simp [mdel, mget, h, h', ih hn.2]
theorem midx_lt {m : List (κ × Value)} {k : κ} {v : Value} (h : mget m k = some v) : midx m k < m.length := by
  induction m with
  | nil => simp [mget] at h
  | cons p r ih =>
    obtain ⟨a, b⟩ := p
    unfold mget at h
    unfold midx
    split
    · simp
    · rename_i hne; rw [if_neg hne] at h; have := ih h; simp; omega
theorem mset_some {m : List (κ × Value)} {k : κ} {u : Value} (h : mget m k = some u) (v : Value) : mset m k v = m.set (midx m k) (k, v) := by
  induction m with
  | nil => simp [mget] at h
  | cons p r ih =>
    obtain ⟨a, b⟩ := p
    unfold mget at h
    unfold mset midx
    split
    · rfl
    · rename_i hne; rw [if_neg hne] at h; simp [ih h]
theorem mset_none {m : List (κ × Value)} {k : κ} (h : mget m k = none) (v : Value) : mset m k v = m ++ [(k, v)] := by
  induction m with
  | nil => rfl
  | cons p r ih =>
    obtain ⟨a, b⟩ := p
    unfold mget at h
    unfold mset
    split at h
    · cases h
    · rename_i hne; rw [if_neg hne]; simp [ih h]
theorem mdel_some {m : List (κ × Value)} {k : κ} {u : Value} (h : mget m k = some u) : mdel m k = m.eraseIdx (midx m k) := by
  induction m with
  | nil => simp [mget] at h
  | cons p r ih =>
    obtain ⟨a, b⟩ := p
    unfold mget at h
    unfold mdel midx
    split
    · rfl
    · rename_i hne; rw [if_neg hne] at h; simp [ih h]
theorem mdel_none {m : List (κ × Value)} {k : κ} (h : mget m k = none) : mdel m k = m := by
  induction m with
  | nil => rfl
  | cons p r ih =>
    obtain ⟨a, b⟩ := p
    unfold mget at h
    unfold mdel
    split at h
    · cases h
    · rename_i hne; rw [if_neg hne, ih h]
theorem midx_get {m : List (κ × Value)} {k : κ} {u : Value} (h : mget m k = some u) : m[midx m k]? = some (k, u) := by
  induction m with
  | nil => simp [mget] at h
  | cons p r ih =>
    obtain ⟨a, b⟩ := p
    unfold mget at h
    unfold midx
    split
    · rename_i e; rw [if_pos e] at h; cases h; simp [e]
    · rename_i hne; rw [if_neg hne] at h; simpa using ih h
theorem nodup_mset {m : List (κ × Value)} (hn : (m.map (·.1)).Nodup) (k : κ) (v : Value) : ((mset m k v).map (·.1)).Nodup := by
  cases h : mget m k with
  | none =>
    rw [mset_none h, List.map_append, List.nodup_append]
    refine ⟨hn, by simp, ?_⟩
    intro a ha b hb e
    simp at hb; subst hb; subst e
    obtain ⟨p, hp, rfl⟩ := List.mem_map.1 ha
    exact mget_none_iff.1 h p hp rfl
  | some u =>
    have e : (mset m k v).map (·.1) = m.map (·.1) := by
      rw [mset_some h, List.map_set]
      have := midx_get h
      apply List.ext_getElem?
      intro i
      rw [List.getElem?_set]
      split
      · rename_i hi; subst hi; split
        · simp [this]
        · rename_i hlt; simp at hlt; simp [List.getElem?_eq_none hlt]
      · rfl
    rw [e]; exact hn
theorem nodup_mdel {m : List (κ × Value)} (hn : (m.map (·.1)).Nodup) (k : κ) : ((mdel m k).map (·.1)).Nodup := by
  cases h : mget m k with
  | none => rw [mdel_none h]; exact hn
  | some u => rw [mdel_some h]; exact hn.sublist ((List.eraseIdx_sublist _ _).map _)

/-- the block's entries, in their order, are the pairs of m -/
structure MapP (enc : κ → Value) (es : Array MapEntry) (clock : Nat) (m : List (κ × Value)) : Prop where
  eq : es.toList.map (fun e => (e.key, e.val)) = m.map (fun p => (enc p.1, p.2))
  born : (es.toList.map (·.born)).Nodup
  clock : ∀ e ∈ es.toList, e.born < clock
  nodup : (m.map (·.1)).Nodup

theorem MapP.empty (enc : κ → Value) : MapP enc #[] 0 [] := ⟨rfl, by simp, by simp, by simp⟩

theorem MapP.length {enc : κ → Value} {es : Array MapEntry} {clock : Nat} {m : List (κ × Value)} (h : MapP enc es clock m) : es.size = m.length := by
  have := congrArg List.length h.eq; simpa using this

/-- what is asked of a type of keys -/
structure KeyOK (P : Program) (kt : TypeId) (enc : κ → Value) : Prop where
  find : ∀ (k : κ) (es : List MapEntry) (m : List (κ × Value)) (w : World), es.map (fun e => (e.key, e.val)) = m.map (fun p => (enc p.1, p.2)) → (Instr.findKey kt (enc k) es).run P w = .ok ((mget m k).map fun v => (midx m k, v)) w
  check : ∀ (b : Bool) (k : κ) (w : World), (Instr.checkKey b 10000 kt (enc k)).run P w = .ok () w
  same : ∀ k, Instr.sameBits 10000 (enc k) (enc k) = true

theorem findNow_run {kind : TypeDesc} {enc : κ → Value} (hs : ∀ a b, Instr.sameNow kind (enc a) (enc b) = some (decide (b = a))) (k : κ) : ∀ (es : List MapEntry) (m : List (κ × Value)) (i : Nat), es.map (fun e => (e.key, e.val)) = m.map (fun p => (enc p.1, p.2)) →
    Instr.findNow kind (enc k) es i = some ((mget m k).map fun v => (i + midx m k, v))
  | [], [], i, _ => rfl
  | [], _ :: _, _, h => by simp at h
  | _ :: _, [], _, h => by simp at h
  | e :: es, (a, v) :: m, i, h => by
    simp only [List.map_cons, List.cons.injEq, Prod.mk.injEq] at h
    obtain ⟨⟨h1, h2⟩, h3⟩ := h
    unfold Instr.findNow
    rw [h1, hs]
    by_cases hk : a = k
    · subst hk; simp [mget, midx, h2]
    · have := findNow_run hs k es m (i + 1) h3
      simp only [hk, decide_false, this]
      simp only [mget, midx, if_neg hk, Option.some.injEq]
      congr 1
      funext x
      congr 1
      omega

theorem KeyOK.ofNow {P : Program} {kt : TypeId} {enc : κ → Value} {kind : TypeDesc} (hu : P.underlying kt = some kind) (hs : ∀ a b, Instr.sameNow kind (enc a) (enc b) = some (decide (b = a)))
    (hc : ∀ (b : Bool) (k : κ) (w : World), (Instr.checkKey b 10000 kt (enc k)).run P w = .ok () w) (hb : ∀ k, Instr.sameBits 10000 (enc k) (enc k) = true) : KeyOK P kt enc := by
  refine ⟨fun k es m w h => ?_, hc, hb⟩
  have := findNow_run hs k es m 0 h
  simp only [Instr.findKey, Sem.run_bind, run_underlying hu, Result.andThen_ok, this, Sem.run_pure]
  simp
end

theorem keyInt {P : Program} {kt : TypeId} {q : IntKind} (hu : P.underlying kt = some (.int q)) : KeyOK P kt (fun a : Int => Value.int q a) :=
  .ofNow hu (fun a b => by simp [Instr.sameNow, Bool.beq_eq_decide_eq, eq_comm]) (fun b k w => by rw [show (10000 : Nat) = 9999 + 1 from rfl, Instr.checkKey, Sem.run_bind, run_underlying hu]; rfl) (fun k => by simp [Instr.sameBits])
theorem keyString {P : Program} {kt : TypeId} (hu : P.underlying kt = some .string) : KeyOK P kt (fun s : ByteArray => Value.string s) :=
  .ofNow hu (fun a b => by
    simp only [Instr.sameNow, Option.some.injEq]
    rw [Bool.eq_iff_iff, MapKept.bytes_beq, decide_eq_true_eq]; exact eq_comm) (fun b k w => by rw [show (10000 : Nat) = 9999 + 1 from rfl, Instr.checkKey, Sem.run_bind, run_underlying hu]; rfl) (fun k => by unfold Instr.sameBits; exact (MapKept.bytes_beq k k).2 rfl)

section
variable {κ : Type} [DecidableEq κ] {X : Cx} {σ : Loc} {L : Sh} {ty T : TypeId} {x y z : Operand}

def zv (P : Program) (T : TypeId) (v : Value) : Prop := (P.info? T).bind (·.zero) = some v
theorem zv.run {P : Program} {v : Value} (h : zv P T v) (w : World) : (zeroValue T).run P w = .ok v w := by
  unfold zv at h
  cases hi : P.info? T with
  | none => rw [hi] at h; cases h
  | some i => rw [hi] at h; simp at h; simp [zeroValue, typeInfo, hi, h]

theorem run_getObj_map {P : Program} {w : World} {b : Nat} {es : Array MapEntry} {clock : Nat} (h : w.heap[b]? = some (.map es clock)) : (getObj b).run P w = .ok (.map es clock) w := by
  simp [getObj, Sem.run, h]
theorem run_setObj_map {P : Program} {w : World} {b : Nat} {es : Array MapEntry} {clock : Nat} (h : w.heap[b]? = some (.map es clock)) (o : Obj) : (setObj b o).run P w = .ok () { w with heap := w.heap.setIfInBounds b o } := by
  simp [setObj, Sem.run, h]

theorem Mem.setMap {E : Env} {L : Sh} {w : World} (hm : Mem E L w) {c b : Nat} {es : Array MapEntry} {clock : Nat} (hL : lk L c = some (single b (.map es clock))) (o : Obj) : Mem E ((c, single b o) :: L) { w with heap := w.heap.setIfInBounds b o } := by
  have hb := hm.sub c _ hL b _ (single_self _ _)
  refine hm.set c (.inl hL) ⟨rfl, rfl, by simp, fun k hk hD => ?_⟩ (fun k x hk => ?_) (fun k x hk => ?_)
  · have : b ≠ k := fun e => hD ⟨_, by rw [← e]; exact single_self _ _⟩
    simp [Array.getElem?_setIfInBounds_ne this]
  · obtain ⟨rfl, rfl⟩ := single_inv hk
    have := (Array.getElem?_eq_some_iff.1 hb).1
    simp [this]
  · obtain ⟨rfl, rfl⟩ := single_inv hk
    exact .inl ⟨_, single_self _ _⟩

/-- 'm[k]' -/
theorem Yld.lookup {kt e c b : Nat} {enc : κ → Value} {k : κ} {es : Array MapEntry} {clock : Nat} {m : List (κ × Value)} {zr : Value} (ht : X.P.underlying T = some (.map kt e)) (K : KeyOK X.P kt enc) (hz : zv X.P e zr) (hx : ev σ x = some (.map (some b))) (hy : ev σ y = some (enc k))
    (hL : lk L c = some (single b (.map es clock))) (hM : MapP enc es clock m) : Yld X (.lookup T x y false) ty σ L ((mget m k).getD zr) :=
  Yld.of (fun ρ => Instr.lookup T (ρ x) (ρ y) false) (fun ρ o ho => by simp [execOp, ho]) fun a w ha hm => by
    rw [ha.ev hx, ha.ev hy]
    have hb := hm.sub c _ hL b _ (single_self _ _)
    simp only [Instr.lookup, Sem.run_bind, run_underlying ht, Result.andThen_ok, run_getObj_map hb, Sem.run_pure, K.check, K.find k es.toList m w hM.eq]
    cases h : mget m k with
    | none => simp [hz.run w]
    | some v => simp
/-- 'v, ok := m[k]' -/
theorem Yld.lookupOk {kt e c b : Nat} {enc : κ → Value} {k : κ} {es : Array MapEntry} {clock : Nat} {m : List (κ × Value)} {zr : Value} (ht : X.P.underlying T = some (.map kt e)) (K : KeyOK X.P kt enc) (hz : zv X.P e zr) (hx : ev σ x = some (.map (some b))) (hy : ev σ y = some (enc k))
    (hL : lk L c = some (single b (.map es clock))) (hM : MapP enc es clock m) : Yld X (.lookup T x y true) ty σ L (.tuple [(mget m k).getD zr, .bool (mget m k).isSome].toArray) :=
  Yld.of (fun ρ => Instr.lookup T (ρ x) (ρ y) true) (fun ρ o ho => by simp [execOp, ho]) fun a w ha hm => by
    rw [ha.ev hx, ha.ev hy]
    have hb := hm.sub c _ hL b _ (single_self _ _)
    simp only [Instr.lookup, Sem.run_bind, run_underlying ht, Result.andThen_ok, run_getObj_map hb, Sem.run_pure, K.check, K.find k es.toList m w hM.eq]
    cases h : mget m k with
    | none => simp [hz.run w]
    | some v => simp
/-- .. of a nil map -/
theorem Yld.lookupNil {kt e : Nat} {enc : κ → Value} {k : κ} {zr : Value} (ht : X.P.underlying T = some (.map kt e)) (K : KeyOK X.P kt enc) (hz : zv X.P e zr) (hx : ev σ x = some (.map none)) (hy : ev σ y = some (enc k)) : Yld X (.lookup T x y false) ty σ L zr :=
  Yld.of (fun ρ => Instr.lookup T (ρ x) (ρ y) false) (fun ρ o ho => by simp [execOp, ho]) fun a w ha hm => by
    rw [ha.ev hx, ha.ev hy]
    have := K.find k [] [] w rfl
    simp only [Instr.lookup, Sem.run_bind, run_underlying ht, Result.andThen_ok, Sem.run_pure, K.check, this]
    simp [mget, hz.run w]

theorem MapP.put {enc : κ → Value} {es : Array MapEntry} {clock : Nat} {m : List (κ × Value)} (h : MapP enc es clock m) (k : κ) (v : Value) :
    (∀ u, mget m k = some u → MapP enc (es.modify (midx m k) fun e => { e with key := enc k, val := v }) clock (mset m k v)) ∧
    (mget m k = none → MapP enc (es.push { key := enc k, val := v, born := clock }) (clock + 1) (mset m k v)) := by
  refine ⟨fun u hu => ?_, fun hn => ?_⟩
  · refine ⟨?_, ?_, ?_, nodup_mset h.nodup k v⟩
    · rw [mset_some hu]
      apply List.ext_getElem?
      intro i
      have hi := congrArg (fun l => l[i]?) h.eq
      simp only [List.getElem?_map, Array.getElem?_toList] at hi
      simp only [List.getElem?_map, Array.getElem?_toList, Array.getElem?_modify, List.getElem?_set]
      have hlen := h.length
      split
      · rename_i e
        subst e
        have hlt := midx_lt hu
        rw [if_pos hlt]
        rw [Array.getElem?_eq_getElem (by omega)]
        simp
      · exact hi
    · have e : (es.modify (midx m k) fun e => { e with key := enc k, val := v }).toList.map (·.born) = es.toList.map (·.born) := by
        apply List.ext_getElem?
        intro i
        simp only [List.getElem?_map, Array.getElem?_toList, Array.getElem?_modify]
        split <;> cases es[i]? <;> simp
      rw [e]; exact h.born
    · intro e he
      rw [Array.mem_toList_iff] at he
      obtain ⟨i, hi, rfl⟩ := Array.getElem_of_mem he
      have hi' : i < es.size := by simpa using hi
      have hb := h.clock es[i] (by simp)
      rw [Array.getElem_modify]
      split <;> exact hb
  · refine ⟨?_, ?_, ?_, nodup_mset h.nodup k v⟩
    · rw [mset_none hn]; simp [h.eq]
    · simp only [Array.toList_push, List.map_append, List.map_cons, List.map_nil]
      rw [List.nodup_append]
      refine ⟨h.born, by simp, ?_⟩
      intro a ha b hb e
      simp at hb; subst hb; subst e
      obtain ⟨x, hx, he⟩ := List.mem_map.1 ha
      have := h.clock x hx
      omega
    · intro e he
      simp at he
      rcases he with he | rfl
      · have := h.clock e (by simpa using he); omega
      · simp

/-- 'm[k] = v' -/
theorem Eff.mapUpdate {kt e c b : Nat} {enc : κ → Value} {k : κ} {es : Array MapEntry} {clock : Nat} {m : List (κ × Value)} {v : Value} (ht : X.P.underlying T = some (.map kt e)) (K : KeyOK X.P kt enc) (hx : ev σ x = some (.map (some b))) (hy : ev σ y = some (enc k)) (hz : ev σ z = some v)
    (hL : lk L c = some (single b (.map es clock))) (hM : MapP enc es clock m) : Eff X (.mapUpdate T x y z) ty σ L (fun _ L' => ∃ es' clock', MapP enc es' clock' (mset m k v) ∧ L' = (c, single b (.map es' clock')) :: L) :=
  Eff.unit (fun ρ => Instr.mapUpdate T (ρ x) (ρ y) (ρ z)) (fun ρ o ho => by simp [execOp, ho]) fun a w ha hm => by
    rw [ha.ev hx, ha.ev hy, ha.ev hz]
    have hb := hm.sub c _ hL b _ (single_self _ _)
    obtain ⟨h1, h2⟩ := hM.put k v
    cases h : mget m k with
    | none =>
      refine ⟨_, _, ?_, ⟨_, _, h2 h, rfl⟩, hm.setMap hL _⟩
      simp only [Instr.mapUpdate, Sem.run_bind, run_underlying ht, Result.andThen_ok, run_getObj_map hb, K.check, K.find k es.toList m w hM.eq, h, Option.map_none, run_setObj_map hb]
    | some u =>
      refine ⟨_, _, ?_, ⟨_, _, h1 u h, rfl⟩, hm.setMap hL _⟩
      have hi := midx_get h
      have hkey : ((es[midx m k]?).map (·.key)).getD (enc k) = enc k := by
        have := congrArg (fun l => l[midx m k]?) hM.eq
        simp only [List.getElem?_map, Array.getElem?_toList, hi, Option.map_some] at this
        cases he : es[midx m k]? with
        | none => simp
        | some x => rw [he] at this; simp at this; simp [this.1]
      simp only [Instr.mapUpdate, Sem.run_bind, run_underlying ht, Result.andThen_ok, run_getObj_map hb, K.check, K.find k es.toList m w hM.eq, h, Option.map_some, hkey, Instr.keyThatStays, K.same, if_true, Sem.run_pure, run_setObj_map hb]

/-- an entry of a map's literal -/
theorem Eff.insert {kt e c b : Nat} {enc : κ → Value} {k : κ} {es : Array MapEntry} {clock : Nat} {m : List (κ × Value)} {v : Value} (ht : X.P.underlying T = some (.map kt e)) (K : KeyOK X.P kt enc) (hx : ev σ x = some (.map (some b))) (hy : ev σ y = some (enc k)) (hz : ev σ z = some v)
    (hL : lk L c = some (single b (.map es clock))) (hM : MapP enc es clock m) : Eff X (.insert T x y z) ty σ L (fun _ L' => ∃ es' clock', MapP enc es' clock' (mset m k v) ∧ L' = (c, single b (.map es' clock')) :: L) :=
  Eff.unit (fun ρ => Instr.mapUpdate T (ρ x) (ρ y) (ρ z)) (fun ρ o ho => by simp [execOp, ho]) fun a w ha hm => by
    rw [ha.ev hx, ha.ev hy, ha.ev hz]
    have hb := hm.sub c _ hL b _ (single_self _ _)
    obtain ⟨h1, h2⟩ := hM.put k v
    cases h : mget m k with
    | none =>
      refine ⟨_, _, ?_, ⟨_, _, h2 h, rfl⟩, hm.setMap hL _⟩
      simp only [Instr.mapUpdate, Sem.run_bind, run_underlying ht, Result.andThen_ok, run_getObj_map hb, K.check, K.find k es.toList m w hM.eq, h, Option.map_none, run_setObj_map hb]
    | some u =>
      refine ⟨_, _, ?_, ⟨_, _, h1 u h, rfl⟩, hm.setMap hL _⟩
      have hi := midx_get h
      have hkey : ((es[midx m k]?).map (·.key)).getD (enc k) = enc k := by
        have := congrArg (fun l => l[midx m k]?) hM.eq
        simp only [List.getElem?_map, Array.getElem?_toList, hi, Option.map_some] at this
        cases he : es[midx m k]? with
        | none => simp
        | some x => rw [he] at this; simp at this; simp [this.1]
      simp only [Instr.mapUpdate, Sem.run_bind, run_underlying ht, Result.andThen_ok, run_getObj_map hb, K.check, K.find k es.toList m w hM.eq, h, Option.map_some, hkey, Instr.keyThatStays, K.same, if_true, Sem.run_pure, run_setObj_map hb]

theorem MapP.del {enc : κ → Value} {es : Array MapEntry} {clock : Nat} {m : List (κ × Value)} (h : MapP enc es clock m) (k : κ) {u : Value} (hu : mget m k = some u) : MapP enc (es.eraseIdxIfInBounds (midx m k)) clock (mdel m k) := by
  have hlt : midx m k < es.size := by rw [h.length]; exact midx_lt hu
  have e : (es.eraseIdxIfInBounds (midx m k)).toList = es.toList.eraseIdx (midx m k) := by
    simp [Array.eraseIdxIfInBounds, hlt]
  refine ⟨?_, ?_, ?_, nodup_mdel h.nodup k⟩
  · rw [e, mdel_some hu, ChangeMaps.map_eraseIdx, ChangeMaps.map_eraseIdx, h.eq]
  · rw [e]; exact h.born.sublist ((List.eraseIdx_sublist _ _).map _)
  · intro x hx
    rw [e] at hx
    exact h.clock x ((List.eraseIdx_sublist _ _).subset hx)

/-- 'delete(m, k)' -/
theorem Eff.delete {kt e c b : Nat} {enc : κ → Value} {k : κ} {es : Array MapEntry} {clock : Nat} {m : List (κ × Value)} {t2 : TypeId} (ht : X.P.underlying T = some (.map kt e)) (K : KeyOK X.P kt enc) (hx : ev σ x = some (.map (some b))) (hy : ev σ y = some (enc k))
    (hL : lk L c = some (single b (.map es clock))) (hM : MapP enc es clock m) : Eff X (.call { callee := .builtin .delete, args := #[x, y], argTypes := #[T, t2] }) ty σ L (fun v L' => v = .tuple #[] ∧ ∃ es' clock', MapP enc es' clock' (mdel m k) ∧ L' = (c, single b (.map es' clock')) :: L) := fun a w ha hm o ho hty Kk Q hK => by
  have hb := hm.sub c _ hL b _ (single_self _ _)
  have hrun : ∃ w' es', (Builtin.delete_ #[T, t2] ty #[.map (some b), enc k]).run X.P w = .ok (.tuple #[]) w' ∧ MapP enc es' clock (mdel m k) ∧ Mem X.E ((c, single b (.map es' clock)) :: L) w' := by
    cases h : mget m k with
    | none =>
      refine ⟨_, es, ?_, by rw [mdel_none h]; exact hM, hm.setMap hL _⟩
      simp only [Builtin.delete_, List.getElem?_toArray, List.getElem?_cons_zero, List.getElem?_cons_succ, Sem.run_bind, run_underlying ht, Result.andThen_ok, run_getObj_map hb, K.check, K.find k es.toList m w hM.eq, h, Option.map_none, run_setObj_map hb, Sem.run_pure]
    | some u =>
      refine ⟨_, _, ?_, hM.del k h, hm.setMap hL _⟩
      simp only [Builtin.delete_, List.getElem?_toArray, List.getElem?_cons_zero, List.getElem?_cons_succ, Sem.run_bind, run_underlying ht, Result.andThen_ok, run_getObj_map hb, K.check, K.find k es.toList m w hM.eq, h, Option.map_some, run_setObj_map hb, Sem.run_pure]
  obtain ⟨w', es', hr, hM', hm'⟩ := hrun
  unfold Oper.wp
  have : (execOp a.eval o).run X.P w = .ok (.value (.tuple #[])) w' := by
    simp only [execOp, ho, resolve, Sem.run_bind, Sem.run_pure, Result.andThen_ok, invoke, builtin, eval2 hx hy a ha, hty]
    rw [hr]; rfl
  rw [this]
  exact hK _ _ w' ⟨rfl, es', clock, hM', rfl⟩ hm'

theorem Yld.lenM {kt e c b : Nat} {enc : κ → Value} {es : Array MapEntry} {clock : Nat} {m : List (κ × Value)} (ht : X.P.underlying T = some (.map kt e)) (hx : ev σ x = some (.map (some b))) (hL : lk L c = some (single b (.map es clock))) (hM : MapP enc es clock m) :
    Yld X (.call { callee := .builtin .len, args := #[x], argTypes := #[T] }) ty σ L (.int .i64 m.length) :=
  Yld.builtin (Builtin.len_ #[T] ty) (fun _ _ _ => rfl) (eval1 hx) fun w hm => by
    have hb := hm.sub c _ hL b _ (single_self _ _)
    simp [Builtin.len_, run_underlying ht, goInt, run_getObj_map hb, hM.length]
end
end Go.Proofs.Ytbgppnkccbhbpaa.SL
