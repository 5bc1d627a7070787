/- How a follower catches up: in plain Lean. -/
import Derived.Test.YtdkefpnebmmhlaaP15
namespace Go.Proofs.Ytdkefpnebmmhlaa.Rep
set_option linter.unusedVariables false
open SL Cfg

structure Ld (l : Lg) (T : Nat → Int) : Prop where
  ok : LOK l
  ix : l.ix = 0
  tm : l.tm = T 0
  get : ∀ (i : Nat) e, l.es[i]? = some e → e.tm = T (i + 1)
  mono : ∀ i, T i ≤ T (i + 1)
  t0 : T 0 = 1
  len : l.es.length ≤ 12
  big : T l.es.length ≤ 100
structure Fw (l : Lg) (T : Nat → Int) (k : Nat) (es : List En) : Prop where
  le : k ≤ l.es.length
  pre : es.take k = l.es.take k
  kl : k ≤ es.length
  con : ∀ (i : Nat) e, es[i]? = some e → e.ix = 1 + i
  hi : ∀ (i : Nat) e, k ≤ i → es[i]? = some e → T l.es.length < e.tm
  len : es.length ≤ 40
def fg (es : List En) : Lg := ⟨0, 1, es⟩
section
variable {l : Lg} {T : Nat → Int} {k p : Nat} {es es' : List En}
theorem Ld.le (h : Ld l T) {i j : Nat} (hij : i ≤ j) : T i ≤ T j := by
  induction hij with
  | refl => exact Int.le_refl _
  | step _ ih => exact Int.le_trans ih (h.mono _)
theorem Fw.ok (h : Fw l T k es) : LOK (fg es) := by
  refine ⟨Int.le_refl _, by show (0 : Int) ≤ _; omega, fun i e he => ?_, by have := h.len; show es.length ≤ 1000; omega⟩
  have h1 := h.con i e he
  show e.ix = 0 + 1 + i
  omega
theorem term0 {g : Lg} (h0 : g.ix = 0) (i : Nat) : g.term i = if i = 0 then (g.tm, true) else match g.es[i - 1]? with
  | some e => (e.tm, true)
  | none => (0, false) := by
  unfold Lg.term
  rw [h0]
  by_cases h : i = 0
  · subst h; simp
  · rw [if_neg (by omega), if_neg h, show ((i : Int) - 0 - 1).toNat = i - 1 by omega]
    split
    · rename_i h1
      rw [List.getElem?_eq_none (by omega)]
    · rfl
theorem Ld.term (h : Ld l T) {i : Nat} (hi : i ≤ l.es.length) : l.term i = (T i, true) := by
  rw [term0 h.ix]
  by_cases h0 : i = 0
  · subst h0; rw [if_pos rfl, h.tm]
  · have he := List.getElem?_eq_getElem (show i - 1 < l.es.length by omega)
    rw [if_neg h0, he]
    have := h.get _ _ he
    rw [show i - 1 + 1 = i by omega] at this
    dsimp only
    rw [this]
theorem Fw.term_in (hl : Ld l T) (h : Fw l T k es) {i : Nat} (hi : i ≤ k) : (fg es).term i = (T i, true) := by
  rw [← hl.term (Nat.le_trans hi h.le), term0 rfl, term0 hl.ix]
  by_cases h0 : i = 0
  · subst h0; rw [if_pos rfl, if_pos rfl, hl.tm, hl.t0]; rfl
  · rw [if_neg h0, if_neg h0]
    have := congrArg (·[i - 1]?) h.pre
    simp only [List.getElem?_take, show i - 1 < k by omega, if_true] at this
    show (match es[i - 1]? with
      | some e => (e.tm, true)
      | none => (0, false)) = _
    rw [this]
theorem Fw.term_out (h : Fw l T k es) {i : Nat} (hi : k < i) (ht : ((fg es).term i).2 = true) : T l.es.length < ((fg es).term i).1 := by
  rw [term0 rfl, if_neg (by omega)] at ht ⊢
  show T l.es.length < (match es[i - 1]? with
      | some e => (e.tm, true)
      | none => (0, false)).1
  have ht : (match es[i - 1]? with
      | some e => (e.tm, true)
      | none => ((0 : Int), false)).2 = true := ht
  cases he : es[i - 1]? with
  | none => rw [he] at ht; cases ht
  | some e => exact h.hi _ _ (by omega) he
theorem Fw.mtch (hl : Ld l T) (h : Fw l T k es) (hp : p ≤ l.es.length) : Rep.mtch (fg es) p (T p) = decide (p ≤ k) := by
  unfold Rep.mtch
  rw [show decide ((p : Int) < (fg es).ix) = false by exact decide_eq_false (by show ¬ (p : Int) < 0; omega), Bool.false_or]
  by_cases hk : p ≤ k
  · rw [h.term_in hl hk]; simp [hk]
  · rw [decide_eq_false hk]
    cases ht : ((fg es).term p).2 with
    | false => rfl
    | true =>
      have h1 := h.term_out (by omega) ht
      have h2 := hl.le hp
      rw [Bool.true_and]
      exact decide_eq_false (by omega)
theorem fr0 {g : Lg} (h0 : g.ix = 0) {m : Int} (hm : 0 ≤ m) : g.fr 0 m = g.es.take m.toNat := by
  unfold Lg.fr Lg.at
  rw [h0]
  rw [show (max (0 : Int) (0 + 1) - 0 - 1).toNat = 0 by omega]
  split
  · rename_i h
    rcases h with h | h
    · rw [List.length_eq_zero_iff.1 (show g.es.length = 0 by omega)]; simp
    · rw [show m.toNat = 0 by omega]; rfl
  · rw [List.drop_zero]
    rcases Int.le_total m g.es.length with h | h
    · congr 1; omega
    · rw [List.take_of_length_le (by omega), List.take_of_length_le (by omega)]
theorem Ld.fr (h : Ld l T) (hp : p ≤ l.es.length) {sz : Int} (h1 : 1 ≤ sz) : ∃ c : Nat, l.fr ((p : Int) + 1) sz = (l.es.drop p).take c ∧ p + c ≤ l.es.length ∧ (c = 0 → p = l.es.length) := by
  unfold Lg.fr Lg.at
  rw [h.ix, show (max ((p : Int) + 1) (0 + 1) - 0 - 1).toNat = p by omega]
  split
  · exact ⟨0, by simp, by omega, fun _ => by omega⟩
  · refine ⟨(min (l.es.length : Int) (p + min sz l.es.length)).toNat - p, by rw [List.drop_take], by omega, by omega⟩
theorem Ld.at (h : Ld l T) {c i : Nat} {e : En} (he : ((l.es.drop p).take c)[i]? = some e) : i < c ∧ e.ix = ((p + 1 + i : Nat) : Int) ∧ e.tm = T (p + 1 + i) := by
  rw [List.getElem?_take] at he
  split at he
  · rename_i hi
    rw [List.getElem?_drop] at he
    have h1 := h.ok.con _ _ he
    have h2 := h.get _ _ he
    rw [h.ix] at h1
    refine ⟨hi, by omega, ?_⟩
    rw [h2]; congr 1; omega
  · cases he
theorem Ld.chain (h : Ld l T) (c : Nat) : Chain p (fun i => T (p + i)) ((l.es.drop p).take c) := fun i e he => by
  obtain ⟨_, h1, h2⟩ := h.at he
  refine ⟨by omega, ?_, ?_⟩
  · show T (p + i) ≤ e.tm
    rw [h2]; exact h.le (by omega)
  · show T (p + (i + 1)) = e.tm
    rw [h2]; congr 1; omega
theorem Ld.contra (h : Ld l T) (c : Nat) : ((l.es.drop p).take c).any (contra (fg es)) = false := by
  rw [List.any_eq_false]
  intro e he
  obtain ⟨i, hi⟩ := List.getElem?_of_mem he
  obtain ⟨_, h1, h2⟩ := h.at hi
  have h3 := h.le (Nat.zero_le (p + 1 + i))
  rw [h.t0] at h3
  unfold Rep.contra
  show ¬ ((decide (e.ix = 0) && decide (e.tm ≠ 1)) || (decide (0 < e.ix) && decide (e.tm < 1))) = true
  simp only [Bool.or_eq_true, Bool.and_eq_true, decide_eq_true_eq]
  omega
theorem Fw.conf (hl : Ld l T) (h : Fw l T k es) {c i : Nat} {e : En} (hc : p + c ≤ l.es.length) (he : ((l.es.drop p).take c)[i]? = some e) : Rep.conf (fg es) e = decide (k < p + 1 + i) := by
  obtain ⟨hi, h1, h2⟩ := hl.at he
  unfold Rep.conf
  rw [h1, h2, show decide ((fg es).ix < ((p + 1 + i : Nat) : Int)) = true by exact decide_eq_true (by show (0 : Int) < _; omega), Bool.true_and]
  by_cases hk : k < p + 1 + i
  · rw [decide_eq_true hk]
    cases ht : ((fg es).term ((p + 1 + i : Nat) : Int)).2 with
    | false => rfl
    | true =>
      have h3 := h.term_out hk ht
      have h4 := hl.le (show p + 1 + i ≤ l.es.length by omega)
      rw [Bool.not_true, Bool.false_or]
      exact decide_eq_true (by omega)
  · rw [h.term_in hl (by omega), decide_eq_false hk]; simp
theorem Fw.of_take (hl : Ld l T) {m : Nat} (hm : m ≤ l.es.length) : Fw l T m (l.es.take m) := by
  have hlen : (l.es.take m).length = m := by rw [List.length_take]; omega
  refine ⟨hm, by rw [List.take_take, Nat.min_self], by omega, fun i e he => ?_, fun i e hi he => ?_, by have := hl.len; omega⟩
  · rw [List.getElem?_take] at he
    split at he
    · have := hl.ok.con _ _ he; rw [hl.ix] at this; omega
    · cases he
  · have := (List.getElem?_eq_some_iff.1 he).1; omega
theorem Fw.merge (hl : Ld l T) (h : Fw l T k es) (hp : p ≤ l.es.length) {c : Nat} (hc : p + c ≤ l.es.length) {r1 : Int} {ok : Bool} (hm : MergeS (fg es) p (T p) ((l.es.drop p).take c) r1 ok es') :
    (k < p ∧ ok = false ∧ r1 = max 0 (min (es.length : Int) ((p : Int) - 1)) ∧ es' = es) ∨ (p ≤ k ∧ ok = true ∧ r1 = (p : Int) + c ∧ Fw l T (max k (p + c)) es') := by
  have hcl : ((l.es.drop p).take c).length = c := by rw [List.length_take, List.length_drop]; omega
  have hla : (fg es).last.1 = es.length := by
    rw [Lg.last_ix h.ok]; show (0 : Int) + es.length = _; omega
  unfold MergeS at hm
  rw [h.mtch hl hp, hl.contra c, hla, hcl] at hm
  rcases hm with ⟨h1, h2, h3, h4⟩ | ⟨h1, h2, h3, r, h4, h5⟩
  · exact .inl ⟨by simpa using h1, h2, h3, h4⟩
  · have hpk : p ≤ k := by simpa using h1
    refine .inr ⟨hpk, h2, h3, ?_⟩
    rcases h4 with ⟨rfl, h6⟩ | ⟨n, rfl, ⟨e, he, hq⟩, hb⟩
    · rw [if_pos (by omega)] at h5
      rw [h5]
      have : p + c ≤ k := by
        rcases Nat.eq_zero_or_pos c with h0 | h0
        · omega
        · have he := List.getElem?_eq_getElem (show c - 1 < ((l.es.drop p).take c).length by omega)
          have h7 := h6 _ (List.mem_of_getElem? he)
          rw [h.conf hl hc he] at h7
          have := of_decide_eq_false h7
          omega
      rw [Nat.max_eq_left this]; exact h
    · rw [if_neg (by omega)] at h5
      have hn := (hl.at he).1
      rw [h.conf hl hc he] at hq
      have hq := of_decide_eq_true hq
      have : k = p + n := by
        rcases Nat.eq_zero_or_pos n with h0 | h0
        · omega
        · have he2 := List.getElem?_eq_getElem (show n - 1 < ((l.es.drop p).take c).length by omega)
          have h7 := hb (n - 1) _ (by omega) he2
          rw [h.conf hl hc he2] at h7
          have := of_decide_eq_false h7
          omega
      have e1 : es' = l.es.take (p + c) := by
        rw [h5, show ((p : Int) + n - (fg es).ix).toNat = k by show ((p : Int) + n - 0).toNat = k; omega, show (fg es).es = es from rfl, h.pre]
        rw [show ((n : Int)).toNat = n by omega, List.drop_take, List.drop_drop, show p + n = k by omega, show p + c = k + (c - n) by omega, List.take_add]
      rw [e1, Nat.max_eq_right (by omega)]
      exact Fw.of_take hl hc
/-- the rounds -/
structure Rd (l : Lg) (T : Nat → Int) (i : Nat) (x : Mb) (k : Nat) (es : List En) : Prop where
  fw : Fw l T k es
  r : x.r = 2
  n1 : 1 ≤ x.nx
  n2 : x.nx ≤ l.es.length + 1
  ph : (x.mt = 0 ∧ i + x.nx ≤ l.es.length + 1) ∨ (x.nx = x.mt + 1 ∧ x.mt ≤ k ∧ i ≤ l.es.length + 1 + x.mt)
theorem Rd.lt {i : Nat} {x : Mb} (hl : Ld l T) (h : Rd l T i x k es) : i < 60 := by
  have h1 := h.ph; have h2 := h.n1; have h3 := h.n2; have h4 := hl.len
  omega
theorem Rd.fail {i : Nat} {x : Mb} (h : Rd l T i x k es) (hp : x.nx = p + 1) (hk : k < p) : (rejM (max 0 (min (es.length : Int) ((p : Int) - 1))) x).nx < x.nx ∧ Rd l T (i + 1) (rejM (max 0 (min (es.length : Int) ((p : Int) - 1))) x) k es := by
  have h1 := h.ph; have h2 := h.n1; have h3 := h.n2
  refine ⟨by simp only [rejM]; omega, h.fw, h.r, by simp only [rejM]; omega, by simp only [rejM]; omega, .inl ?_⟩
  simp only [rejM]; omega
theorem Rd.good {i c : Nat} {x : Mb} (h : Rd l T i x k es) (hp : x.nx = p + 1) (hk : p ≤ k) (hc : p + c ≤ l.es.length) (hc0 : c = 0 → p = l.es.length) (hf : Fw l T (max k (p + c)) es') :
    (p + c = l.es.length → (accM ((p : Int) + c) x).mt = l.es.length ∧ (accM ((p : Int) + c) x).nx = l.es.length + 1 ∧ Fw l T l.es.length es') ∧ (p + c ≠ l.es.length → Rd l T (i + 1) (accM ((p : Int) + c) x) (max k (p + c)) es') := by
  have h1 := h.ph; have h2 := h.n1; have h3 := h.n2; have h4 := h.fw.le
  refine ⟨fun e => ⟨by simp only [accM]; omega, by simp only [accM]; omega, ?_⟩, fun e => ⟨hf, h.r, by simp only [accM]; omega, by simp only [accM]; omega, .inr ?_⟩⟩
  · have : max k (p + c) = l.es.length := by omega
    rw [this] at hf; exact hf
  · simp only [accM]; omega
theorem Fw.put (h : Fw l T k es) {t c : Int} (ht : T l.es.length < t) (hl : es.length < 40) : Fw l T k ((fg es).put t c).es := by
  have hla := Lg.last_ix h.ok
  have hla : (fg es).last.1 = es.length := by rw [hla]; show (0 : Int) + es.length = _; omega
  have hkl := h.kl
  show Fw l T k (es ++ [⟨(fg es).last.1 + 1, t, c⟩])
  refine ⟨h.le, by rw [List.take_append_of_le_length hkl]; exact h.pre, by rw [List.length_append]; omega, fun i e he => ?_, fun i e hi he => ?_, by rw [List.length_append]; show es.length + 1 ≤ 40; omega⟩
  · rcases Nat.lt_or_ge i es.length with h1 | h1
    · rw [List.getElem?_append_left h1] at he; exact h.con i e he
    · rw [List.getElem?_append_right h1] at he
      cases hk : i - es.length with
      | zero => rw [hk] at he; simp at he; subst he; show (fg es).last.1 + 1 = _; omega
      | succ m => rw [hk] at he; simp at he
  · rcases Nat.lt_or_ge i es.length with h1 | h1
    · rw [List.getElem?_append_left h1] at he; exact h.hi i e hi he
    · rw [List.getElem?_append_right h1] at he
      cases hk : i - es.length with
      | zero => rw [hk] at he; simp at he; subst he; exact ht
      | succ m => rw [hk] at he; simp at he
theorem put_last {g : Lg} {t c : Int} : (g.put t c).last.2 = t := by simp [Lg.put, Lg.last]
theorem Ld.last_take (h : Ld l T) {q : Nat} (hq : q ≤ l.es.length) : (fg (l.es.take q)).last = ((q : Int), T q) := by
  unfold Lg.last
  show (match (l.es.take q)[(l.es.take q).length - 1]? with
    | some e => (e.ix, e.tm)
    | none => ((0 : Int), (1 : Int))) = _
  have hlen : (l.es.take q).length = q := by rw [List.length_take]; omega
  rw [hlen]
  rcases Nat.eq_zero_or_pos q with h0 | h0
  · subst h0; simp [h.t0]
  · have he := List.getElem?_eq_getElem (show q - 1 < l.es.length by omega)
    rw [List.getElem?_take, if_pos (by omega), he]
    have h1 := h.ok.con _ _ he
    have h2 := h.get _ _ he
    rw [h.ix] at h1
    rw [show q - 1 + 1 = q by omega] at h2
    dsimp only
    rw [h2, Prod.mk.injEq]
    exact ⟨by omega, rfl⟩
theorem Ld.put_take (h : Ld l T) {q : Nat} {e : En} (he : l.es[q]? = some e) : ((fg (l.es.take q)).put e.tm e.cl).es = l.es.take (q + 1) := by
  have hq := (List.getElem?_eq_some_iff.1 he).1
  show l.es.take q ++ [⟨(fg (l.es.take q)).last.1 + 1, e.tm, e.cl⟩] = _
  rw [h.last_take (by omega), List.take_add_one, he]
  have h1 := h.ok.con _ _ he
  rw [h.ix] at h1
  congr 1
  show [_] = [e]
  congr 1
  have h2 : (q : Int) + 1 = e.ix := by omega
  dsimp only
  rw [h2]
end
theorem lgs_es (s : Int) (bs : List Int) : ∀ (j i : Nat) (e : En), (lgs s bs j).1.es[i]? = some e → (lgs s bs j).1.es.length = j → e.tm = (lgs s bs (i + 1)).2
  | 0, i, e, h, _ => by simp [lgs] at h
  | j + 1, i, e, h, hl => by
    have hlen : (lgs s bs j).1.es.length = j := by simp [lgs, Lg.put] at hl; exact hl
    simp only [lgs, Lg.put] at h
    rcases Nat.lt_or_ge i (lgs s bs j).1.es.length with h1 | h1
    · rw [List.getElem?_append_left h1] at h; exact lgs_es s bs j i e h hlen
    · rw [List.getElem?_append_right h1] at h
      cases hk : i - (lgs s bs j).1.es.length with
      | zero => rw [hk] at h; simp at h; subst h; rw [show i = j by omega]; rfl
      | succ m => rw [hk] at h; simp at h
theorem lgs_ld {bs : List Int} (hb : ∀ b ∈ bs, 0 ≤ b ∧ b ≤ 255) (hl : bs.length ≤ 12) : Ld (lgs 0 bs bs.length).1 (fun i => (lgs 0 bs i).2) := by
  have h := lgs_ok (s := 0) (by omega) (by omega) hb bs.length (by omega)
  have hix : ∀ j, (lgs 0 bs j).1.ix = 0 ∧ (lgs 0 bs j).1.tm = 1 := fun j => by
    induction j with
    | zero => exact ⟨rfl, rfl⟩
    | succ j ih => exact ih
  refine ⟨h.1, (hix _).1, (hix _).2, fun i e he => lgs_es 0 bs _ i e he h.2.2.1, fun i => ?_, rfl, by rw [h.2.2.1]; exact hl, by have := h.2.2.2.2.1; rw [h.2.2.1]; show (lgs 0 bs bs.length).2 ≤ 100; omega⟩
  show (lgs 0 bs i).2 ≤ (lgs 0 bs i).2 + ((bs[i]?).getD 0) % 4 / 3
  cases hbi : bs[i]? with
  | none => simp
  | some b => have := hb b (List.mem_of_getElem? hbi); simp only [Option.getD_some]; omega
theorem Ld.last {l : Lg} {T : Nat → Int} (h : Ld l T) : l.last.1 = l.es.length ∧ l.last.2 = T l.es.length := by
  have e : fg (l.es.take l.es.length) = l := by
    rw [List.take_length]
    obtain ⟨i, t, es⟩ := l
    have h1 := h.ix; have h2 := h.tm; rw [h.t0] at h2
    dsimp only at h1 h2
    subst h1; subst h2; rfl
  have := h.last_take (Nat.le_refl _)
  rw [e] at this
  rw [this]; exact ⟨rfl, rfl⟩
theorem fnd1 {x : Mb} (h : x.r = 2) : fnd [x] 2 = some x := by simp [fnd, h]
theorem upd1 {f : Mb → Mb} {x : Mb} (h : x.r = 2) : upd f [x] 2 = [f x] := by simp [upd, h]
theorem Ld.batch {l : Lg} {T : Nat → Int} (h : Ld l T) {x : Mb} {p : Nat} (hx : x.r = 2) (hp : x.nx = p + 1) (hpl : p ≤ l.es.length) {sz : Int} (h1 : 1 ≤ sz) :
    ∃ c : Nat, p + c ≤ l.es.length ∧ (c = 0 → p = l.es.length) ∧ (Rep.batch [x] l 2 sz).1 = p ∧ (Rep.batch [x] l 2 sz).2.1 = T p ∧ (Rep.batch [x] l 2 sz).2.2.1 = (l.es.drop p).take c ∧ (Rep.batch [x] l 2 sz).2.2.2 = false := by
  obtain ⟨c, e, h2, h3⟩ := h.fr hpl h1
  refine ⟨c, h2, h3, ?_⟩
  have hm : min (x.nx - 1) l.last.1 = p := by rw [h.last.1]; omega
  unfold Rep.batch
  rw [fnd1 hx]
  dsimp only
  rw [if_neg (by rw [h.ix]; omega), hm, h.term hpl, e]
  exact ⟨rfl, rfl, rfl, rfl⟩
theorem set2 : setL [2] = [2] := (IsSet.eq ⟨by decide, by intro z; simp; omega⟩).symm
theorem ms2 (last : Int) (h : 0 ≤ last) : chg 1 last [] [2] = [⟨2, last + 1, 0⟩] := by
  unfold chg; rw [set2]
  show [(⟨2, max 0 last + 1, 0⟩ : Mb)] = _
  rw [Int.max_eq_right h]
structure CaI where
  j : Nat
  H : PH
  p : Option Addr
  c : Nat
  es : List En
structure CaJ where
  q : Nat
  H : PH
  p : Option Addr
  c : Nat
structure CaR where
  i : Nat
  es : Array MapEntry
  ck : Nat
  m : List (Int × Value)
  x : Mb
  k : Nat
  fes : List En
  H : PH
  p : Option Addr
  c : Nat
end Go.Proofs.Ytdkefpnebmmhlaa.Rep
