/- Histories out of steps of clients: the plain law of HistoryValid. -/
import Derived.Test.YtbgppnkccbhbpaaDoorHPure
namespace Go.Proofs.YtbgppnkccbhbpaaDoor.HistLaw
set_option linter.unusedVariables false

/-- an operation of the store: kind, key, value, old -/
structure Act where
  kd : Int
  key : ByteArray
  val : Int
  old : Int

structure Stp where
  c : Int
  k : Int
  y : Int
  g : Int
  v : Int
  f : Bool

structure VS where
  ev : List Ev
  opn : Int → Option Act
  num : Int → Int
  n : Nat

def invokeE (c nu : Int) (a : Act) : Ev := { ek := 0, mach := 0, cl := c, nu := nu, gr := 1, kd := a.kd, key := a.key, val := a.val, old := a.old, code := 0, fnd := false, rv := 0 }
def respondE (c nu : Int) (f : Bool) (v : Int) : Ev := { ek := 1, mach := 0, cl := c, nu := nu, gr := 1, kd := 0, key := .empty, val := 0, old := 0, code := 0, fnd := f, rv := v }

def st (x : VS) : OS := ofN 1 x.ev x.ev.length
def pend (l : List O) : Nat := (l.filter fun o => decide (¬ 0 ≤ o.rsp)).length

theorem ofN_pre {g : Int} {l r : List Ev} : ∀ n, n ≤ l.length → ofN g (l ++ r) n = ofN g l n
  | 0, _ => rfl
  | n + 1, h => by
    unfold ofN
    rw [ofN_pre n (by omega), List.getElem?_append_left (by omega)]

theorem ofN_snoc {g : Int} {l : List Ev} {e : Ev} : ofN g (l ++ [e]) (l ++ [e]).length = ofStep g l.length e (ofN g l l.length) := by
  rw [List.length_append, List.length_singleton, ofN_succ (e := e) (by simp), ofN_pre _ (Nat.le_refl _)]

/-- what the o-th operation owes to the events -/
def Told (ev : List Ev) (o : O) : Prop :=
  (∃ i : Nat, o.inv = i ∧ ∃ e, ev[i]? = some e ∧ e.ek = 0 ∧ e.cl = o.cl ∧ e.nu = o.nu ∧ e.kd = o.kd ∧ e.key = o.key ∧ e.val = o.val ∧ e.old = o.old) ∧
  (0 ≤ o.rsp → ∃ i : Nat, o.rsp = i ∧ ∃ e, ev[i]? = some e ∧ e.cl = o.cl ∧ e.code = o.code ∧ e.fnd = o.fnd ∧ e.rv = o.rv)

structure J (x : VS) : Prop where
  grp : ∀ e ∈ x.ev, e.gr = 1
  len : (st x).out.length = x.n
  nle : x.n ≤ x.ev.length
  val : Valid (st x).out
  told : ∀ o ∈ (st x).out, Told x.ev o
  lt : ∀ o ∈ (st x).out, o.inv < x.ev.length ∧ o.rsp < x.ev.length
  gr : ∀ o ∈ (st x).out, o.gr = 1
  nub : ∀ o ∈ (st x).out, o.nu ≤ x.num o.cl
  num0 : ∀ c, 0 ≤ x.num c ∧ x.num c ≤ 3 * x.ev.length
  opn : ∀ c a, x.opn c = some a → ∃ k o, (st x).opn (c, x.num c) = some k ∧ (st x).out[k]? = some o ∧ o.cl = c ∧ o.nu = x.num c ∧ o.rsp = -1
  idle : ∀ c, x.opn c = Option.none → ∀ o ∈ (st x).out, o.cl = c → 0 ≤ o.rsp
  key : ∀ c m k, (st x).opn (c, m) = some k → m = x.num c ∧ (x.opn c).isSome = true

def VS0 : VS := { ev := [], opn := fun _ => none, num := fun _ => 0, n := 0 }
theorem J0 : J VS0 where
  grp := by simp [VS0]
  len := rfl
  nle := Nat.le_refl _
  val := fun i a h => by simp [VS0, st, ofN] at h
  told := by simp [VS0, st, ofN]
  lt := by simp [VS0, st, ofN]
  gr := by simp [VS0, st, ofN]
  nub := by simp [VS0, st, ofN]
  num0 := by simp [VS0]
  opn := by simp [VS0]
  idle := by simp [VS0, st, ofN]
  key := by simp [VS0, st, ofN]

theorem Told.grow {ev : List Ev} {o : O} (h : Told ev o) (e : Ev) : Told (ev ++ [e]) o := by
  obtain ⟨⟨i, h1, e1, h2, h3⟩, h4⟩ := h
  have up : ∀ (i : Nat) e', ev[i]? = some e' → (ev ++ [e])[i]? = some e' := fun i e' h => by rw [List.getElem?_append_left (List.getElem?_eq_some_iff.1 h).1, h]
  refine ⟨⟨i, h1, e1, up i e1 h2, h3⟩, fun hr => ?_⟩
  obtain ⟨j, j1, e2, j2, j3⟩ := h4 hr
  exact ⟨j, j1, e2, up j e2 j2, j3⟩

def ActOK (a : Act) : Prop := 0 ≤ a.kd ∧ a.kd ≤ 3 ∧ 1 ≤ (a.key.size : Int) ∧ (a.key.size : Int) ≤ 31 ∧ a.old = 0 ∧ (a.val = 0 ∨ a.kd ≠ 0)

def vInvoke (x : VS) (c nu : Int) (a : Act) : VS := { ev := x.ev ++ [invokeE c nu a], opn := fun d => if d = c then some a else x.opn d, num := fun d => if d = c then nu else x.num d, n := x.n + 1 }
def vRespond (x : VS) (c : Int) (f : Bool) (v : Int) : VS := { x with ev := x.ev ++ [respondE c (x.num c) f v], opn := fun d => if d = c then none else x.opn d }

theorem st_invoke {x : VS} {c nu : Int} {a : Act} : st (vInvoke x c nu a) = ⟨(st x).out ++ [opOf 1 x.ev.length (invokeE c nu a)], fun k => if k = (c, nu) then some (st x).out.length else (st x).opn k⟩ := by
  unfold st vInvoke
  simp only
  rw [ofN_snoc]
  simp [ofStep, invokeE]
  funext k
  by_cases hk : k = (c, nu) <;> simp [hk]

theorem st_respond {x : VS} {c : Int} {f : Bool} {v : Int} {k : Nat} (h : (st x).opn (c, x.num c) = some k) : st (vRespond x c f v) = ⟨(st x).out.modify k (respond x.ev.length (respondE c (x.num c) f v)), fun k' => if k' = (c, x.num c) then none else (st x).opn k'⟩ := by
  unfold st vRespond at *
  simp only
  rw [ofN_snoc]
  simp [ofStep, respondE, h]
  funext k'
  by_cases hk : k' = (c, x.num c) <;> simp [hk]

theorem valid_snoc {l : List O} {a : O} (hv : Valid l) (hf : Formed a) (hr : a.rsp = -1) (hg : ∀ b ∈ l, b.gr = a.gr) (hl : ∀ b ∈ l, b.inv < a.inv ∧ b.rsp < a.inv) (hc : ∀ b ∈ l, b.cl = a.cl → 0 ≤ b.rsp ∧ b.nu < a.nu) : Valid (l ++ [a]) := by
  intro i b hb
  have zero : ∀ z, (l ++ [a])[0]? = some z → z.gr = a.gr := fun z hz => by
    cases l with
    | nil => simp at hz; rw [hz]
    | cons y r => simp at hz; subst hz; exact hg _ (by simp)
  by_cases hi : i < l.length
  · rw [List.getElem?_append_left hi] at hb
    obtain ⟨h1, h2, h3, h4⟩ := hv i b hb
    have hbm := List.mem_of_getElem? hb
    refine ⟨h1, fun z hz => by rw [zero z hz, hg b hbm], fun k d hk hd => ?_, fun k d hd => ?_⟩
    · rw [List.getElem?_append_left (by omega)] at hd
      exact h3 k d hk hd
    · by_cases hkl : k < l.length
      · rw [List.getElem?_append_left hkl] at hd
        exact h4 k d hd
      · rw [List.getElem?_append_right (by omega)] at hd
        have : d = a := by
          cases hkk : k - l.length with
          | zero => rw [hkk] at hd; simpa using hd.symm
          | succ n => rw [hkk] at hd; simp at hd
        subst this
        have := (hl b hbm).2
        omega
  · rw [List.getElem?_append_right (by omega)] at hb
    have hil : i = l.length := by
      have := (List.getElem?_eq_some_iff.1 hb).1
      simp at this; omega
    have hba : b = a := by rw [hil] at hb; simpa using hb.symm
    subst hba
    subst hil
    refine ⟨hf, fun z hz => (zero z hz).symm, fun k d hk hd => ?_, fun k d hd => ?_⟩
    · rw [List.getElem?_append_left hk] at hd
      have hdm := List.mem_of_getElem? hd
      have h1 := hl d hdm
      refine ⟨h1.1, by omega, fun hcl => ?_⟩
      have h2 := hc d hdm hcl
      exact ⟨⟨h2.1, h1.2⟩, h2.2⟩
    · have hd0 : 0 ≤ d.inv := by
        by_cases hkl : k < l.length
        · rw [List.getElem?_append_left hkl] at hd
          exact (hv k d hd).1.2.2.1
        · rw [List.getElem?_append_right (by omega)] at hd
          cases hkk : k - l.length with
          | zero => rw [hkk] at hd; simp at hd; subst hd; exact hf.2.2.1
          | succ n => rw [hkk] at hd; simp at hd
      omega

theorem get_modify {l : List O} {k : Nat} {f : O → O} {i : Nat} {b' : O} (h : (l.modify k f)[i]? = some b') : ∃ b, l[i]? = some b ∧ b' = if k = i then f b else b := by
  rw [List.getElem?_modify] at h
  cases hb : l[i]? with
  | none => rw [hb] at h; simp at h
  | some b =>
    rw [hb] at h
    refine ⟨b, rfl, ?_⟩
    by_cases e : k = i <;> simp [e] at h ⊢ <;> exact h.symm

theorem valid_modify {l : List O} (hv : Valid l) {k : Nat} {o : O} (ho : l[k]? = some o) (hr : o.rsp = -1) {t : Nat} (e : Ev) (hl : ∀ b ∈ l, b.inv < t ∧ b.rsp < t) : Valid (l.modify k (respond t e)) := by
  intro i a' ha'
  obtain ⟨a, ha, rfl⟩ := get_modify ha'
  obtain ⟨⟨f1, f2, f3, f4, f5⟩, h2, h3, h4⟩ := hv i a ha
  have hat := hl a (List.mem_of_getElem? ha)
  refine ⟨?_, ?_, ?_, ?_⟩
  · split
    · refine ⟨f1, f2, f3, f4, .inl ⟨?_, ?_⟩⟩
      · show (0 : Int) ≤ (t : Int); omega
      · show a.inv < (t : Int); exact hat.1
    · exact ⟨f1, f2, f3, f4, f5⟩
  · intro z' hz'
    obtain ⟨z, hz, rfl⟩ := get_modify hz'
    have := h2 z hz
    split <;> split <;> exact this
  · intro j b' hj hb'
    obtain ⟨b, hb, rfl⟩ := get_modify hb'
    obtain ⟨g1, g2, g3⟩ := h3 j b hj hb
    have hbt := hl b (List.mem_of_getElem? hb)
    by_cases e1 : k = j
    · subst e1
      rw [if_pos rfl, if_neg (by omega)]
      rw [ho] at hb
      cases hb
      refine ⟨g1, fun h => ?_, fun hc => ?_⟩
      · have : (t : Int) = a.rsp := h.2
        omega
      · have := (g3 hc).1.1; omega
    · rw [if_neg e1]
      by_cases e2 : k = i
      · rw [if_pos e2]
        refine ⟨g1, fun h => ?_, fun hc => g3 hc⟩
        have : b.rsp = (t : Int) := h.2
        omega
      · rw [if_neg e2]
        exact ⟨g1, g2, g3⟩
  · intro j b' hb'
    obtain ⟨b, hb, rfl⟩ := get_modify hb'
    have hbt := hl b (List.mem_of_getElem? hb)
    have h := h4 j b hb
    have e0 : (if k = j then respond t e b else b).inv = b.inv := by split <;> rfl
    rw [e0]
    split
    · show b.inv ≠ (t : Int); omega
    · exact h

theorem J.invoke {x : VS} (h : J x) {c nu : Int} {a : Act} (hc : 1 ≤ c) (hi : x.opn c = none) (ha : ActOK a) (h1 : x.num c + 1 ≤ nu) (h2 : nu ≤ x.num c + 3) : J (vInvoke x c nu a) := by
  obtain ⟨a1, a2, a3, a4, a5, a6⟩ := ha
  have hst := st_invoke (x := x) (c := c) (nu := nu) (a := a)
  have hn0 := (h.num0 c).1
  have hel : (vInvoke x c nu a).ev.length = x.ev.length + 1 := by simp [vInvoke]
  have mem : ∀ o ∈ (st (vInvoke x c nu a)).out, o ∈ (st x).out ∨ o = opOf 1 x.ev.length (invokeE c nu a) := by
    rw [hst]; intro o ho; simpa using ho
  refine ⟨?_, ?_, ?_, ?_, ?_, ?_, ?_, ?_, ?_, ?_, ?_, ?_⟩
  · intro e he
    rcases List.mem_append.1 (show e ∈ x.ev ++ [invokeE c nu a] from he) with he | he
    · exact h.grp e he
    · simp at he; subst he; rfl
  · rw [hst]; simp [vInvoke, h.len]
  · rw [hel]; show x.n + 1 ≤ _; have := h.nle; omega
  · rw [hst]
    refine valid_snoc h.val ⟨hc, ?_, ?_, ⟨a1, a2, a3, a4, .inl a5, a6⟩, .inr ⟨rfl, rfl, rfl, rfl⟩⟩ rfl (fun b hb => h.gr b hb) (fun b hb => h.lt b hb) (fun b hb hbc => ?_)
    · show 1 ≤ nu; omega
    · show (0 : Int) ≤ (x.ev.length : Int); omega
    · have hbc' : b.cl = c := hbc
      refine ⟨h.idle c hi b hb hbc', ?_⟩
      have := h.nub b hb
      rw [hbc'] at this
      show b.nu < nu; omega
  · intro o ho
    rcases mem o ho with ho | rfl
    · exact (h.told o ho).grow _
    · exact ⟨⟨x.ev.length, rfl, invokeE c nu a, by simp [vInvoke], rfl, rfl, rfl, rfl, rfl, rfl, rfl⟩, fun hr => absurd (show (0 : Int) ≤ -1 from hr) (by decide)⟩
  · intro o ho
    rw [hel]
    rcases mem o ho with ho | rfl
    · have := h.lt o ho; omega
    · exact ⟨by show (x.ev.length : Int) < _; omega, by show (-1 : Int) < _; omega⟩
  · intro o ho
    rcases mem o ho with ho | rfl
    · exact h.gr o ho
    · rfl
  · intro o ho
    show o.nu ≤ if o.cl = c then nu else x.num o.cl
    rcases mem o ho with ho | rfl
    · have := h.nub o ho
      split
      · rename_i e; rw [e] at this; omega
      · exact this
    · show nu ≤ if c = c then nu else _
      rw [if_pos rfl]; exact Int.le_refl _
  · intro d
    rw [hel]
    show 0 ≤ (if d = c then nu else x.num d) ∧ (if d = c then nu else x.num d) ≤ _
    have := h.num0 d
    have := h.num0 c
    split <;> omega
  · intro d b hb
    rw [hst]
    show ∃ (k : Nat) (o : O), (if (d, if d = c then nu else x.num d) = (c, nu) then _ else _) = some k ∧ _ ∧ _ ∧ o.nu = (if d = c then nu else x.num d) ∧ _
    by_cases e : d = c
    · subst e
      exact ⟨(st x).out.length, opOf 1 x.ev.length (invokeE d nu a), by simp, by simp, rfl, by simp [opOf, invokeE], rfl⟩
    · have hb' : x.opn d = some b := by
        have : (if d = c then some a else x.opn d) = some b := hb
        rwa [if_neg e] at this
      obtain ⟨k, o, k1, k2, k3, k4, k5⟩ := h.opn d b hb'
      have hnum : (vInvoke x c nu a).num d = x.num d := if_neg e
      refine ⟨k, o, ?_, ?_, k3, by first | (rw [if_neg e]; exact k4) | (rw [hnum]; exact k4), k5⟩
      · rw [if_neg (by simp [e]), hnum]; exact k1
      · show ((st x).out ++ [_])[k]? = some o
        rw [List.getElem?_append_left (List.getElem?_eq_some_iff.1 k2).1, k2]
  · intro d hd o ho hod
    have hd' : (if d = c then some a else x.opn d) = none := hd
    have e : d ≠ c := fun e => by rw [if_pos e] at hd'; cases hd'
    rw [if_neg e] at hd'
    rcases mem o ho with ho | rfl
    · exact h.idle d hd' o ho hod
    · exact absurd hod.symm e
  · intro d m k hk
    rw [hst] at hk
    have hk' : (if (d, m) = (c, nu) then some (st x).out.length else (st x).opn (d, m)) = some k := hk
    show m = (if d = c then nu else x.num d) ∧ (if d = c then some a else x.opn d).isSome = true
    split at hk'
    · rename_i e
      cases e
      simp
    · rename_i e
      obtain ⟨g1, g2⟩ := h.key d m k hk'
      have e2 : d ≠ c := fun e2 => by subst e2; rw [hi] at g2; cases g2
      rw [if_neg e2, if_neg e2]
      exact ⟨g1, g2⟩

theorem J.respond {x : VS} (h : J x) {c : Int} {a : Act} (hi : x.opn c = some a) (f : Bool) (v : Int) : J (vRespond x c f v) := by
  obtain ⟨k, o, k1, k2, k3, k4, k5⟩ := h.opn c a hi
  have hst := st_respond (f := f) (v := v) k1
  have hel : (vRespond x c f v).ev.length = x.ev.length + 1 := by simp [vRespond]
  obtain ⟨e, he⟩ : ∃ e, e = respondE c (x.num c) f v := ⟨_, rfl⟩
  have mem : ∀ q ∈ (st (vRespond x c f v)).out, ∃ i b, (st x).out[i]? = some b ∧ q = if k = i then HistLaw.respond x.ev.length e b else b := by
    rw [hst, ← he]; intro q hq
    obtain ⟨i, hq⟩ := List.getElem?_of_mem hq
    obtain ⟨b, h1, h2⟩ := get_modify hq
    exact ⟨i, b, h1, h2⟩
  have hevk : (vRespond x c f v).ev[x.ev.length]? = some e := by rw [he]; simp [vRespond]
  refine ⟨?_, ?_, ?_, ?_, ?_, ?_, ?_, ?_, ?_, ?_, ?_, ?_⟩
  · intro e' he'
    rcases List.mem_append.1 (show e' ∈ x.ev ++ [respondE c (x.num c) f v] from he') with he' | he'
    · exact h.grp e' he'
    · simp at he'; subst he'; rfl
  · rw [hst]; simp [vRespond, h.len]
  · rw [hel]; show x.n ≤ _; have := h.nle; omega
  · rw [hst]
    exact valid_modify h.val k2 k5 _ (fun b hb => h.lt b hb)
  · intro q hq
    obtain ⟨i, b, hb, rfl⟩ := mem q hq
    have tb := (h.told b (List.mem_of_getElem? hb)).grow (respondE c (x.num c) f v)
    split
    · rename_i e1
      subst e1
      rw [k2] at hb; cases hb
      refine ⟨tb.1, fun _ => ⟨x.ev.length, rfl, e, hevk, ?_, ?_, ?_, ?_⟩⟩ <;> rw [he]
      · exact k3.symm
      · rfl
      · rfl
      · rfl
    · exact tb
  · intro q hq
    obtain ⟨i, b, hb, rfl⟩ := mem q hq
    have := h.lt b (List.mem_of_getElem? hb)
    rw [hel]
    split
    · exact ⟨by show b.inv < _; omega, by show (x.ev.length : Int) < _; omega⟩
    · omega
  · intro q hq
    obtain ⟨i, b, hb, rfl⟩ := mem q hq
    have := h.gr b (List.mem_of_getElem? hb)
    split <;> exact this
  · intro q hq
    obtain ⟨i, b, hb, rfl⟩ := mem q hq
    have := h.nub b (List.mem_of_getElem? hb)
    split <;> exact this
  · intro d
    rw [hel]
    have := h.num0 d
    show 0 ≤ x.num d ∧ x.num d ≤ _
    omega
  · intro d b hb
    have hb' : (if d = c then none else x.opn d) = some b := hb
    have e1 : d ≠ c := fun e1 => by rw [if_pos e1] at hb'; cases hb'
    rw [if_neg e1] at hb'
    obtain ⟨j, q, j1, j2, j3, j4, j5⟩ := h.opn d b hb'
    refine ⟨j, q, ?_, ?_, j3, j4, j5⟩
    · rw [hst]
      show (if (d, x.num d) = (c, x.num c) then none else (st x).opn (d, x.num d)) = some j
      rw [if_neg (by simp [e1])]; exact j1
    · rw [hst]
      show ((st x).out.modify k _)[j]? = some q
      have hkj : k ≠ j := fun hkj => by
        subst hkj; rw [k2] at j2; cases j2; exact e1 (j3.symm.trans k3)
      rw [List.getElem?_modify, j2]; simp [hkj]
  · intro d hd q hq hqd
    obtain ⟨i, b, hb, rfl⟩ := mem q hq
    have hd' : (if d = c then none else x.opn d) = none := hd
    have hbm := List.mem_of_getElem? hb
    by_cases e1 : k = i
    · rw [if_pos e1]; show (0 : Int) ≤ (x.ev.length : Int); omega
    · rw [if_neg e1] at hqd ⊢
      by_cases e2 : d = c
      · apply Classical.byContradiction
        intro hneg
        have ho := h.val i b hb
        have hcl : b.cl = o.cl := by rw [hqd, e2, k3]
        rcases Nat.lt_or_ge k i with hlt | hge
        · have := (((h.val i b hb).2.2.1 k o hlt k2).2.2 hcl.symm).1.1
          omega
        · have := (((h.val k o k2).2.2.1 i b (by omega) hb).2.2 hcl).1.1
          omega
      · rw [if_neg e2] at hd'
        exact h.idle d hd' b hbm hqd
  · intro d m j hj
    rw [hst] at hj
    have hj' : (if (d, m) = (c, x.num c) then none else (st x).opn (d, m)) = some j := hj
    split at hj'
    · cases hj'
    · rename_i e1
      obtain ⟨g1, g2⟩ := h.key d m j hj'
      refine ⟨g1, ?_⟩
      show (if d = c then none else x.opn d).isSome = true
      rw [if_neg (fun e2 => e1 (by rw [g1, e2]))]
      exact g2

/-! ### how many are open -/
theorem pend_modify : ∀ {l : List O} {k : Nat} {o : O} {t : Nat} {e : Ev}, l[k]? = some o → o.rsp = -1 → pend (l.modify k (respond t e)) + 1 = pend l
  | [], k, o, t, e, h, _ => by simp at h
  | a :: r, 0, o, t, e, h, hr => by
    simp at h; subst h
    have h1 : ¬ (0 : Int) ≤ a.rsp := by omega
    have h2 : (0 : Int) ≤ (respond t e a).rsp := by show (0 : Int) ≤ (t : Int); omega
    simp only [pend, List.modify_zero_cons, List.filter_cons]
    simp [h1, h2]
  | a :: r, k + 1, o, t, e, h, hr => by
    have := pend_modify (l := r) (k := k) (t := t) (e := e) (by simpa using h) hr
    unfold pend at this ⊢
    rw [List.modify_succ_cons, List.filter_cons, List.filter_cons]
    split <;> (try simp only [List.length_cons]) <;> omega
theorem pend_snoc {l : List O} {a : O} (h : a.rsp = -1) : pend (l ++ [a]) = pend l + 1 := by
  simp [pend, List.filter_append, h]
theorem pend_invoke {x : VS} {c nu : Int} {a : Act} : pend (st (vInvoke x c nu a)).out = pend (st x).out + 1 := by
  rw [st_invoke]; exact pend_snoc rfl
theorem pend_respond {x : VS} (h : J x) {c : Int} {a : Act} (hi : x.opn c = some a) (f : Bool) (v : Int) : pend (st (vRespond x c f v)).out + 1 = pend (st x).out := by
  obtain ⟨k, o, k1, k2, k3, k4, k5⟩ := h.opn c a hi
  rw [st_respond k1]; exact pend_modify k2 k5

theorem ofN_other {l : List Ev} (h : ∀ e ∈ l, e.gr = 1) : ∀ n, (ofN 2 l n).out = []
  | 0 => rfl
  | n + 1 => by
    unfold ofN
    cases he : l[n]? with
    | none => exact ofN_other h n
    | some e =>
      have := h e (List.mem_of_getElem? he)
      simp only [ofStep, this]
      rw [if_neg (by decide)]
      exact ofN_other h n

end Go.Proofs.YtbgppnkccbhbpaaDoor.HistLaw
