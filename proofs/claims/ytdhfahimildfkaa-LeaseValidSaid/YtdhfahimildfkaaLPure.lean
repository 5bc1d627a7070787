/-
  The plain law of LeaseExclusive: what the acts do to clocks, grantor, questions and holders, and why no two holders are users at once.
-/
import Derived.Test.YtdhfahimildfkaaSlPart
namespace Go.Proofs.Ytdhfahimildfkaa.LeaseLaw
open Go.Proofs.Ytdhfahimildfkaa.SL
set_option linter.unusedVariables false

structure Q where
  holder : Int
  asked : Int
  ticks : Int
  era : Int
  gn : ByteArray
  gh : Int
  gs : Int
  ga : Int
  gt : Int
  ans : Bool
  rel : Bool

structure St where
  us : Nat → Int
  t : Int
  ls : Option (Int × Int × Int)
  pend : List Q
  hv : Nat → List Q
  era : Nat → Int

def cur : Option (Int × Int × Int) → Int
  | none => 0
  | some (_, s, _) => s
def marg (d : Int) : Int := d + d / 16 + 2

/-- a question that may still be used -/
def Live (st : St) (q : Q) : Prop := q ∈ st.hv q.holder.toNat ∨ (q ∈ st.pend ∧ q.ans = true ∧ q.rel = false ∧ q.era = st.era q.holder.toNat)

def Timed (st : St) (q : Q) : Prop := ∃ τ uh : Int, 0 ≤ τ ∧ 0 ≤ uh ∧ q.asked = uh / 64 ∧ uh + 63 * τ ≤ st.us (1 + q.holder.toNat) ∧ (q.ans = true → ∃ ug, 0 ≤ ug ∧ q.ga = ug / 64 ∧ st.us 0 ≤ ug + 65 * τ)
def Cov (st : St) (q : Q) : Prop := q.ga + marg q.gt ≤ st.us 0 / 64 ∨ ∃ s u, st.ls = some (q.holder + 1, s, u) ∧ q.ga + marg q.gt ≤ u ∧ q.gs ≤ s

structure Okq (n : Nat) (st : St) (q : Q) : Prop where
  h0 : 0 ≤ q.holder
  h2 : q.holder ≤ 2
  tk0 : 0 ≤ q.ticks
  tk1 : q.ticks ≤ 300
  era0 : 0 ≤ q.era
  era : q.era ≤ st.era q.holder.toNat
  ask : q.rel = false → 1 ≤ q.ticks ∧ Timed st q
  ans : q.ans = true → q.rel = false ∧ q.gt = q.ticks ∧ 1 ≤ q.gs ∧ q.gs ≤ cur st.ls ∧ 0 ≤ q.ga

structure LGood (n : Nat) (st : St) : Prop where
  t0 : 0 ≤ st.t
  t1 : st.t ≤ 400 * n
  us : ∀ i, i < 4 → 63 * st.t ≤ st.us i ∧ st.us i ≤ 65 * st.t
  ls : ∀ h s u, st.ls = some (h, s, u) → 1 ≤ h ∧ h ≤ 3 ∧ 1 ≤ s ∧ s ≤ n ∧ 0 ≤ u ∧ u ≤ 100000
  era : ∀ i, i < 3 → 0 ≤ st.era i ∧ st.era i ≤ n
  plen : st.pend.length ≤ n
  hlen : ∀ i, i < 3 → (st.hv i).length ≤ n
  pq : ∀ q ∈ st.pend, Okq n st q
  hq : ∀ i, i < 3 → ∀ q ∈ st.hv i, Okq n st q ∧ q.holder = i ∧ q.ans = true
  cov : ∀ q, Live st q → Cov st q
  rl : ∀ x ∈ st.pend, x.rel = true → x.ticks ≤ cur st.ls ∧ ∀ q, Live st q → q.holder = x.holder → x.ticks < q.gs

def lInit : St := { us := fun _ => 0, t := 0, ls := none, pend := [], hv := fun _ => [], era := fun _ => 0 }

theorem good_init : LGood 0 lInit where
  t0 := by simp [lInit]
  t1 := by simp [lInit]
  us := by simp [lInit]
  ls := by simp [lInit]
  era := by simp [lInit]
  plen := by simp [lInit]
  hlen := by simp [lInit]
  pq := by simp [lInit]
  hq := by simp [lInit]
  cov := by intro q h; simp [Live, lInit] at h
  rl := by simp [lInit]

theorem Okq.up {n : Nat} {st : St} {q : Q} (h : Okq n st q) : Okq (n + 1) st q := ⟨h.h0, h.h2, h.tk0, h.tk1, h.era0, h.era, h.ask, h.ans⟩
theorem LGood.up {n : Nat} {st : St} (h : LGood n st) : LGood (n + 1) st where
  t0 := h.t0
  t1 := by have := h.t1; omega
  us := h.us
  ls := fun a s u e => by have := h.ls a s u e; omega
  era := fun i hi => by have := h.era i hi; omega
  plen := by have := h.plen; omega
  hlen := fun i hi => by have := h.hlen i hi; omega
  pq := fun q hq => (h.pq q hq).up
  hq := fun i hi q hq => ⟨(h.hq i hi q hq).1.up, (h.hq i hi q hq).2⟩
  cov := h.cov
  rl := h.rl

theorem Live.okq {n : Nat} {st : St} (g : LGood n st) {q : Q} (h : Live st q) (h0 : q.holder.toNat < 3) : Okq n st q ∧ q.ans = true := by
  rcases h with h | h
  · exact ⟨(g.hq _ h0 q h).1, (g.hq _ h0 q h).2.2⟩
  · exact ⟨g.pq q h.1, h.2.1⟩

/-! ### time passes -/
def lAdv (st : St) (d : Int) (r : Nat → Int) : St := { st with us := fun i => st.us i + d * r i, t := st.t + d }

theorem mul_bd {d r : Int} (hd : 0 ≤ d) (h1 : 63 ≤ r) (h2 : r ≤ 65) : 63 * d ≤ d * r ∧ d * r ≤ 65 * d := by
  have h3 := Int.mul_le_mul_of_nonneg_left h1 hd
  have h4 := Int.mul_le_mul_of_nonneg_left h2 hd
  omega

theorem good_adv {n : Nat} {st : St} (g : LGood n st) {d : Int} {r : Nat → Int} (hd : 0 ≤ d) (hd1 : d ≤ 400) (hr : ∀ i, i < 4 → 63 ≤ r i ∧ r i ≤ 65) : LGood (n + 1) (lAdv st d r) := by
  have hb := fun i hi => mul_bd hd (hr i hi).1 (hr i hi).2
  have hok : ∀ q, Okq n st q → Okq (n + 1) (lAdv st d r) q := fun q o => ⟨o.h0, o.h2, o.tk0, o.tk1, o.era0, o.era, fun hrel => by
    obtain ⟨h1, τ, uh, hτ, huh, ha, hu, hg⟩ := o.ask hrel
    refine ⟨h1, τ + d, uh, by omega, huh, ha, ?_, fun hans => ?_⟩
    · have h2 := o.h2; have h0 := o.h0
      have := hb (1 + q.holder.toNat) (by omega)
      simp only [lAdv]; omega
    · obtain ⟨ug, h0, h1, h2⟩ := hg hans
      have := hb 0 (by omega)
      exact ⟨ug, h0, h1, by simp only [lAdv]; omega⟩, o.ans⟩
  refine ⟨by have := g.t0; simp only [lAdv]; omega, by have := g.t1; simp only [lAdv]; omega, fun i hi => ?_, fun a s u e => by have := g.ls a s u e; omega, fun i hi => by have := g.era i hi; simp only [lAdv]; omega,
    by have := g.plen; simp only [lAdv]; omega, fun i hi => by have := g.hlen i hi; simp only [lAdv]; omega, fun q hq => hok q (g.pq q hq), fun i hi q hq => ⟨hok q (g.hq i hi q hq).1, (g.hq i hi q hq).2⟩, fun q hl => ?_, g.rl⟩
  · have h1 := g.us i hi; have h2 := hb i hi; simp only [lAdv]; omega
  · rcases g.cov q hl with h | h
    · left
      have h2 := hb 0 (by omega)
      simp only [lAdv]
      omega
    · exact .inr h

/-! ### a holder asks -/
def askQ (st : St) (h : Nat) (k : Int) : Q := { holder := h, asked := st.us (1 + h) / 64, ticks := 1 + k, era := st.era h, gn := .empty, gh := 0, gs := 0, ga := 0, gt := 0, ans := false, rel := false }
def lAsk (st : St) (h : Nat) (k : Int) : St := { st with pend := st.pend ++ [askQ st h k] }

theorem good_ask {n : Nat} {st : St} (g : LGood n st) {h : Nat} (hh : h < 3) {k : Int} (hk : 0 ≤ k) (hk1 : k < 300) : LGood (n + 1) (lAsk st h k) := by
  have hok : ∀ q, Okq n st q → Okq (n + 1) (lAsk st h k) q := fun q o => ⟨o.h0, o.h2, o.tk0, o.tk1, o.era0, o.era, o.ask, o.ans⟩
  have hl : ∀ q, Live (lAsk st h k) q → Live st q := by
    rintro q (hq | ⟨hq, h1, h2, h3⟩)
    · exact .inl hq
    · simp only [lAsk, List.mem_append, List.mem_singleton] at hq
      rcases hq with hq | rfl
      · exact .inr ⟨hq, h1, h2, h3⟩
      · simp [askQ] at h1
  refine ⟨g.t0, by have := g.t1; simp only [lAsk]; omega, g.us, fun a s u e => by have := g.ls a s u e; omega, fun i hi => by have := g.era i hi; simp only [lAsk]; omega, by have := g.plen; simp [lAsk]; omega,
    fun i hi => by have := g.hlen i hi; simp only [lAsk]; omega, fun q hq => ?_, fun i hi q hq => ⟨hok q (g.hq i hi q hq).1, (g.hq i hi q hq).2⟩, fun q hq => g.cov q (hl q hq), fun x hx hr => ?_⟩
  · simp only [lAsk, List.mem_append, List.mem_singleton] at hq
    rcases hq with hq | rfl
    · exact hok q (g.pq q hq)
    · have he := g.era h hh
      have hu := g.us (1 + h) (by omega)
      have ht := g.t0
      exact ⟨by simp [askQ], by simp [askQ]; omega, by simp [askQ]; omega, by simp [askQ]; omega, by simp [askQ]; omega, by simp [askQ, lAsk], fun _ => ⟨by simp [askQ]; omega, 0, st.us (1 + h), by omega, by omega, rfl, by simp [askQ, lAsk], by simp [askQ]⟩, by simp [askQ]⟩
  · simp only [lAsk, List.mem_append, List.mem_singleton] at hx
    rcases hx with hx | rfl
    · have := g.rl x hx hr
      exact ⟨this.1, fun q hq => this.2 q (hl q hq)⟩
    · simp [askQ] at hr

/-! ### a holder releases -/
def relQ (h : Nat) (last : Int) : Q := { holder := h, asked := 0, ticks := last, era := 0, gn := .empty, gh := 0, gs := 0, ga := 0, gt := 0, ans := false, rel := true }
def lFree (st : St) (h : Nat) (last : Int) : St := { st with pend := st.pend ++ [relQ h last], hv := fun i => if i = h then [] else st.hv i, era := fun i => if i = h then st.era i + 1 else st.era i }

theorem good_free {n : Nat} (hn : n ≤ 100) {st : St} (g : LGood n st) {h : Nat} (hh : h < 3) {last : Int} (h0 : 0 ≤ last) (h1 : last ≤ cur st.ls) : LGood (n + 1) (lFree st h last) := by
  have hera : ∀ i, i < 3 → st.era i ≤ (lFree st h last).era i := fun i hi => by simp only [lFree]; split <;> omega
  have hok : ∀ q, Okq n st q → Okq (n + 1) (lFree st h last) q := fun q o => ⟨o.h0, o.h2, o.tk0, o.tk1, o.era0, Int.le_trans o.era (hera _ (by have := o.h2; have := o.h0; omega)), o.ask, o.ans⟩
  have hl : ∀ q, Live (lFree st h last) q → Live st q ∧ q.holder.toNat ≠ h := by
    rintro q (hq | ⟨hq, h1, h2, h3⟩)
    · simp only [lFree] at hq
      split at hq
      · cases hq
      · rename_i hne; exact ⟨.inl hq, hne⟩
    · simp only [lFree, List.mem_append, List.mem_singleton] at hq
      rcases hq with hq | rfl
      · have he := (g.pq q hq).era
        simp only [lFree] at h3
        split at h3
        · omega
        · rename_i hne; exact ⟨.inr ⟨hq, h1, h2, h3⟩, hne⟩
      · simp [relQ] at h1
  have hls : cur st.ls ≤ n := by
    cases e : st.ls with
    | none => simp [cur]
    | some x => obtain ⟨a, s, u⟩ := x; have := g.ls a s u e; simp [cur]; omega
  refine ⟨g.t0, by have := g.t1; simp only [lFree]; omega, g.us, fun a s u e => by have := g.ls a s u e; omega, fun i hi => by have := g.era i hi; simp only [lFree]; split <;> omega, by have := g.plen; simp [lFree]; omega,
    fun i hi => ?_, fun q hq => ?_, fun i hi q hq => ?_, fun q hq => g.cov q (hl q hq).1, fun x hx hr => ?_⟩
  · simp only [lFree]; split
    · simp
    · have := g.hlen i hi; omega
  · simp only [lFree, List.mem_append, List.mem_singleton] at hq
    rcases hq with hq | rfl
    · exact hok q (g.pq q hq)
    · have := g.era h hh
      exact ⟨by simp [relQ], by simp [relQ]; omega, h0, by simp [relQ]; omega, by simp [relQ], by simp [relQ, lFree]; omega, by simp [relQ], by simp [relQ]⟩
  · simp only [lFree] at hq
    split at hq
    · cases hq
    · exact ⟨hok q (g.hq i hi q hq).1, (g.hq i hi q hq).2⟩
  · simp only [lFree, List.mem_append, List.mem_singleton] at hx
    rcases hx with hx | rfl
    · have := g.rl x hx hr
      exact ⟨this.1, fun q hq => this.2 q (hl q hq).1⟩
    · refine ⟨h1, fun q hq e => ?_⟩
      have := (hl q hq).2
      simp [relQ] at e
      rw [e] at this
      simp at this

/-! ### a question leaves the pending ones -/
def lDrop (st : St) (m : Nat) : St := { st with pend := st.pend.take m ++ st.pend.drop (m + 1) }

theorem drop_mem {st : St} {m : Nat} {q : Q} (h : q ∈ (lDrop st m).pend) : q ∈ st.pend := by
  simp only [lDrop, List.mem_append] at h
  rcases h with h | h
  · exact List.mem_of_mem_take h
  · exact List.mem_of_mem_drop h

theorem good_drop {n : Nat} {st : St} (g : LGood n st) (m : Nat) (hm : m < st.pend.length) : LGood n (lDrop st m) ∧ (lDrop st m).pend.length + 1 ≤ n := by
  have hl : ∀ q, Live (lDrop st m) q → Live st q := by
    rintro q (hq | ⟨hq, h⟩)
    · exact .inl hq
    · exact .inr ⟨drop_mem hq, h⟩
  have hlen : (lDrop st m).pend.length + 1 = st.pend.length := by simp [lDrop]; omega
  have := g.plen
  exact ⟨⟨g.t0, g.t1, g.us, g.ls, g.era, by omega, g.hlen, fun q hq => by have o := g.pq q (drop_mem hq); exact ⟨o.h0, o.h2, o.tk0, o.tk1, o.era0, o.era, o.ask, o.ans⟩, fun i hi q hq => by
      have o := (g.hq i hi q hq).1; exact ⟨⟨o.h0, o.h2, o.tk0, o.tk1, o.era0, o.era, o.ask, o.ans⟩, (g.hq i hi q hq).2⟩, fun q hq => g.cov q (hl q hq), fun x hx hr => by
    have := g.rl x (drop_mem hx) hr; exact ⟨this.1, fun q hq => this.2 q (hl q hq)⟩⟩, by omega⟩

/-! ### the lRelease arrives -/
def relL (ls : Option (Int × Int × Int)) (h k : Int) : Option (Int × Int × Int) := match ls with
  | none => none
  | some (a, s, u) => if a = h ∧ s = k then some (a, s, 0) else some (a, s, u)
def lRelease (st : St) (m : Nat) (q : Q) : St := { lDrop st m with ls := relL st.ls (1 + q.holder) q.ticks }

theorem cur_rel (ls : Option (Int × Int × Int)) (h k : Int) : cur (relL ls h k) = cur ls := by
  unfold relL; split
  · rfl
  · split <;> simp [cur]

theorem good_release {n : Nat} {st : St} (g : LGood n st) (m : Nat) {q : Q} (hq : st.pend[m]? = some q) (hr : q.rel = true) : LGood n (lRelease st m q) := by
  have hm := (List.getElem?_eq_some_iff.1 hq).1
  have hmem := List.mem_of_getElem? hq
  obtain ⟨g', _⟩ := good_drop g m hm
  have hr' := g.rl q hmem hr
  have hl : ∀ x, Live (lRelease st m q) x → Live st x := by
    rintro x (hx | ⟨hx, h⟩)
    · exact .inl hx
    · exact .inr ⟨drop_mem hx, h⟩
  have hok : ∀ x, Okq n (lDrop st m) x → Okq n (lRelease st m q) x := fun x o => ⟨o.h0, o.h2, o.tk0, o.tk1, o.era0, o.era, o.ask, fun ha => by
    have := o.ans ha; simp only [lRelease, cur_rel]; exact this⟩
  refine ⟨g'.t0, g'.t1, g'.us, fun a s u e => ?_, g'.era, g'.plen, g'.hlen, fun x hx => hok x (g'.pq x hx), fun i hi x hx => ⟨hok x (g'.hq i hi x hx).1, (g'.hq i hi x hx).2⟩, fun x hx => ?_, fun x hx hrx => ?_⟩
  · simp only [lRelease, relL] at e
    split at e
    · cases e
    · rename_i a' s' u' hls
      have := g.ls a' s' u' hls
      split at e <;> (simp at e; omega)
  · rcases g.cov x (hl x hx) with h | ⟨s, u, hls, h1, h2⟩
    · exact .inl h
    · by_cases hc : x.holder + 1 = 1 + q.holder ∧ s = q.ticks
      · exfalso
        have := hr'.2 x (hl x hx) (by omega)
        omega
      · exact .inr ⟨s, u, by simp only [lRelease, relL, hls]; rw [if_neg hc], h1, h2⟩
  · have := g.rl x (drop_mem hx) hrx
    simp only [lRelease, cur_rel]
    exact ⟨this.1, fun y hy => this.2 y (hl y hy)⟩

/-! ### the grantor answers -/
def grantL (h0 s0 u0 h t w : Int) : Option (Int × Int × Int) := if w < u0 then (if h0 = h then some (h, s0 + 1, max (w + (t + t / 16 + 2)) u0) else none) else some (h, s0 + 1, w + (t + t / 16 + 2))
def l3 : Option (Int × Int × Int) → Int × Int × Int
  | none => (0, 0, 0)
  | some x => x
def ansQ (q : Q) (nm : ByteArray) (s w : Int) : Q := { q with gn := nm, gh := 1 + q.holder, gs := s, ga := w, gt := q.ticks, ans := true }
def lGranted (st : St) (m : Nat) (q : Q) (nm : ByteArray) (x : Int × Int × Int) : St := { lDrop st m with ls := some x, pend := (lDrop st m).pend ++ [ansQ q nm x.2.1 (st.us 0 / 64)] }

theorem good_granted {n : Nat} (hn : n ≤ 60) {st : St} (g : LGood n st) (m : Nat) {q : Q} (hq : st.pend[m]? = some q) (hr : q.rel = false) (ha : q.ans = false) (nm : ByteArray) {x : Int × Int × Int}
    (hx : grantL (l3 st.ls).1 (l3 st.ls).2.1 (l3 st.ls).2.2 (1 + q.holder) q.ticks (st.us 0 / 64) = some x) : LGood (n + 1) (lGranted st m q nm x) := by
  have hm := (List.getElem?_eq_some_iff.1 hq).1
  have hmem := List.mem_of_getElem? hq
  obtain ⟨g', hlen⟩ := good_drop g m hm
  have oq := g.pq q hmem
  have hu0 := g.us 0 (by omega)
  have ht0 := g.t0; have ht1 := g.t1
  have htk := (oq.ask hr).1
  have htk1 := oq.tk1
  have hh0 := oq.h0; have hh2 := oq.h2
  obtain ⟨x1, x2, x3⟩ := x
  have hcur : cur st.ls = (l3 st.ls).2.1 := by cases st.ls <;> rfl
  have hx' : x1 = 1 + q.holder ∧ x2 = cur st.ls + 1 ∧ st.us 0 / 64 + marg q.ticks ≤ x3 ∧ x3 ≤ 100000 ∧ (∀ h s u, st.ls = some (h, s, u) → u ≤ st.us 0 / 64 ∨ (h = 1 + q.holder ∧ u ≤ x3)) := by
    unfold grantL at hx
    have hlb : (l3 st.ls).2.2 ≤ 100000 := by
      cases e : st.ls with
      | none => simp [l3]
      | some y => obtain ⟨a, s, u⟩ := y; have := g.ls a s u e; simp [l3]; omega
    unfold marg
    split at hx
    · split at hx
      · rename_i hw he
        simp at hx
        obtain ⟨rfl, rfl, rfl⟩ := hx
        refine ⟨rfl, by rw [hcur], by omega, by omega, fun h s u e => ?_⟩
        rw [e] at he
        simp only [l3] at he
        rw [e]
        simp only [l3]
        omega
      · cases hx
    · rename_i hw
      simp at hx
      obtain ⟨rfl, rfl, rfl⟩ := hx
      refine ⟨rfl, by rw [hcur], by omega, by omega, fun h s u e => ?_⟩
      rw [e] at hw
      simp only [l3] at hw
      left; omega
  obtain ⟨rfl, rfl, h3, h4, h5⟩ := hx'
  have hcn : cur st.ls ≤ n := by
    cases e : st.ls with
    | none => simp [cur]
    | some y => obtain ⟨a, s, u⟩ := y; have := g.ls a s u e; simp [cur]; omega
  have hc0 : 0 ≤ cur st.ls := by
    cases e : st.ls with
    | none => simp [cur]
    | some y => obtain ⟨a, s, u⟩ := y; have := g.ls a s u e; simp [cur]; omega
  have hok : ∀ y, Okq n (lDrop st m) y → Okq (n + 1) (lGranted st m q nm (1 + q.holder, cur st.ls + 1, x3)) y := fun y o => ⟨o.h0, o.h2, o.tk0, o.tk1, o.era0, o.era, o.ask, fun ha => by
    have := o.ans ha
    refine ⟨this.1, this.2.1, this.2.2.1, ?_, this.2.2.2.2⟩
    have h4 : y.gs ≤ cur st.ls := this.2.2.2.1
    show y.gs ≤ cur st.ls + 1
    omega⟩
  have hl : ∀ y, Live (lGranted st m q nm (1 + q.holder, cur st.ls + 1, x3)) y → Live st y ∨ y = ansQ q nm (cur st.ls + 1) (st.us 0 / 64) := by
    rintro y (hy | ⟨hy, h⟩)
    · exact .inl (.inl hy)
    · simp only [lGranted, List.mem_append, List.mem_singleton] at hy
      rcases hy with hy | hy
      · exact .inl (.inr ⟨drop_mem hy, h⟩)
      · exact .inr hy
  have hnewok : Okq (n + 1) (lGranted st m q nm (1 + q.holder, cur st.ls + 1, x3)) (ansQ q nm (cur st.ls + 1) (st.us 0 / 64)) := by
    obtain ⟨_, τ, uh, hτ, huh, hask, hus, _⟩ := oq.ask hr
    refine ⟨hh0, hh2, oq.tk0, htk1, oq.era0, oq.era, fun _ => ⟨htk, τ, uh, hτ, huh, hask, hus, fun _ => ⟨st.us 0, by omega, rfl, ?_⟩⟩, fun _ => ⟨hr, rfl, ?_, ?_, ?_⟩⟩
    · simp only [lGranted, lDrop]; omega
    · simp only [ansQ]; omega
    · simp [ansQ, lGranted, cur]
    · simp only [ansQ]; omega
  refine ⟨g'.t0, by have := g'.t1; simp only [lGranted, lDrop]; omega, g'.us, fun a s u e => ?_, fun i hi => by have := g'.era i hi; simp only [lGranted]; omega, by simp [lGranted] at hlen ⊢; omega, fun i hi => by have := g'.hlen i hi; simp only [lGranted]; omega, fun y hy => ?_, fun i hi y hy => ⟨hok y (g'.hq i hi y hy).1, (g'.hq i hi y hy).2⟩, fun y hy => ?_, fun y hy hry => ?_⟩
  · simp only [lGranted] at e
    simp at e
    unfold marg at h3
    omega
  · simp only [lGranted, List.mem_append, List.mem_singleton] at hy
    rcases hy with hy | rfl
    · exact hok y (g'.pq y hy)
    · exact hnewok
  · rcases hl y hy with hy | rfl
    · rcases g.cov y hy with h | ⟨s, u, hls, h1, h2⟩
      · exact .inl h
      · rcases h5 _ _ _ hls with h | ⟨h, h'⟩
        · left
          show y.ga + marg y.gt ≤ st.us 0 / 64
          omega
        · refine .inr ⟨cur st.ls + 1, x3, ?_, by omega, ?_⟩
          · simp only [lGranted]; rw [h]
          · rw [hls]; simp only [cur]; omega
    · exact .inr ⟨cur st.ls + 1, x3, by simp only [lGranted, ansQ]; rw [Int.add_comm], h3, by simp [ansQ]⟩
  · simp only [lGranted, List.mem_append, List.mem_singleton] at hy
    rcases hy with hy | rfl
    · have := g.rl y (drop_mem hy) hry
      refine ⟨by show y.ticks ≤ cur st.ls + 1; omega, fun z hz e => ?_⟩
      rcases hl z hz with hz | rfl
      · exact this.2 z hz e
      · simp only [ansQ]; omega
    · simp [ansQ, hr] at hry

/-! ### the answer arrives -/
def lArrive (st : St) (m : Nat) (q : Q) : St := { lDrop st m with hv := fun i => if i = q.holder.toNat then st.hv i ++ [q] else st.hv i }

theorem good_arrive {n : Nat} {st : St} (g : LGood n st) (m : Nat) {q : Q} (hq : st.pend[m]? = some q) (hr : q.rel = false) (ha : q.ans = true) (he : q.era = st.era q.holder.toNat) : LGood (n + 1) (lArrive st m q) := by
  have hm := (List.getElem?_eq_some_iff.1 hq).1
  have hmem := List.mem_of_getElem? hq
  obtain ⟨g', hlen⟩ := good_drop g m hm
  have oq := g.pq q hmem
  have hl : ∀ y, Live (lArrive st m q) y → Live st y := by
    rintro y (hy | ⟨hy, h⟩)
    · simp only [lArrive] at hy
      split at hy
      · rename_i hi
        rw [List.mem_append, List.mem_singleton] at hy
        rcases hy with hy | rfl
        · exact .inl hy
        · exact .inr ⟨hmem, ha, hr, he⟩
      · exact .inl hy
    · exact .inr ⟨drop_mem hy, h⟩
  have hok : ∀ y, Okq n (lDrop st m) y → Okq (n + 1) (lArrive st m q) y := fun y o => ⟨o.h0, o.h2, o.tk0, o.tk1, o.era0, o.era, o.ask, o.ans⟩
  refine ⟨g'.t0, by have := g'.t1; simp only [lArrive]; omega, g'.us, fun a s u e => by have := g'.ls a s u e; omega, fun i hi => by have := g'.era i hi; simp only [lArrive]; omega, by have := g'.plen; simp only [lArrive]; omega, fun i hi => ?_, fun y hy => hok y (g'.pq y hy), fun i hi y hy => ?_, fun y hy => g.cov y (hl y hy), fun y hy hry => ?_⟩
  · have := g.hlen i hi
    simp only [lArrive]; split
    · simp; omega
    · omega
  · simp only [lArrive] at hy
    split at hy
    · rename_i hi'
      rw [List.mem_append, List.mem_singleton] at hy
      rcases hy with hy | rfl
      · exact ⟨hok y (g'.hq i hi y hy).1, (g'.hq i hi y hy).2⟩
      · refine ⟨⟨oq.h0, oq.h2, oq.tk0, oq.tk1, oq.era0, oq.era, oq.ask, oq.ans⟩, ?_, ha⟩
        have := oq.h0; omega
    · exact ⟨hok y (g'.hq i hi y hy).1, (g'.hq i hi y hy).2⟩
  · have := g.rl y (drop_mem hy) hry
    exact ⟨this.1, fun z hz => this.2 z (hl z hz)⟩

/-! ### nobody else is a user -/
def Use (st : St) (h : Nat) : Prop := ∃ q ∈ st.hv h, st.us (1 + h) / 64 - q.asked < q.gt

theorem asked_le {n : Nat} {st : St} (g : LGood n st) {h : Nat} (hh : h < 3) {q : Q} (hq : q ∈ st.hv h) : 0 ≤ q.asked ∧ q.asked ≤ st.us (1 + h) / 64 ∧ 1 ≤ q.gt ∧ q.gt ≤ 300 ∧ q.holder = h := by
  obtain ⟨o, hh', ha⟩ := g.hq h hh q hq
  have h1 := o.ans ha
  obtain ⟨h2, τ, uh, hτ, huh, hask, hus, _⟩ := o.ask h1.1
  rw [hh'] at hus
  have := o.tk1
  simp only [Int.toNat_natCast] at hus
  refine ⟨by omega, by omega, by omega, by omega, hh'⟩

theorem exclusive {n : Nat} {st : St} (g : LGood n st) {i j : Nat} (hi : i < 3) (hj : j < 3) (ui : Use st i) (uj : Use st j) : i = j := by
  have key : ∀ h, h < 3 → Use st h → ∃ s u, st.ls = some ((h : Int) + 1, s, u) := by
    rintro h hh ⟨q, hq, hv⟩
    obtain ⟨o, hh', ha⟩ := g.hq h hh q hq
    have hlive : Live st q := .inl (by rw [hh']; simpa using hq)
    have h1 := o.ans ha
    obtain ⟨h2, τ, uh, hτ, huh, hask, hus, hg⟩ := o.ask h1.1
    obtain ⟨ug, hug, hga, hu0⟩ := hg ha
    rcases g.cov q hlive with hc | ⟨s, u, hls, _, _⟩
    · exfalso
      unfold marg at hc
      rw [hh'] at hus
      simp only [Int.toNat_natCast] at hus
      have := o.tk1
      omega
    · rw [hh'] at hls; exact ⟨s, u, hls⟩
  obtain ⟨s, u, h1⟩ := key i hi ui
  obtain ⟨s', u', h2⟩ := key j hj uj
  rw [h1] at h2
  simp at h2
  omega
end Go.Proofs.Ytdhfahimildfkaa.LeaseLaw
