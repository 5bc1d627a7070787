/- What a quorum agrees on: in plain Lean. -/
import Derived.Test.YtdkefpnebmmhlaaRPureL
import Derived.Test.YtdkefpnebmmhlaaSlCore
namespace Go.Proofs.Ytdkefpnebmmhlaa.Rep
set_option linter.unusedVariables false
open Cfg

def agStep (o n : List Int) (q : Int → Int) (V : List Int) (b v : Int) : Int := if b < q v ∧ quor o n (V.filter fun r => !decide (q r < q v)) = true then q v else b
def agr (o n : List Int) (q : Int → Int) : Int := (setL (o ++ n)).foldl (agStep o n q (setL (o ++ n))) 0
theorem foldl_take {α β : Type} {f : β → α → β} {b : β} {l : List α} {i : Nat} {a : α} (h : l[i]? = some a) : (l.take (i + 1)).foldl f b = f ((l.take i).foldl f b) a := by
  rw [List.take_add_one, h, List.foldl_append]; rfl
theorem ag_bound {o n : List Int} {q : Int → Int} {V : List Int} {hi : Int} (h : ∀ z, 0 ≤ q z ∧ q z ≤ hi) (h0 : 0 ≤ hi) (l : List Int) : ∀ b, 0 ≤ b → b ≤ hi → 0 ≤ l.foldl (agStep o n q V) b ∧ l.foldl (agStep o n q V) b ≤ hi := by
  induction l with
  | nil => exact fun b h1 h2 => ⟨h1, h2⟩
  | cons a r ih =>
    intro b h1 h2
    rw [List.foldl_cons]
    refine ih _ ?_ ?_ <;> unfold agStep <;> split
    · exact (h a).1
    · exact h1
    · exact (h a).2
    · exact h2
theorem agr_bound {o n : List Int} {q : Int → Int} {hi : Int} (h : ∀ z, 0 ≤ q z ∧ q z ≤ hi) (h0 : 0 ≤ hi) : 0 ≤ agr o n q ∧ agr o n q ≤ hi := ag_bound h h0 _ _ (Int.le_refl 0) h0
/-- how far a member has come, as the leader sees it -/
def qf (ms : List Mb) (last z : Int) : Int := if z = 1 then last else ((fnd ms z).map (·.mt)).getD 0
theorem qf_bound {ms : List Mb} (hK : MOK ms) {last : Int} (h0 : 0 ≤ last) (h1 : last ≤ 1099511628780) (z : Int) : 0 ≤ qf ms last z ∧ qf ms last z ≤ 1099511628780 := by
  unfold qf
  split
  · exact ⟨h0, h1⟩
  · cases hf : fnd ms z with
    | none => simp
    | some x =>
      have hm := hK.mt x (fnd_some hf).1
      have hb := hK.big x (fnd_some hf).1
      simp only [Option.map_some, Option.getD_some]
      omega
def cmt (ms : List Mb) (o n : List Int) (g : Lg) (tm cm : Int) : Int :=
  if (cm < agr o n (qf ms g.last.1) ∧ (g.term (agr o n (qf ms g.last.1))).2 = true) ∧ (g.term (agr o n (qf ms g.last.1))).1 = tm then agr o n (qf ms g.last.1) else cm
/-- an operation of the laws, and where its list lies -/
structure OpS where
  kd : Int
  a : Int
  b : Int
  l : List Int
  p : Option Addr
  c : Nat
def OpS.ok (o : OpS) : Prop := o.l.length ≤ 8 ∧ o.a ≤ 1099511627776 ∧ o.b ≤ 1099511627776 ∧ -1099511627776 ≤ o.b
instance (o : OpS) : Decidable o.ok := inferInstanceAs (Decidable (_ ∧ _))
def OpS.run (ms : List Mb) (o : OpS) : List Mb := stp o.kd o.a o.b o.l ms
theorem runs_ok {ops : List OpS} (h : ∀ o ∈ ops, o.ok) : ∀ {ms : List Mb}, MOK ms → MOK (ops.foldl OpS.run ms) := by
  induction ops with
  | nil => exact fun h => h
  | cons o r ih => exact fun hm => ih (fun o h1 => h o (List.mem_cons_of_mem _ h1)) (hm.stp (h o (List.mem_cons_self)).2.1 (h o (List.mem_cons_self)).2.2.1 (h o (List.mem_cons_self)).1)
theorem mem_take_of {α : Type} {l : List α} {j : Nat} {a : α} (h : a ∈ l.take j) : a ∈ l := List.mem_of_mem_take h
/-- the log that the laws build -/
def lgs (s : Int) (bs : List Int) : Nat → Lg × Int
  | 0 => (⟨max (s % 6) 0, max 1 0, []⟩, 1)
  | j + 1 => let t := (lgs s bs j).2 + ((bs[j]?).getD 0) % 4 / 3; ((lgs s bs j).1.put t j, t)
theorem lgs_ok {s : Int} {bs : List Int} (h0 : 0 ≤ s) (h1 : s ≤ 255) (hb : ∀ b ∈ bs, 0 ≤ b ∧ b ≤ 255) : ∀ j, j ≤ 999 → LOK (lgs s bs j).1 ∧ (lgs s bs j).1.last.2 = (lgs s bs j).2 ∧ (lgs s bs j).1.es.length = j ∧ 1 ≤ (lgs s bs j).2 ∧ (lgs s bs j).2 ≤ 1 + 2 * j ∧ (lgs s bs j).1.ix ≤ 255
  | 0, _ => by
    have : s % 6 ≤ 255 := by omega
    exact ⟨⟨by show 0 ≤ max (s % 6) 0; omega, by show max (s % 6) 0 ≤ _; omega, fun i e h => by simp [lgs] at h, by simp [lgs]⟩, rfl, rfl, by simp [lgs], by simp [lgs], by show max (s % 6) 0 ≤ _; omega⟩
  | j + 1, hj => by
    obtain ⟨i1, i2, i3, i4, i5, i6⟩ := lgs_ok h0 h1 hb j (by omega)
    have hd : 0 ≤ ((bs[j]?).getD 0) % 4 / 3 ∧ ((bs[j]?).getD 0) % 4 / 3 ≤ 1 := by omega
    refine ⟨i1.put (by omega), ?_, by simp [lgs, Lg.put, i3], by simp only [lgs]; omega, by simp only [lgs]; omega, i6⟩
    simp [lgs, Lg.put, Lg.last]
end Go.Proofs.Ytdkefpnebmmhlaa.Rep
