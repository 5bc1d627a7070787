/- Lists of numbers as bytes. Written by program (walk2.py). -/
import Derived.Test.YtdjmdfnhnlijiaaGreatDoorW3
import Derived.Test.YtdjmdfnhnlijiaaGreatDoorWLists
namespace Go.Proofs.YtdjmdfnhnlijiaaGreatDoor
open SL Cfg
set_option linter.unusedVariables false
set_option linter.unusedSimpArgs false

def Cfg.sv (s : Option Addr × Nat × List Int) : Value := .slice s.1 s.2.2.length s.2.1
def Cfg.encW (ss : List (Option Addr × Nat × List Int)) : List Int := ss.flatMap fun s => encL s.2.2
def Cfg.SmS (ss : List (Option Addr × Nat × List Int)) : Prop := ∀ s ∈ ss, AllI s.2.2 ∧ s.2.2.length ≤ 10000
theorem Cfg.encW_le : ∀ {ss : List (Option Addr × Nat × List Int)}, SmS ss → (encW ss).length ≤ ss.length * 90009
  | [], _ => by simp [encW]
  | s :: ss, h => by
    have h1 := h s (by simp)
    have h2 := encW_le (ss := ss) fun t ht => h t (List.mem_cons_of_mem _ ht)
    have h3 := encL_le h1.1 (by omega)
    unfold encW at h2 ⊢
    simp only [List.flatMap_cons, List.length_append, List.length_cons]
    omega
theorem Cfg.SmS.take {ss : List (Option Addr × Nat × List Int)} (h : SmS ss) (k : Nat) : SmS (ss.take k) := fun s hs => h s (List.mem_of_mem_take hs)
theorem Cfg.encW_take {ss : List (Option Addr × Nat × List Int)} {i : Nat} {s : Option Addr × Nat × List Int} (h : ss[i]? = some s) : encW (ss.take (i + 1)) = encW (ss.take i) ++ encL s.2.2 := by
  unfold encW; rw [List.take_add_one, h]; simp
theorem Cfg.flatZ_take {l : List Int} {j : Nat} {z : Int} (h : l[j]? = some z) : (l.take (j + 1)).flatMap encZ = (l.take j).flatMap encZ ++ encZ z := by
  rw [List.take_add_one, h]; simp
theorem Cfg.sv_row {b e : Nat} {ss : List (Option Addr × Nat × List Int)} {cs : List Value} (hcs : cs = ss.map sv) (hm : ss.length ≤ 100) : Sl (single b (.cells cs.toArray e (0, 0))) (some ⟨b, 0, none⟩) ss.length 1 (ss.map SV) := by
  have hf : (ss.map SV).flatten = ss.map sv := by
    clear hcs hm
    induction ss with
    | nil => rfl
    | cons s ss ih => simp [SV, sv, ih]
  have := (Own.mk (b := b) (c := ss.length) (e := e) (n := 1) (ls := ss.map SV) [] (fun r hr => by obtain ⟨s, _, rfl⟩ := List.mem_map.1 hr; exact ⟨rfl, by simp [SV, Value.oneCell']⟩) (by simp) (by simp only [maxLen]; omega) (by rw [List.append_nil, hf]; simp) (cs := cs) (by rw [hcs, List.append_nil, hf])).sl
  exact this
theorem Cfg.put_mid {ss r : List (Option Addr × Nat × List Int)} {c d : Option Addr × Nat × List Int} : putAt ((ss ++ c :: r).map sv) ss.length [sv d] = (ss ++ d :: r).map sv := by
  have h := putAt_right (a := ss.map sv) (r := sv c :: r.map sv) (o := 0) (vs := [sv d])
  rw [List.length_map, Nat.add_zero] at h
  rw [List.map_append, List.map_cons, h, List.map_append, List.map_cons]
  simp [putAt]
theorem Cfg.get_mid {ss r : List (Option Addr × Nat × List Int)} {c : Option Addr × Nat × List Int} : ((ss ++ c :: r).map sv)[ss.length]? = some (sv c) := by simp
def Cfg.rdLs : Nat → RS → List (List Int) × RS
  | 0, s => ([], s)
  | k + 1, s => ((rdLs k s).1 ++ [(rdL (rdLs k s).2).1], (rdL (rdLs k s).2).2)
theorem Cfg.rdLs_three (s : RS) : rdLs 3 s = ([(rdL s).1, (rdL (rdL s).2).1, (rdL (rdL (rdL s).2).2).1], (rdL (rdL (rdL s).2).2).2) := rfl
theorem Cfg.rdN_short (s : RS) : (rdN s).2.1.length ≤ s.1.length := by
  unfold rdN
  split
  · exact Nat.le_refl _
  · split
    · rename_i n r e; exact Nat.le_of_lt (decN_short e)
    · simp
theorem Cfg.rdZ_short (s : RS) : (rdZ s).2.1.length ≤ s.1.length := rdN_short s
theorem Cfg.rdC_short (s : RS) (m : Int) : (rdC s m).2.1.length ≤ s.1.length := by
  unfold rdC
  split
  · exact Nat.le_refl _
  · split
    · rename_i n r e
      split
      · simp
      · exact Nat.le_of_lt (decN_short e)
    · simp
theorem Cfg.rdZs_short (k : Nat) (s : RS) : (rdZs k s).2.1.length ≤ s.1.length := by
  induction k with
  | zero => exact Nat.le_refl _
  | succ k ih => exact Nat.le_trans (rdZ_short _) ih
structure Cfg.DS where
  x : Rd
  ss : List (Option Addr × Nat × List Int)
  H : PH
structure Cfg.DZ where
  k : Nat
  x : Rd
  p : Option Addr
  c : Nat
  l : List Int
  H : PH

end Go.Proofs.YtdjmdfnhnlijiaaGreatDoor
