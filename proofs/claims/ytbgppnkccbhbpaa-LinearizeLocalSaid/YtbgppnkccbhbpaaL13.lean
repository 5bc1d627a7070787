/- The examples. Written by program (walk.py). -/
import Derived.Test.YtbgppnkccbhbpaaL12
import Derived.Test.YtbgppnkccbhbpaaLPurA
namespace Go.Proofs.Ytbgppnkccbhbpaa
open SL HistLaw Cfg
set_option linter.unusedVariables false
set_option linter.unusedSimpArgs false

theorem HistLaw.allLv_eq {l : List O} : AllLv l ↔ AllLive l := Iff.rfl
theorem HistLaw.chk_ok {l : List O} (hv : Valid l) (h : AllLive l) : chk l = 0 := by unfold chk; rw [if_pos (@decide_eq_true _ (Classical.propDecidable _) hv), if_pos (allLiveB_iff.2 h)]
theorem HistLaw.chk_no {l : List O} (hv : Valid l) (h : ¬ AllLive l) : chk l = 13 := by unfold chk; rw [if_pos (@decide_eq_true _ (Classical.propDecidable _) hv), if_neg (fun e => h (allLiveB_iff.1 e))]
theorem HistLaw.w64_small {x : Int} (h0 : 0 ≤ x) (h1 : x < 100) : w64 x = x := by unfold w64; exact IntWalk.i64_in _ ⟨by omega, by omega⟩
theorem HistLaw.ex2_first {r : Int} (h : FirstP [exP, exQ] r) : r = -1 := h.1 (by rw [chk_ok ex2_valid ex2_live]; decide)
theorem HistLaw.ex3_first {r : Int} (h : FirstP [exP, exQ, exR] r) : r = 5 := by
  have hc : chk [exP, exQ, exR] = 13 := chk_no ex3_valid ex3_dead
  have hm : ∀ e, e ∈ srt (endsL [exP, exQ, exR]) ↔ e = 3 ∨ e = 2 ∨ e = 5 := fun e => by
    unfold srt
    rw [List.mem_mergeSort, show endsL [exP, exQ, exR] = [3, 2, 5] from rfl]
    simp
  have h3 : chk (prefixL (w64 (2 + 1)) [exP, exQ, exR]) ≠ 13 := by rw [w64_small (by decide) (by decide)]; rw [show prefixL (2 + 1) [exP, exQ, exR] = prefixL 3 [exP, exQ, exR] from rfl, chk_ok ex_p3.1 ex_p3.2]; decide
  have h4 : chk (prefixL (w64 (3 + 1)) [exP, exQ, exR]) ≠ 13 := by rw [w64_small (by decide) (by decide)]; rw [show prefixL (3 + 1) [exP, exQ, exR] = prefixL 4 [exP, exQ, exR] from rfl, chk_ok ex_p4.1 ex_p4.2]; decide
  have h6 : chk (prefixL (w64 (5 + 1)) [exP, exQ, exR]) = 13 := by rw [w64_small (by decide) (by decide)]; rw [show prefixL (5 + 1) [exP, exQ, exR] = prefixL 6 [exP, exQ, exR] from rfl, ex_p6, hc]
  rcases h.2 hc with ⟨_, h7⟩ | ⟨i, hi, hr, _⟩
  · exact absurd h6 (h7 5 ((hm 5).2 (by simp)))
  · rcases (hm r).1 (List.mem_of_getElem? hi) with e | e | e
    · subst e; exact absurd hr h4
    · subst e; exact absurd hr h3
    · exact e

end Go.Proofs.Ytbgppnkccbhbpaa
