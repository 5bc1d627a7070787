/- Verify. Written by program (walk.py). -/
import Derived.Test.YtbgppnkccbhbpaaL9
import Derived.Test.YtbgppnkccbhbpaaLPurW
namespace Go.Proofs.Ytbgppnkccbhbpaa
open SL HistLaw Cfg
set_option linter.unusedVariables false
set_option linter.unusedSimpArgs false
theorem zv3 : zv Try.prog 3 (.int .i64 0) := (by kernel_rfl : (Try.prog.info? 3).bind (·.zero) = some (.int .i64 0))
theorem zv68 : zv Try.prog 68 (.agg #[.bool false, .int .i64 0]) := (by kernel_rfl : (Try.prog.info? 68).bind (·.zero) = some (.agg #[.bool false, .int .i64 0]))
def HistLaw.AT (ord : List Int) (n : Nat) (m : List (Int × Value)) : Prop := (∀ (i : Nat) z, i < n → ord[i]? = some z → mget m z = some (.int .i64 (i : Int))) ∧ ∀ z, (mget m z).isSome = true → z ∈ ord.take n
def HistLaw.posA (m : List (Int × Value)) (z : Int) : Int := match mget m z with
  | some (.int _ n) => n
  | _ => 0
theorem HistLaw.AT.some {ord : List Int} {n : Nat} {m : List (Int × Value)} (h : AT ord n m) {z : Int} (hz : (mget m z).isSome = true) : ∃ i : Nat, i < n ∧ ord[i]? = some z ∧ mget m z = some (.int .i64 (i : Int)) ∧ posA m z = i := by
  obtain ⟨i, hi⟩ := List.getElem?_of_mem (h.2 z hz)
  rw [List.getElem?_take] at hi
  split at hi
  · rename_i hlt
    have h2 := h.1 i z hlt hi
    exact ⟨i, hlt, hi, h2, by unfold posA; rw [h2]⟩
  · cases hi
theorem HistLaw.AT.val {ord : List Int} {n : Nat} {m : List (Int × Value)} (h : AT ord n m) (z : Int) : (mget m z).getD (.int .i64 0) = .int .i64 (posA m z) := by
  cases e : mget m z with
  | none => unfold posA; rw [e]; rfl
  | some v =>
    obtain ⟨i, _, _, h2, h3⟩ := h.some (z := z) (by rw [e]; rfl)
    rw [h3]; rw [e] at h2; cases h2; rfl
theorem HistLaw.AT.zero (ord : List Int) : AT ord 0 [] := ⟨fun i z h => absurd h (Nat.not_lt_zero _), fun z h => by simp [mget] at h⟩
theorem HistLaw.AT.step {ord : List Int} {n : Nat} {m : List (Int × Value)} {z : Int} (h : AT ord n m) (hz : ord[n]? = Option.some z) (hn : z ∉ ord.take n) : AT ord (n + 1) (mset m z (.int .i64 (n : Int))) := by
  refine ⟨fun i y hi hy => ?_, fun y hy => ?_⟩
  · rw [mget_mset]
    by_cases e : i = n
    · subst e; rw [hz] at hy; cases hy; rw [if_pos rfl]
    · have : z ≠ y := by
        rintro rfl
        exact hn (List.mem_of_getElem? (i := i) (by rw [List.getElem?_take, if_pos (by omega)]; exact hy))
      rw [if_neg this]
      exact h.1 i y (by omega) hy
  · rw [take_snoc hz, List.mem_append, List.mem_singleton]
    rw [mget_mset] at hy
    by_cases e : z = y
    · exact .inr e.symm
    · rw [if_neg e] at hy; exact .inl (h.2 y hy)
def HistLaw.CT (l : List O) (ord : List Int) (n : Nat) (m : List (Ky × Value)) : Prop := ∀ k, (mget m k).getD (.agg [.bool false, .int .i64 0].toArray) = .agg [.bool (repC l k (false, 0) (ord.take n)).1, .int .i64 (repC l k (false, 0) (ord.take n)).2].toArray
theorem HistLaw.CT.step {l : List O} {ord : List Int} {n : Nat} {m : List (Ky × Value)} {z : Int} {a : O} (h : CT l ord n m) (hz : ord[n]? = some z) (ha : l[z.toNat]? = some a) : CT l ord (n + 1) (mset m a.key (.agg [.bool (doL (repC l a.key (false, 0) (ord.take n)) a).1.1, .int .i64 (doL (repC l a.key (false, 0) (ord.take n)) a).1.2].toArray)) := by
  intro k
  rw [mget_mset, repC_step hz ha]
  by_cases e : a.key = k
  · subst e; rw [if_pos rfl, if_pos rfl]; rfl
  · rw [if_neg e, if_neg e]; exact h k
structure HistLaw.V1 where
  n : Nat
  es : Array MapEntry
  ck : Nat
  m : List (Int × Value)
  es2 : Array MapEntry
  ck2 : Nat
  m2 : List (Ky × Value)

set_option maxRecDepth 100000 in
set_option maxHeartbeats 6400000 in
theorem verify_ct (l : List O) (hl60 : l.length ≤ 60) (H1 : PH) (p : Option Addr) (c : Nat) (hS : Sl H1 p c 12 (l.map O.c)) (ord : List Int) (H2 : PH) (q : Option Addr) (d : Nat) (hQ : Sl H2 q d 1 (iz ord)) : Ct Try.prog 18 [.slice p (l.map O.c).length c, .slice q ord.length d] [H1, H2] (fun v Hs => v = .bool (verB l ord) ∧ Hs = [H1, H2]) := by
  refine Ct.body Try.func18 rfl Try.ntmps18 rfl ?_
  intro E F
  have hmax := hS.len_le
  simp only [maxLen] at hmax
  have hll : (l.map O.c).length = l.length := by simp
  have hmq := hQ.len_le
  simp only [iz_len, maxLen] at hmq
  refine W.seq ?_
  refine W.region ?_
  refine RL.q (Yld.assign rfl) rfl ?_
  refine RL.nil ?_
  refine N.next ?_
  refine W.seq ?_
  refine W.seq ?_
  refine W.region ?_
  refine RL.q (Yld.move rfl) rfl ?_
  refine RL.e (Eff.call ent25 [1] [1] (.cons rfl .nil) (hvalidB_ct l H1 p c hS) rfl rfl rfl rfl (by rintro _ _ ⟨_, rfl⟩; rfl)) rfl ?_
  rintro _ _ ⟨_, ⟨rfl, rfl⟩, rfl⟩
  refine RL.q (by first | exact Yld.notD rfl | exact Yld.not rfl) rfl ?_
  refine RL.nil ?_
  refine N.next ?_
  refine W.cond rfl (fun hc23 => ?_) (fun hc23 => ?_)
  ·
    have hnv : ¬ VerOK l ord := fun h => by rw [validB_iff.2 h.val] at hc23; cases hc23
    refine W.seq ?_
    refine W.region ?_
    refine RL.q (Yld.assign rfl) rfl ?_
    refine RL.nil ?_
    refine N.next ?_
    refine W.keep (.cons (k := 4) rfl .nil) (.cons (k := 0) rfl (.cons (k := 1) rfl (.cons (k := 2) rfl .nil))) ?_
    refine W.ret ?_
    refine N.then_ret ?_
    exact N.retBy [1, 2] (.cons (.tmp rfl) .nil) rfl rfl rfl rfl ⟨by rw [verB_not hnv]; rfl, rfl⟩
  ·
    have hv : Valid l := validB_iff.1 (by simpa using hc23)
    refine W.skip ?_
    refine N.next ?_
    refine W.keep (.cons (k := 0) rfl (.cons (k := 1) rfl .nil)) (.cons (k := 0) rfl (.cons (k := 1) rfl (.cons (k := 2) rfl .nil))) ?_
    refine W.seq ?_
    refine W.region ?_
    refine RL.e (Eff.makeMap 124) rfl ?_
    rintro _ _ ⟨b24, rfl, rfl⟩
    refine RL.q (Yld.assign rfl) rfl ?_
    refine RL.nil ?_
    refine N.next ?_
    refine W.seq ?_
    refine W.region ?_
    refine RL.e (Eff.makeMap 125) rfl ?_
    rintro _ _ ⟨b25, rfl, rfl⟩
    refine RL.q (Yld.assign rfl) rfl ?_
    refine RL.nil ?_
    refine N.next ?_
    refine W.seq ?_
    refine W.seq ?_
    refine W.region ?_
    refine RL.q (Yld.move rfl) rfl ?_
    refine RL.q (Yld.lenSl Try.underlying25 rfl) rfl ?_
    refine RL.q (Yld.move rfl) rfl ?_
    refine RL.nil ?_
    refine N.next ?_
    refine W.block ?_
    refine W.loopK (ι := V1) (fun x => (x.n ≤ ord.length ∧ MapP (fun a : Int => Value.int .i64 a) x.es x.ck x.m ∧ MapP (fun s : ByteArray => Value.string s) x.es2 x.ck2 x.m2 ∧ W1 l ord x.n ∧ AT ord x.n x.m ∧ CT l ord x.n x.m2)) (fun x => [(28, .int .i64 (x.n : Nat))]) (fun x => [(124, single b24 (.map x.es x.ck)), (125, single b25 (.map x.es2 x.ck2))]) (fun x => ord.length - x.n) (.cons (k := 0) rfl (.cons (k := 5) rfl (.cons (k := 6) rfl (.cons (k := 26) rfl (.cons (k := 27) rfl .nil))))) (.cons (k := 0) rfl (.cons (k := 1) rfl (.cons (k := 2) rfl .nil))) ⟨0, #[], 0, [], #[], 0, []⟩ ?_ ?_ ?_ ?_
    · exact ⟨Nat.zero_le _, MapP.empty _, MapP.empty _, W1.zero l ord, AT.zero ord, fun k => rfl⟩
    · exact (.as rfl (by first | rfl | (simp; done) | (congr 1; simp; done) | (congr 1; omega)) .nil)
    · exact (.cons rfl (.cons rfl .nil))
    rintro x ⟨hn, hM, hM2, hW, hA, hC⟩
    refine W.keep (.cons (k := 28) rfl (.cons (k := 0) rfl (.cons (k := 5) rfl (.cons (k := 6) rfl (.cons (k := 26) rfl (.cons (k := 27) rfl .nil)))))) (.cons (k := 124) rfl (.cons (k := 125) rfl (.cons (k := 0) rfl (.cons (k := 1) rfl (.cons (k := 2) rfl .nil))))) ?_
    refine W.seq ?_
    refine W.region ?_
    refine RL.q (Yld.bin rfl rfl BinV.lss) rfl ?_
    refine RL.nil ?_
    refine N.next ?_
    refine W.seq ?_
    first | refine W.condD rfl (fun hc29 => ?_) (fun hc29 => ?_) | (refine W.cond rfl (fun hc29 => ?_) (fun hc29 => ?_) <;> try simp only [Bool.or_eq_true, Bool.and_eq_true, Bool.not_eq_true', Bool.not_eq_false', decide_eq_true_eq, Bool.or_eq_false_iff, Bool.and_eq_false_iff, decide_eq_false_iff_not, beq_iff_eq, beq_eq_false_iff_ne, ne_eq, Decidable.not_not] at hc29)
    ·
      obtain ⟨z, hz, hlz⟩ := iz_at (show x.n < ord.length by omega)
      refine W.skip ?_
      refine N.next ?_
      refine W.seq ?_
      refine W.block ?_
      refine W.seq ?_
      refine W.region ?_
      refine RL.q (Yld.move rfl) rfl ?_
      refine RL.q (Yld.indexRow Try.underlying25 sz3 rfl rfl (by first | assumption | exact Own.sl (by assumption)) (by first | rfl | omega | (simp; done) | (simp; omega)) (by omega) (by first | omega | (simp; done) | (simp; omega))) rfl ?_
      refine RL.q (by first | exact (by first | exact Yld.loadRow1 (cl := 1) Try.underlying3 rfl rfl rfl (by first | assumption | exact Own.sl (by assumption)) (by assumption) | exact Yld.loadRow1 (cl := 2) Try.underlying3 rfl rfl rfl (by first | assumption | exact Own.sl (by assumption)) (by assumption) | exact Yld.loadRow1 (cl := 124) Try.underlying3 rfl rfl rfl (by first | assumption | exact Own.sl (by assumption)) (by assumption) | exact Yld.loadRow1 (cl := 125) Try.underlying3 rfl rfl rfl (by first | assumption | exact Own.sl (by assumption)) (by assumption)) | exact (by first | exact Yld.loadRowF (cl := 1) (j := 0) Try.underlying3 rfl rfl rfl (by first | assumption | exact Own.sl (by assumption)) (by assumption) rfl | exact Yld.loadRowF (cl := 2) (j := 0) Try.underlying3 rfl rfl rfl (by first | assumption | exact Own.sl (by assumption)) (by assumption) rfl | exact Yld.loadRowF (cl := 124) (j := 0) Try.underlying3 rfl rfl rfl (by first | assumption | exact Own.sl (by assumption)) (by assumption) rfl | exact Yld.loadRowF (cl := 125) (j := 0) Try.underlying3 rfl rfl rfl (by first | assumption | exact Own.sl (by assumption)) (by assumption) rfl)) rfl ?_
      refine RL.q (Yld.assign rfl) rfl ?_
      refine RL.q (Yld.assign rfl) rfl ?_
      refine RL.nil ?_
      refine N.next ?_
      refine W.keep (.cons (k := 0) rfl (.cons (k := 5) rfl (.cons (k := 6) rfl (.cons (k := 7) rfl (.cons (k := 8) rfl (.cons (k := 26) rfl (.cons (k := 27) rfl (.cons (k := 28) rfl .nil)))))))) (.cons (k := 0) rfl (.cons (k := 1) rfl (.cons (k := 2) rfl (.cons (k := 124) rfl (.cons (k := 125) rfl .nil))))) ?_
      refine W.seq ?_
      refine W.seq ?_
      refine W.region ?_
      refine RL.q (Yld.move rfl) rfl ?_
      refine RL.q (Yld.move rfl) rfl ?_
      refine RL.q (Yld.lookupOk (c := 124) Try.underlying77 (keyInt Try.underlying3) zv3 rfl rfl rfl (by assumption)) rfl ?_
      refine RL.q (Yld.move rfl) rfl ?_
      refine RL.q (Yld.extract rfl rfl) rfl ?_
      refine RL.q (Yld.extract rfl rfl) rfl ?_
      refine RL.q (Yld.assign rfl) rfl ?_
      refine RL.q (Yld.assign rfl) rfl ?_
      refine RL.nil ?_
      refine N.next ?_
      refine W.keep (.cons (k := 0) rfl (.cons (k := 5) rfl (.cons (k := 6) rfl (.cons (k := 7) rfl (.cons (k := 8) rfl (.cons (k := 10) rfl (.cons (k := 26) rfl (.cons (k := 27) rfl (.cons (k := 28) rfl .nil))))))))) (.cons (k := 0) rfl (.cons (k := 1) rfl (.cons (k := 2) rfl (.cons (k := 124) rfl (.cons (k := 125) rfl .nil))))) ?_
      refine W.seq ?_
      refine W.region ?_
      refine RL.q (Yld.move rfl) rfl ?_
      refine RL.q (Yld.move rfl) rfl ?_
      refine' RL.or (t := 40) (d := 43) 3 rfl (.cons (k := 0) rfl (.cons (k := 5) rfl (.cons (k := 6) rfl (.cons (k := 7) rfl (.cons (k := 8) rfl (.cons (k := 10) rfl (.cons (k := 26) rfl (.cons (k := 27) rfl (.cons (k := 28) rfl (.cons (k := 39) rfl .nil)))))))))) (.cons (k := 0) rfl (.cons (k := 1) rfl (.cons (k := 2) rfl (.cons (k := 124) rfl (.cons (k := 125) rfl .nil))))) ?_ ?_ ?_
      rotate_left 1
      ·
        intro hg40
        refine RL.gq rfl rfl (Yld.move rfl) rfl ?_
        refine RL.gq rfl rfl (Yld.bin rfl rfl BinV.lss) rfl ?_
        refine RL.q (by first | exact Yld.pickT rfl rfl | exact Yld.pickF rfl rfl) rfl ?_
        exact RL.nil (N.meet (.cons rfl (.cons rfl (.cons rfl (.cons rfl (.cons rfl (.cons rfl (.cons rfl (.cons rfl (.cons rfl (.cons rfl (.cons rfl .nil))))))))))) (.cons rfl (.cons rfl (.cons rfl (.cons rfl (.cons rfl .nil))))))
      ·
        intro hg40
        refine RL.gskip rfl rfl rfl rfl ?_
        refine RL.gskip rfl rfl rfl rfl ?_
        refine RL.q (by first | exact Yld.pickT rfl rfl | exact Yld.pickF rfl rfl) rfl ?_
        exact RL.nil (N.meet (.cons rfl (.cons rfl (.cons rfl (.cons rfl (.cons rfl (.cons rfl (.cons rfl (.cons rfl (.cons rfl (.cons rfl (.cons rfl .nil))))))))))) (.cons rfl (.cons rfl (.cons rfl (.cons rfl (.cons rfl .nil))))))
      refine RL.q (Yld.move rfl) rfl ?_
      refine' RL.or (t := 44) (d := 49) 5 rfl (.cons (k := 0) rfl (.cons (k := 5) rfl (.cons (k := 6) rfl (.cons (k := 7) rfl (.cons (k := 8) rfl (.cons (k := 10) rfl (.cons (k := 26) rfl (.cons (k := 27) rfl (.cons (k := 28) rfl (.cons (k := 39) rfl (.cons (k := 43) rfl .nil))))))))))) (.cons (k := 0) rfl (.cons (k := 1) rfl (.cons (k := 2) rfl (.cons (k := 124) rfl (.cons (k := 125) rfl .nil))))) ?_ ?_ ?_
      rotate_left 1
      ·
        intro hg44
        refine RL.gq rfl rfl (Yld.move rfl) rfl ?_
        refine RL.gq rfl rfl (Yld.move rfl) rfl ?_
        refine RL.gq rfl rfl (Yld.lenSl Try.underlying22 rfl) rfl ?_
        refine RL.gq rfl rfl (Yld.bin rfl rfl BinV.geq) rfl ?_
        refine RL.q (by first | exact Yld.pickT rfl rfl | exact Yld.pickF rfl rfl) rfl ?_
        exact RL.nil (N.meet (.cons rfl (.cons rfl (.cons rfl (.cons rfl (.cons rfl (.cons rfl (.cons rfl (.cons rfl (.cons rfl (.cons rfl (.cons rfl (.cons rfl .nil)))))))))))) (.cons rfl (.cons rfl (.cons rfl (.cons rfl (.cons rfl .nil))))))
      ·
        intro hg44
        refine RL.gskip rfl rfl rfl rfl ?_
        refine RL.gskip rfl rfl rfl rfl ?_
        refine RL.gskip rfl rfl rfl rfl ?_
        refine RL.gskip rfl rfl rfl rfl ?_
        refine RL.q (by first | exact Yld.pickT rfl rfl | exact Yld.pickF rfl rfl) rfl ?_
        exact RL.nil (N.meet (.cons rfl (.cons rfl (.cons rfl (.cons rfl (.cons rfl (.cons rfl (.cons rfl (.cons rfl (.cons rfl (.cons rfl (.cons rfl (.cons rfl .nil)))))))))))) (.cons rfl (.cons rfl (.cons rfl (.cons rfl (.cons rfl .nil))))))
      refine RL.nil ?_
      refine N.next ?_
      refine W.cond rfl (fun hc49 => ?_) (fun hc49 => ?_)
      ·
        have hnv : ¬ VerOK l ord := fun h => by
          have h1 := h.vp (x.n + 1)
          have h2 := h1.fresh hz
          have h3 := (h1.last hz).1
          simp only [Bool.or_eq_true, decide_eq_true_eq] at hc49
          rcases hc49 with (h4 | h4) | h4
          · exact h2 (hA.2 z h4)
          · omega
          · omega
        refine W.seq ?_
        refine W.region ?_
        refine RL.q (Yld.assign rfl) rfl ?_
        refine RL.nil ?_
        refine N.next ?_
        refine W.keep (.cons (k := 4) rfl .nil) (.cons (k := 0) rfl (.cons (k := 1) rfl (.cons (k := 2) rfl (.cons (k := 124) rfl (.cons (k := 125) rfl .nil))))) ?_
        refine W.ret ?_
        refine N.then_ret ?_
        refine N.block_ret ?_
        refine N.then_ret ?_
        refine N.then_ret ?_
        refine N.block_ret ?_
        refine N.then_ret ?_
        exact N.retBy [1, 2] (.cons (.tmp rfl) .nil) rfl rfl rfl rfl ⟨by rw [verB_not hnv]; rfl, rfl⟩
      ·
        simp only [Bool.or_eq_false_iff, decide_eq_false_iff_not] at hc49
        obtain ⟨⟨hnz, hr0⟩, hr1⟩ := hc49
        have hr : 0 ≤ z ∧ z < l.length := ⟨by omega, by omega⟩
        have hnt : z ∉ ord.take x.n := fun h => by
          obtain ⟨i, hi⟩ := List.getElem?_of_mem h
          rw [List.getElem?_take] at hi
          split at hi
          · rename_i hlt; rw [hA.1 i z hlt hi] at hnz; cases hnz
          · cases hi
        obtain ⟨o, ho⟩ : ∃ o, l[z.toNat]? = some o := ⟨_, List.getElem?_eq_getElem (by omega)⟩
        have hlo : (l.map O.c)[z.toNat]? = some o.c := by rw [List.getElem?_map, ho]; rfl
        refine W.skip ?_
        refine N.next ?_
        refine W.keep (.cons (k := 0) rfl (.cons (k := 5) rfl (.cons (k := 6) rfl (.cons (k := 7) rfl (.cons (k := 8) rfl (.cons (k := 26) rfl (.cons (k := 27) rfl (.cons (k := 28) rfl .nil)))))))) (.cons (k := 0) rfl (.cons (k := 1) rfl (.cons (k := 2) rfl (.cons (k := 124) rfl (.cons (k := 125) rfl .nil))))) ?_
        refine W.seq ?_
        refine W.region ?_
        refine RL.q (Yld.move rfl) rfl ?_
        refine RL.q (Yld.move rfl) rfl ?_
        refine RL.q (Yld.move rfl) rfl ?_
        refine RL.e0 (Eff.mapUpdate (c := 124) Try.underlying77 (keyInt Try.underlying3) rfl rfl rfl rfl (by assumption)) ?_
        rintro _ _ ⟨es1, ck1, hM1, rfl⟩
        refine RL.nil ?_
        refine N.next ?_
        refine W.keep (.cons (k := 0) rfl (.cons (k := 5) rfl (.cons (k := 6) rfl (.cons (k := 8) rfl (.cons (k := 26) rfl (.cons (k := 27) rfl (.cons (k := 28) rfl .nil))))))) (.cons (k := 0) rfl (.cons (k := 1) rfl (.cons (k := 2) rfl (.cons (k := 124) rfl (.cons (k := 125) rfl .nil))))) ?_
        refine W.seq ?_
        refine W.draw (.q 0 (.q 1 (.q 2 (.q 3 (.q 4 (.q 5 (.q 6 (.q 7 (.q 8 (.q 9 (.q 10 (.q 11 (.q 12 (.three 13 (.q 14 (.q 15 (.q 16 (.two 17 (.one 18 (.one 19 (.one 20 .done))) 18 (.one 17 (.one 19 (.one 20 .done))))))) 17 (.two 13 (.q 14 (.q 15 (.q 16 (.one 18 (.one 19 (.one 20 .done)))))) 18 (.one 13 (.q 14 (.q 15 (.q 16 (.one 19 (.one 20 .done))))))) 18 (.two 13 (.q 14 (.q 15 (.q 16 (.one 17 (.one 19 (.one 20 .done)))))) 17 (.one 13 (.q 14 (.q 15 (.q 16 (.one 19 (.one 20 .done))))))))))))))))))))) (.cons (k := 0) rfl (.cons (k := 1) rfl (.cons (k := 2) rfl (.cons (k := 124) rfl (.cons (k := 125) rfl .nil))))) mix (by kernel_rfl) (by kernel_rfl) ?_
        refine DL.q rfl (Yld.move rfl) rfl ?_
        refine DL.q rfl (Yld.move rfl) rfl ?_
        refine DL.q rfl (Yld.move rfl) rfl ?_
        refine DL.q rfl (Yld.indexRow Try.underlying22 sz42 rfl rfl (by first | assumption | exact Own.sl (by assumption)) (by first | rfl | omega | (simp; done) | (simp; omega)) (by omega) (by first | omega | (simp; done) | (simp; omega))) rfl ?_
        refine DL.q rfl (Yld.fieldAddr fo42_3 rfl) rfl ?_
        refine DL.q rfl (Yld.fieldAddr fo38_1 rfl) rfl ?_
        refine DL.q rfl (by first | exact Yld.loadRowF (cl := 1) (j := 4) Try.underlying9 rfl rfl rfl (by first | assumption | exact Own.sl (by assumption)) (by assumption) rfl | exact Yld.loadRowF (cl := 2) (j := 4) Try.underlying9 rfl rfl rfl (by first | assumption | exact Own.sl (by assumption)) (by assumption) rfl | exact Yld.loadRowF (cl := 124) (j := 4) Try.underlying9 rfl rfl rfl (by first | assumption | exact Own.sl (by assumption)) (by assumption) rfl | exact Yld.loadRowF (cl := 125) (j := 4) Try.underlying9 rfl rfl rfl (by first | assumption | exact Own.sl (by assumption)) (by assumption) rfl) rfl ?_
        refine DL.q rfl (Yld.eq (v' := .agg [.bool (repC l o.key (false, 0) (ord.take x.n)).1, .int .i64 (repC l o.key (false, 0) (ord.take x.n)).2].toArray) (Yld.lookup (c := 125) Try.underlying78 (keyString Try.underlying9) zv68 rfl rfl rfl (by assumption)) (hC _)) rfl ?_
        refine DL.q rfl (Yld.move rfl) rfl ?_
        refine DL.q rfl (Yld.move rfl) rfl ?_
        refine DL.q rfl (Yld.indexRow Try.underlying22 sz42 rfl rfl (by first | assumption | exact Own.sl (by assumption)) (by first | rfl | omega | (simp; done) | (simp; omega)) (by omega) (by first | omega | (simp; done) | (simp; omega))) rfl ?_
        refine DL.q rfl (Yld.fieldAddr fo42_3 rfl) rfl ?_
        refine DL.q rfl (by first | exact Yld.loadRowP (cl := 1) (j := 3) Try.underlying38 rfl sz38 rfl rfl (by first | assumption | exact Own.sl (by assumption)) (by assumption) rfl rfl | exact Yld.loadRowP (cl := 2) (j := 3) Try.underlying38 rfl sz38 rfl rfl (by first | assumption | exact Own.sl (by assumption)) (by assumption) rfl rfl | exact Yld.loadRowP (cl := 124) (j := 3) Try.underlying38 rfl sz38 rfl rfl (by first | assumption | exact Own.sl (by assumption)) (by assumption) rfl rfl | exact Yld.loadRowP (cl := 125) (j := 3) Try.underlying38 rfl sz38 rfl rfl (by first | assumption | exact Own.sl (by assumption)) (by assumption) rfl rfl) rfl ?_
        refine DL.three ?_ ?_ ?_
        ·
          refine DL.one rfl (Eff.call ent36 [] [] (.cons rfl (.cons rfl .nil)) (do_ct (repC l o.key (false, 0) (ord.take x.n)) o) rfl rfl rfl rfl (by rintro _ _ ⟨_, rfl⟩; rfl)) rfl (by rintro _ _ ⟨_, ⟨rfl, rfl⟩, rfl⟩; repeat (first | exact .nil | refine .cons rfl ?_)) ?_
          rintro _ _ ⟨_, ⟨rfl, rfl⟩, rfl⟩
          refine DL.q rfl (Yld.move rfl) rfl ?_
          refine DL.q rfl (Yld.extract rfl rfl) rfl ?_
          refine DL.q rfl (Yld.extract rfl rfl) rfl ?_
          refine DL.two ?_ ?_
          ·
            refine DL.one rfl (Eff.alloc 111 zc68) rfl (by rintro _ _ ⟨b11, rfl, rfl⟩; repeat (first | exact .nil | refine .cons rfl ?_)) ?_
            rintro _ _ ⟨b11, rfl, rfl⟩
            refine DL.one rfl (Eff.alloc 112 zc40) rfl (by rintro _ _ ⟨b12, rfl, rfl⟩; repeat (first | exact .nil | refine .cons rfl ?_)) ?_
            rintro _ _ ⟨b12, rfl, rfl⟩
            refine DL.one0 rfl (Eff.storeS (c := 111) _ sz68 rfl rfl rfl rfl rfl rfl rfl (by (try simp only [putAt, List.take, List.drop, List.nil_append, List.cons_append, List.append_nil, List.length_cons, List.length_nil, Nat.add_zero, Nat.zero_add, Nat.reduceAdd]); rfl)) (by rintro _ _ rfl; repeat (first | exact .nil | refine .cons rfl ?_)) ?_
            rintro _ _ rfl
            refine DL.one0 rfl (Eff.storeS (c := 112) _ sz40 rfl rfl rfl rfl rfl rfl rfl (by (try simp only [putAt, List.take, List.drop, List.nil_append, List.cons_append, List.append_nil, List.length_cons, List.length_nil, Nat.add_zero, Nat.zero_add, Nat.reduceAdd]); rfl)) (by rintro _ _ rfl; repeat (first | exact .nil | refine .cons rfl ?_)) ?_
            rintro _ _ rfl
            refine DL.done ?_
            refine N.next ?_
            refine W.keep (.cons (k := 0) rfl (.cons (k := 5) rfl (.cons (k := 6) rfl (.cons (k := 8) rfl (.cons (k := 11) rfl (.cons (k := 12) rfl (.cons (k := 26) rfl (.cons (k := 27) rfl (.cons (k := 28) rfl .nil))))))))) (.cons (k := 0) rfl (.cons (k := 1) rfl (.cons (k := 2) rfl (.cons (k := 111) rfl (.cons (k := 112) rfl (.cons (k := 124) rfl (.cons (k := 125) rfl .nil))))))) ?_
            refine W.seq ?_
            refine W.seq ?_
            refine W.draw (.q 0 (.q 1 (.q 2 (.q 3 (.q 4 (.q 5 (.q 6 (.q 7 (.q 8 (.q 9 (.q 10 (.q 11 (.q 12 (.q 13 (.q 14 .done))))))))))))))) (.cons (k := 0) rfl (.cons (k := 1) rfl (.cons (k := 2) rfl (.cons (k := 111) rfl (.cons (k := 112) rfl (.cons (k := 124) rfl (.cons (k := 125) rfl .nil))))))) mix (by kernel_rfl) (by kernel_rfl) ?_
            refine DL.q rfl (Yld.move rfl) rfl ?_
            refine DL.q rfl (Yld.move rfl) rfl ?_
            refine DL.q rfl (Yld.indexRow Try.underlying22 sz42 rfl rfl (by first | assumption | exact Own.sl (by assumption)) (by first | rfl | omega | (simp; done) | (simp; omega)) (by omega) (by first | omega | (simp; done) | (simp; omega))) rfl ?_
            refine DL.q rfl (Yld.fieldAddr fo42_6 rfl) rfl ?_
            refine DL.q rfl (by first | exact Yld.loadRowF (cl := 112) (j := 11) Try.underlying3 rfl rfl rfl (by first | assumption | exact Own.sl (by assumption)) (by assumption) rfl | exact Yld.loadRowF (cl := 111) (j := 11) Try.underlying3 rfl rfl rfl (by first | assumption | exact Own.sl (by assumption)) (by assumption) rfl | exact Yld.loadRowF (cl := 1) (j := 11) Try.underlying3 rfl rfl rfl (by first | assumption | exact Own.sl (by assumption)) (by assumption) rfl | exact Yld.loadRowF (cl := 2) (j := 11) Try.underlying3 rfl rfl rfl (by first | assumption | exact Own.sl (by assumption)) (by assumption) rfl | exact Yld.loadRowF (cl := 124) (j := 11) Try.underlying3 rfl rfl rfl (by first | assumption | exact Own.sl (by assumption)) (by assumption) rfl | exact Yld.loadRowF (cl := 125) (j := 11) Try.underlying3 rfl rfl rfl (by first | assumption | exact Own.sl (by assumption)) (by assumption) rfl) rfl ?_
            refine DL.q rfl (Yld.bin rfl rfl BinV.geq) rfl ?_
            refine DL.q rfl (Yld.move rfl) rfl ?_
            refine' DL.and (t := 76) (d := 84) 8 rfl (.cons (k := 0) rfl (.cons (k := 5) rfl (.cons (k := 6) rfl (.cons (k := 8) rfl (.cons (k := 11) rfl (.cons (k := 12) rfl (.cons (k := 26) rfl (.cons (k := 27) rfl (.cons (k := 28) rfl (.cons (k := 70) rfl (.cons (k := 71) rfl (.cons (k := 72) rfl (.cons (k := 73) rfl (.cons (k := 74) rfl (.cons (k := 75) rfl .nil))))))))))))))) (.cons (k := 0) rfl (.cons (k := 1) rfl (.cons (k := 2) rfl (.cons (k := 111) rfl (.cons (k := 112) rfl (.cons (k := 124) rfl (.cons (k := 125) rfl .nil))))))) ?_ ?_ ?_
            rotate_left 1
            ·
              intro hg76
              refine DL.gq rfl rfl rfl (Yld.loadW (c := 112) Try.underlying40 rfl sz40 rfl rfl (by first | exact single_self _ _ | exact pset_self _ _ _ | assumption) rfl) rfl ?_
              refine DL.gq rfl rfl rfl (Yld.move rfl) rfl ?_
              refine DL.gq rfl rfl rfl (Yld.move rfl) rfl ?_
              refine DL.gq rfl rfl rfl (Yld.indexRow Try.underlying22 sz42 rfl rfl (by first | assumption | exact Own.sl (by assumption)) (by first | rfl | omega | (simp; done) | (simp; omega)) (by omega) (by first | omega | (simp; done) | (simp; omega))) rfl ?_
              refine DL.gq rfl rfl rfl (Yld.fieldAddr fo42_4 rfl) rfl ?_
              refine DL.gq rfl rfl rfl (by first | exact Yld.loadRowP (cl := 112) (j := 7) Try.underlying40 rfl sz40 rfl rfl (by first | assumption | exact Own.sl (by assumption)) (by assumption) rfl rfl | exact Yld.loadRowP (cl := 111) (j := 7) Try.underlying40 rfl sz40 rfl rfl (by first | assumption | exact Own.sl (by assumption)) (by assumption) rfl rfl | exact Yld.loadRowP (cl := 1) (j := 7) Try.underlying40 rfl sz40 rfl rfl (by first | assumption | exact Own.sl (by assumption)) (by assumption) rfl rfl | exact Yld.loadRowP (cl := 2) (j := 7) Try.underlying40 rfl sz40 rfl rfl (by first | assumption | exact Own.sl (by assumption)) (by assumption) rfl rfl | exact Yld.loadRowP (cl := 124) (j := 7) Try.underlying40 rfl sz40 rfl rfl (by first | assumption | exact Own.sl (by assumption)) (by assumption) rfl rfl | exact Yld.loadRowP (cl := 125) (j := 7) Try.underlying40 rfl sz40 rfl rfl (by first | assumption | exact Own.sl (by assumption)) (by assumption) rfl rfl) rfl ?_
              refine DL.gq rfl rfl rfl (Yld.bin rfl rfl (BinV.neqT eqg40 (EqV.struct Try.underlying40 sih40 (EqF.cons rfl (PartV.one Try.underlying26 rfl rfl) (PartV.one Try.underlying26 rfl rfl) (EqV.int Try.underlying26) (EqF.cons rfl (PartV.one Try.underlying4 rfl rfl) (PartV.one Try.underlying4 rfl rfl) (EqV.bool Try.underlying4) (EqF.cons rfl (PartV.one Try.underlying2 rfl rfl) (PartV.one Try.underlying2 rfl rfl) (EqV.int Try.underlying2) EqF.nil)))))) rfl ?_
              refine DL.q rfl (by first | exact Yld.pickT rfl rfl | exact Yld.pickF rfl rfl) rfl ?_
              exact DL.meet (.cons rfl (.cons rfl (.cons rfl (.cons rfl (.cons rfl (.cons rfl (.cons rfl (.cons rfl (.cons rfl (.cons rfl (.cons rfl (.cons rfl (.cons rfl (.cons rfl (.cons rfl (.cons rfl .nil)))))))))))))))) (.cons rfl (.cons rfl (.cons rfl (.cons rfl (.cons rfl (.cons rfl (.cons rfl .nil)))))))
            ·
              intro hg76
              refine DL.gskip rfl rfl rfl rfl rfl ?_
              refine DL.gskip rfl rfl rfl rfl rfl ?_
              refine DL.gskip rfl rfl rfl rfl rfl ?_
              refine DL.gskip rfl rfl rfl rfl rfl ?_
              refine DL.gskip rfl rfl rfl rfl rfl ?_
              refine DL.gskip rfl rfl rfl rfl rfl ?_
              refine DL.gskip rfl rfl rfl rfl rfl ?_
              refine DL.q rfl (by first | exact Yld.pickT rfl rfl | exact Yld.pickF rfl rfl) rfl ?_
              exact DL.meet (.cons rfl (.cons rfl (.cons rfl (.cons rfl (.cons rfl (.cons rfl (.cons rfl (.cons rfl (.cons rfl (.cons rfl (.cons rfl (.cons rfl (.cons rfl (.cons rfl (.cons rfl (.cons rfl .nil)))))))))))))))) (.cons rfl (.cons rfl (.cons rfl (.cons rfl (.cons rfl (.cons rfl (.cons rfl .nil)))))))
            refine DL.done ?_
            refine N.next ?_
            refine W.keep (.cons (k := 0) rfl (.cons (k := 5) rfl (.cons (k := 6) rfl (.cons (k := 8) rfl (.cons (k := 11) rfl (.cons (k := 26) rfl (.cons (k := 27) rfl (.cons (k := 28) rfl (.cons (k := 84) rfl .nil))))))))) (.cons (k := 0) rfl (.cons (k := 1) rfl (.cons (k := 2) rfl (.cons (k := 111) rfl (.cons (k := 112) rfl (.cons (k := 124) rfl (.cons (k := 125) rfl .nil))))))) ?_
            refine W.cond rfl (fun hc84 => ?_) (fun hc84 => ?_)
            ·
              have hnv : ¬ VerOK l ord := fun h => by rw [okR_b.2 (h.ok hz ho)] at hc84; cases hc84
              refine W.seq ?_
              refine W.region ?_
              refine RL.q (Yld.assign rfl) rfl ?_
              refine RL.nil ?_
              refine N.next ?_
              refine W.keep (.cons (k := 4) rfl .nil) (.cons (k := 0) rfl (.cons (k := 1) rfl (.cons (k := 2) rfl (.cons (k := 111) rfl (.cons (k := 112) rfl (.cons (k := 124) rfl (.cons (k := 125) rfl .nil))))))) ?_
              refine W.ret ?_
              refine N.then_ret ?_
              refine N.block_ret ?_
              refine N.then_ret ?_
              refine N.then_ret ?_
              refine N.block_ret ?_
              refine N.then_ret ?_
              exact N.retBy [1, 2] (.cons (.tmp rfl) .nil) rfl rfl rfl rfl ⟨by rw [verB_not hnv]; rfl, rfl⟩
            ·
              have hok : okR o (doL (repC l o.key (false, 0) (ord.take x.n)) o).2 := okR_b.1 hc84
              refine W.skip ?_
              refine N.next ?_
              refine W.draw (.q 0 (.q 1 (.q 2 (.q 3 (.q 4 (.q 5 (.q 6 (.q 7 (.one 8 .done))))))))) (.cons (k := 0) rfl (.cons (k := 1) rfl (.cons (k := 2) rfl (.cons (k := 111) rfl (.cons (k := 112) rfl (.cons (k := 124) rfl .nil)))))) mix (by kernel_rfl) (by kernel_rfl) ?_
              refine DL.q rfl (Yld.move rfl) rfl ?_
              refine DL.q rfl (Yld.move rfl) rfl ?_
              refine DL.q rfl (Yld.move rfl) rfl ?_
              refine DL.q rfl (Yld.indexRow Try.underlying22 sz42 rfl rfl (by first | assumption | exact Own.sl (by assumption)) (by first | rfl | omega | (simp; done) | (simp; omega)) (by omega) (by first | omega | (simp; done) | (simp; omega))) rfl ?_
              refine DL.q rfl (Yld.fieldAddr fo42_3 rfl) rfl ?_
              refine DL.q rfl (Yld.fieldAddr fo38_1 rfl) rfl ?_
              refine DL.q rfl (by first | exact Yld.loadRowF (cl := 112) (j := 4) Try.underlying9 rfl rfl rfl (by first | assumption | exact Own.sl (by assumption)) (by assumption) rfl | exact Yld.loadRowF (cl := 111) (j := 4) Try.underlying9 rfl rfl rfl (by first | assumption | exact Own.sl (by assumption)) (by assumption) rfl | exact Yld.loadRowF (cl := 1) (j := 4) Try.underlying9 rfl rfl rfl (by first | assumption | exact Own.sl (by assumption)) (by assumption) rfl | exact Yld.loadRowF (cl := 2) (j := 4) Try.underlying9 rfl rfl rfl (by first | assumption | exact Own.sl (by assumption)) (by assumption) rfl | exact Yld.loadRowF (cl := 124) (j := 4) Try.underlying9 rfl rfl rfl (by first | assumption | exact Own.sl (by assumption)) (by assumption) rfl | exact Yld.loadRowF (cl := 125) (j := 4) Try.underlying9 rfl rfl rfl (by first | assumption | exact Own.sl (by assumption)) (by assumption) rfl) rfl ?_
              refine DL.q rfl (Yld.loadW (c := 111) Try.underlying68 rfl sz68 rfl rfl (by first | exact single_self _ _ | exact pset_self _ _ _ | assumption) rfl) rfl ?_
              refine DL.one0 rfl (Eff.mapUpdate (c := 125) Try.underlying78 (keyString Try.underlying9) rfl rfl rfl rfl (by assumption)) (by rintro _ _ ⟨es2, ck2, hM2, rfl⟩; repeat (first | exact .nil | refine .cons rfl ?_)) ?_
              rintro _ _ ⟨es2, ck2, hM2, rfl⟩
              refine DL.done ?_
              refine N.block_normal ?_
              refine N.next ?_
              refine W.keep (.cons (k := 0) rfl (.cons (k := 5) rfl (.cons (k := 6) rfl (.cons (k := 26) rfl (.cons (k := 27) rfl (.cons (k := 28) rfl .nil)))))) (.cons (k := 0) rfl (.cons (k := 1) rfl (.cons (k := 2) rfl (.cons (k := 111) rfl (.cons (k := 112) rfl (.cons (k := 124) rfl (.cons (k := 125) rfl .nil))))))) ?_
              refine W.region ?_
              refine RL.q (Yld.bin rfl rfl (by first | exact BinV.add (by omega) (by omega) | exact BinV.addW)) rfl ?_
              refine RL.q (Yld.move rfl) rfl ?_
              refine RL.nil ?_
              exact N.famK ⟨x.n + 1, _, _, mset x.m z (.int .i64 (x.n : Int)), _, _, mset x.m2 o.key (.agg [.bool (doL (repC l o.key (false, 0) (ord.take x.n)) o).1.1, .int .i64 (doL (repC l o.key (false, 0) (ord.take x.n)) o).1.2].toArray)⟩ ⟨⟨by show x.n + 1 ≤ _; omega, by assumption, by assumption, hW.step hz hr hnt ho hok, hA.step hz hnt, hC.step hz ho⟩, by show _ - (x.n + 1) < _; omega⟩ (.as rfl (by first | rfl | (simp; done) | (congr 1; simp; done) | (congr 1; omega)) .nil) (.cons rfl (.cons rfl (.cons rfl (.cons rfl (.cons rfl .nil))))) (.cons rfl (.cons rfl .nil)) (.cons rfl (.cons rfl (.cons rfl .nil)))
          ·
            refine DL.one rfl (Eff.alloc 112 zc40) rfl (by rintro _ _ ⟨b12, rfl, rfl⟩; repeat (first | exact .nil | refine .cons rfl ?_)) ?_
            rintro _ _ ⟨b12, rfl, rfl⟩
            refine DL.one rfl (Eff.alloc 111 zc68) rfl (by rintro _ _ ⟨b11, rfl, rfl⟩; repeat (first | exact .nil | refine .cons rfl ?_)) ?_
            rintro _ _ ⟨b11, rfl, rfl⟩
            refine DL.one0 rfl (Eff.storeS (c := 111) _ sz68 rfl rfl rfl rfl rfl rfl rfl (by (try simp only [putAt, List.take, List.drop, List.nil_append, List.cons_append, List.append_nil, List.length_cons, List.length_nil, Nat.add_zero, Nat.zero_add, Nat.reduceAdd]); rfl)) (by rintro _ _ rfl; repeat (first | exact .nil | refine .cons rfl ?_)) ?_
            rintro _ _ rfl
            refine DL.one0 rfl (Eff.storeS (c := 112) _ sz40 rfl rfl rfl rfl rfl rfl rfl (by (try simp only [putAt, List.take, List.drop, List.nil_append, List.cons_append, List.append_nil, List.length_cons, List.length_nil, Nat.add_zero, Nat.zero_add, Nat.reduceAdd]); rfl)) (by rintro _ _ rfl; repeat (first | exact .nil | refine .cons rfl ?_)) ?_
            rintro _ _ rfl
            refine DL.done ?_
            refine N.next ?_
            refine W.keep (.cons (k := 0) rfl (.cons (k := 5) rfl (.cons (k := 6) rfl (.cons (k := 8) rfl (.cons (k := 11) rfl (.cons (k := 12) rfl (.cons (k := 26) rfl (.cons (k := 27) rfl (.cons (k := 28) rfl .nil))))))))) (.cons (k := 0) rfl (.cons (k := 1) rfl (.cons (k := 2) rfl (.cons (k := 111) rfl (.cons (k := 112) rfl (.cons (k := 124) rfl (.cons (k := 125) rfl .nil))))))) ?_
            refine W.seq ?_
            refine W.seq ?_
            refine W.draw (.q 0 (.q 1 (.q 2 (.q 3 (.q 4 (.q 5 (.q 6 (.q 7 (.q 8 (.q 9 (.q 10 (.q 11 (.q 12 (.q 13 (.q 14 .done))))))))))))))) (.cons (k := 0) rfl (.cons (k := 1) rfl (.cons (k := 2) rfl (.cons (k := 111) rfl (.cons (k := 112) rfl (.cons (k := 124) rfl (.cons (k := 125) rfl .nil))))))) mix (by kernel_rfl) (by kernel_rfl) ?_
            refine DL.q rfl (Yld.move rfl) rfl ?_
            refine DL.q rfl (Yld.move rfl) rfl ?_
            refine DL.q rfl (Yld.indexRow Try.underlying22 sz42 rfl rfl (by first | assumption | exact Own.sl (by assumption)) (by first | rfl | omega | (simp; done) | (simp; omega)) (by omega) (by first | omega | (simp; done) | (simp; omega))) rfl ?_
            refine DL.q rfl (Yld.fieldAddr fo42_6 rfl) rfl ?_
            refine DL.q rfl (by first | exact Yld.loadRowF (cl := 111) (j := 11) Try.underlying3 rfl rfl rfl (by first | assumption | exact Own.sl (by assumption)) (by assumption) rfl | exact Yld.loadRowF (cl := 112) (j := 11) Try.underlying3 rfl rfl rfl (by first | assumption | exact Own.sl (by assumption)) (by assumption) rfl | exact Yld.loadRowF (cl := 1) (j := 11) Try.underlying3 rfl rfl rfl (by first | assumption | exact Own.sl (by assumption)) (by assumption) rfl | exact Yld.loadRowF (cl := 2) (j := 11) Try.underlying3 rfl rfl rfl (by first | assumption | exact Own.sl (by assumption)) (by assumption) rfl | exact Yld.loadRowF (cl := 124) (j := 11) Try.underlying3 rfl rfl rfl (by first | assumption | exact Own.sl (by assumption)) (by assumption) rfl | exact Yld.loadRowF (cl := 125) (j := 11) Try.underlying3 rfl rfl rfl (by first | assumption | exact Own.sl (by assumption)) (by assumption) rfl) rfl ?_
            refine DL.q rfl (Yld.bin rfl rfl BinV.geq) rfl ?_
            refine DL.q rfl (Yld.move rfl) rfl ?_
            refine' DL.and (t := 76) (d := 84) 8 rfl (.cons (k := 0) rfl (.cons (k := 5) rfl (.cons (k := 6) rfl (.cons (k := 8) rfl (.cons (k := 11) rfl (.cons (k := 12) rfl (.cons (k := 26) rfl (.cons (k := 27) rfl (.cons (k := 28) rfl (.cons (k := 70) rfl (.cons (k := 71) rfl (.cons (k := 72) rfl (.cons (k := 73) rfl (.cons (k := 74) rfl (.cons (k := 75) rfl .nil))))))))))))))) (.cons (k := 0) rfl (.cons (k := 1) rfl (.cons (k := 2) rfl (.cons (k := 111) rfl (.cons (k := 112) rfl (.cons (k := 124) rfl (.cons (k := 125) rfl .nil))))))) ?_ ?_ ?_
            rotate_left 1
            ·
              intro hg76
              refine DL.gq rfl rfl rfl (Yld.loadW (c := 112) Try.underlying40 rfl sz40 rfl rfl (by first | exact single_self _ _ | exact pset_self _ _ _ | assumption) rfl) rfl ?_
              refine DL.gq rfl rfl rfl (Yld.move rfl) rfl ?_
              refine DL.gq rfl rfl rfl (Yld.move rfl) rfl ?_
              refine DL.gq rfl rfl rfl (Yld.indexRow Try.underlying22 sz42 rfl rfl (by first | assumption | exact Own.sl (by assumption)) (by first | rfl | omega | (simp; done) | (simp; omega)) (by omega) (by first | omega | (simp; done) | (simp; omega))) rfl ?_
              refine DL.gq rfl rfl rfl (Yld.fieldAddr fo42_4 rfl) rfl ?_
              refine DL.gq rfl rfl rfl (by first | exact Yld.loadRowP (cl := 111) (j := 7) Try.underlying40 rfl sz40 rfl rfl (by first | assumption | exact Own.sl (by assumption)) (by assumption) rfl rfl | exact Yld.loadRowP (cl := 112) (j := 7) Try.underlying40 rfl sz40 rfl rfl (by first | assumption | exact Own.sl (by assumption)) (by assumption) rfl rfl | exact Yld.loadRowP (cl := 1) (j := 7) Try.underlying40 rfl sz40 rfl rfl (by first | assumption | exact Own.sl (by assumption)) (by assumption) rfl rfl | exact Yld.loadRowP (cl := 2) (j := 7) Try.underlying40 rfl sz40 rfl rfl (by first | assumption | exact Own.sl (by assumption)) (by assumption) rfl rfl | exact Yld.loadRowP (cl := 124) (j := 7) Try.underlying40 rfl sz40 rfl rfl (by first | assumption | exact Own.sl (by assumption)) (by assumption) rfl rfl | exact Yld.loadRowP (cl := 125) (j := 7) Try.underlying40 rfl sz40 rfl rfl (by first | assumption | exact Own.sl (by assumption)) (by assumption) rfl rfl) rfl ?_
              refine DL.gq rfl rfl rfl (Yld.bin rfl rfl (BinV.neqT eqg40 (EqV.struct Try.underlying40 sih40 (EqF.cons rfl (PartV.one Try.underlying26 rfl rfl) (PartV.one Try.underlying26 rfl rfl) (EqV.int Try.underlying26) (EqF.cons rfl (PartV.one Try.underlying4 rfl rfl) (PartV.one Try.underlying4 rfl rfl) (EqV.bool Try.underlying4) (EqF.cons rfl (PartV.one Try.underlying2 rfl rfl) (PartV.one Try.underlying2 rfl rfl) (EqV.int Try.underlying2) EqF.nil)))))) rfl ?_
              refine DL.q rfl (by first | exact Yld.pickT rfl rfl | exact Yld.pickF rfl rfl) rfl ?_
              exact DL.meet (.cons rfl (.cons rfl (.cons rfl (.cons rfl (.cons rfl (.cons rfl (.cons rfl (.cons rfl (.cons rfl (.cons rfl (.cons rfl (.cons rfl (.cons rfl (.cons rfl (.cons rfl (.cons rfl .nil)))))))))))))))) (.cons rfl (.cons rfl (.cons rfl (.cons rfl (.cons rfl (.cons rfl (.cons rfl .nil)))))))
            ·
              intro hg76
              refine DL.gskip rfl rfl rfl rfl rfl ?_
              refine DL.gskip rfl rfl rfl rfl rfl ?_
              refine DL.gskip rfl rfl rfl rfl rfl ?_
              refine DL.gskip rfl rfl rfl rfl rfl ?_
              refine DL.gskip rfl rfl rfl rfl rfl ?_
              refine DL.gskip rfl rfl rfl rfl rfl ?_
              refine DL.gskip rfl rfl rfl rfl rfl ?_
              refine DL.q rfl (by first | exact Yld.pickT rfl rfl | exact Yld.pickF rfl rfl) rfl ?_
              exact DL.meet (.cons rfl (.cons rfl (.cons rfl (.cons rfl (.cons rfl (.cons rfl (.cons rfl (.cons rfl (.cons rfl (.cons rfl (.cons rfl (.cons rfl (.cons rfl (.cons rfl (.cons rfl (.cons rfl .nil)))))))))))))))) (.cons rfl (.cons rfl (.cons rfl (.cons rfl (.cons rfl (.cons rfl (.cons rfl .nil)))))))
            refine DL.done ?_
            refine N.next ?_
            refine W.keep (.cons (k := 0) rfl (.cons (k := 5) rfl (.cons (k := 6) rfl (.cons (k := 8) rfl (.cons (k := 11) rfl (.cons (k := 26) rfl (.cons (k := 27) rfl (.cons (k := 28) rfl (.cons (k := 84) rfl .nil))))))))) (.cons (k := 0) rfl (.cons (k := 1) rfl (.cons (k := 2) rfl (.cons (k := 111) rfl (.cons (k := 112) rfl (.cons (k := 124) rfl (.cons (k := 125) rfl .nil))))))) ?_
            refine W.cond rfl (fun hc84 => ?_) (fun hc84 => ?_)
            ·
              have hnv : ¬ VerOK l ord := fun h => by rw [okR_b.2 (h.ok hz ho)] at hc84; cases hc84
              refine W.seq ?_
              refine W.region ?_
              refine RL.q (Yld.assign rfl) rfl ?_
              refine RL.nil ?_
              refine N.next ?_
              refine W.keep (.cons (k := 4) rfl .nil) (.cons (k := 0) rfl (.cons (k := 1) rfl (.cons (k := 2) rfl (.cons (k := 111) rfl (.cons (k := 112) rfl (.cons (k := 124) rfl (.cons (k := 125) rfl .nil))))))) ?_
              refine W.ret ?_
              refine N.then_ret ?_
              refine N.block_ret ?_
              refine N.then_ret ?_
              refine N.then_ret ?_
              refine N.block_ret ?_
              refine N.then_ret ?_
              exact N.retBy [1, 2] (.cons (.tmp rfl) .nil) rfl rfl rfl rfl ⟨by rw [verB_not hnv]; rfl, rfl⟩
            ·
              have hok : okR o (doL (repC l o.key (false, 0) (ord.take x.n)) o).2 := okR_b.1 hc84
              refine W.skip ?_
              refine N.next ?_
              refine W.draw (.q 0 (.q 1 (.q 2 (.q 3 (.q 4 (.q 5 (.q 6 (.q 7 (.one 8 .done))))))))) (.cons (k := 0) rfl (.cons (k := 1) rfl (.cons (k := 2) rfl (.cons (k := 111) rfl (.cons (k := 112) rfl (.cons (k := 124) rfl .nil)))))) mix (by kernel_rfl) (by kernel_rfl) ?_
              refine DL.q rfl (Yld.move rfl) rfl ?_
              refine DL.q rfl (Yld.move rfl) rfl ?_
              refine DL.q rfl (Yld.move rfl) rfl ?_
              refine DL.q rfl (Yld.indexRow Try.underlying22 sz42 rfl rfl (by first | assumption | exact Own.sl (by assumption)) (by first | rfl | omega | (simp; done) | (simp; omega)) (by omega) (by first | omega | (simp; done) | (simp; omega))) rfl ?_
              refine DL.q rfl (Yld.fieldAddr fo42_3 rfl) rfl ?_
              refine DL.q rfl (Yld.fieldAddr fo38_1 rfl) rfl ?_
              refine DL.q rfl (by first | exact Yld.loadRowF (cl := 111) (j := 4) Try.underlying9 rfl rfl rfl (by first | assumption | exact Own.sl (by assumption)) (by assumption) rfl | exact Yld.loadRowF (cl := 112) (j := 4) Try.underlying9 rfl rfl rfl (by first | assumption | exact Own.sl (by assumption)) (by assumption) rfl | exact Yld.loadRowF (cl := 1) (j := 4) Try.underlying9 rfl rfl rfl (by first | assumption | exact Own.sl (by assumption)) (by assumption) rfl | exact Yld.loadRowF (cl := 2) (j := 4) Try.underlying9 rfl rfl rfl (by first | assumption | exact Own.sl (by assumption)) (by assumption) rfl | exact Yld.loadRowF (cl := 124) (j := 4) Try.underlying9 rfl rfl rfl (by first | assumption | exact Own.sl (by assumption)) (by assumption) rfl | exact Yld.loadRowF (cl := 125) (j := 4) Try.underlying9 rfl rfl rfl (by first | assumption | exact Own.sl (by assumption)) (by assumption) rfl) rfl ?_
              refine DL.q rfl (Yld.loadW (c := 111) Try.underlying68 rfl sz68 rfl rfl (by first | exact single_self _ _ | exact pset_self _ _ _ | assumption) rfl) rfl ?_
              refine DL.one0 rfl (Eff.mapUpdate (c := 125) Try.underlying78 (keyString Try.underlying9) rfl rfl rfl rfl (by assumption)) (by rintro _ _ ⟨es3, ck3, hM3, rfl⟩; repeat (first | exact .nil | refine .cons rfl ?_)) ?_
              rintro _ _ ⟨es3, ck3, hM3, rfl⟩
              refine DL.done ?_
              refine N.block_normal ?_
              refine N.next ?_
              refine W.keep (.cons (k := 0) rfl (.cons (k := 5) rfl (.cons (k := 6) rfl (.cons (k := 26) rfl (.cons (k := 27) rfl (.cons (k := 28) rfl .nil)))))) (.cons (k := 0) rfl (.cons (k := 1) rfl (.cons (k := 2) rfl (.cons (k := 111) rfl (.cons (k := 112) rfl (.cons (k := 124) rfl (.cons (k := 125) rfl .nil))))))) ?_
              refine W.region ?_
              refine RL.q (Yld.bin rfl rfl (by first | exact BinV.add (by omega) (by omega) | exact BinV.addW)) rfl ?_
              refine RL.q (Yld.move rfl) rfl ?_
              refine RL.nil ?_
              exact N.famK ⟨x.n + 1, _, _, mset x.m z (.int .i64 (x.n : Int)), _, _, mset x.m2 o.key (.agg [.bool (doL (repC l o.key (false, 0) (ord.take x.n)) o).1.1, .int .i64 (doL (repC l o.key (false, 0) (ord.take x.n)) o).1.2].toArray)⟩ ⟨⟨by show x.n + 1 ≤ _; omega, by assumption, by assumption, hW.step hz hr hnt ho hok, hA.step hz hnt, hC.step hz ho⟩, by show _ - (x.n + 1) < _; omega⟩ (.as rfl (by first | rfl | (simp; done) | (congr 1; simp; done) | (congr 1; omega)) .nil) (.cons rfl (.cons rfl (.cons rfl (.cons rfl (.cons rfl .nil))))) (.cons rfl (.cons rfl .nil)) (.cons rfl (.cons rfl (.cons rfl .nil)))
        ·
          refine DL.one rfl (Eff.alloc 111 zc68) rfl (by rintro _ _ ⟨b11, rfl, rfl⟩; repeat (first | exact .nil | refine .cons rfl ?_)) ?_
          rintro _ _ ⟨b11, rfl, rfl⟩
          refine DL.two ?_ ?_
          ·
            refine DL.one rfl (Eff.call ent36 [] [] (.cons rfl (.cons rfl .nil)) (do_ct (repC l o.key (false, 0) (ord.take x.n)) o) rfl rfl rfl rfl (by rintro _ _ ⟨_, rfl⟩; rfl)) rfl (by rintro _ _ ⟨_, ⟨rfl, rfl⟩, rfl⟩; repeat (first | exact .nil | refine .cons rfl ?_)) ?_
            rintro _ _ ⟨_, ⟨rfl, rfl⟩, rfl⟩
            refine DL.q rfl (Yld.move rfl) rfl ?_
            refine DL.q rfl (Yld.extract rfl rfl) rfl ?_
            refine DL.q rfl (Yld.extract rfl rfl) rfl ?_
            refine DL.one rfl (Eff.alloc 112 zc40) rfl (by rintro _ _ ⟨b12, rfl, rfl⟩; repeat (first | exact .nil | refine .cons rfl ?_)) ?_
            rintro _ _ ⟨b12, rfl, rfl⟩
            refine DL.one0 rfl (Eff.storeS (c := 111) _ sz68 rfl rfl rfl rfl rfl rfl rfl (by (try simp only [putAt, List.take, List.drop, List.nil_append, List.cons_append, List.append_nil, List.length_cons, List.length_nil, Nat.add_zero, Nat.zero_add, Nat.reduceAdd]); rfl)) (by rintro _ _ rfl; repeat (first | exact .nil | refine .cons rfl ?_)) ?_
            rintro _ _ rfl
            refine DL.one0 rfl (Eff.storeS (c := 112) _ sz40 rfl rfl rfl rfl rfl rfl rfl (by (try simp only [putAt, List.take, List.drop, List.nil_append, List.cons_append, List.append_nil, List.length_cons, List.length_nil, Nat.add_zero, Nat.zero_add, Nat.reduceAdd]); rfl)) (by rintro _ _ rfl; repeat (first | exact .nil | refine .cons rfl ?_)) ?_
            rintro _ _ rfl
            refine DL.done ?_
            refine N.next ?_
            refine W.keep (.cons (k := 0) rfl (.cons (k := 5) rfl (.cons (k := 6) rfl (.cons (k := 8) rfl (.cons (k := 11) rfl (.cons (k := 12) rfl (.cons (k := 26) rfl (.cons (k := 27) rfl (.cons (k := 28) rfl .nil))))))))) (.cons (k := 0) rfl (.cons (k := 1) rfl (.cons (k := 2) rfl (.cons (k := 111) rfl (.cons (k := 112) rfl (.cons (k := 124) rfl (.cons (k := 125) rfl .nil))))))) ?_
            refine W.seq ?_
            refine W.seq ?_
            refine W.draw (.q 0 (.q 1 (.q 2 (.q 3 (.q 4 (.q 5 (.q 6 (.q 7 (.q 8 (.q 9 (.q 10 (.q 11 (.q 12 (.q 13 (.q 14 .done))))))))))))))) (.cons (k := 0) rfl (.cons (k := 1) rfl (.cons (k := 2) rfl (.cons (k := 111) rfl (.cons (k := 112) rfl (.cons (k := 124) rfl (.cons (k := 125) rfl .nil))))))) mix (by kernel_rfl) (by kernel_rfl) ?_
            refine DL.q rfl (Yld.move rfl) rfl ?_
            refine DL.q rfl (Yld.move rfl) rfl ?_
            refine DL.q rfl (Yld.indexRow Try.underlying22 sz42 rfl rfl (by first | assumption | exact Own.sl (by assumption)) (by first | rfl | omega | (simp; done) | (simp; omega)) (by omega) (by first | omega | (simp; done) | (simp; omega))) rfl ?_
            refine DL.q rfl (Yld.fieldAddr fo42_6 rfl) rfl ?_
            refine DL.q rfl (by first | exact Yld.loadRowF (cl := 112) (j := 11) Try.underlying3 rfl rfl rfl (by first | assumption | exact Own.sl (by assumption)) (by assumption) rfl | exact Yld.loadRowF (cl := 111) (j := 11) Try.underlying3 rfl rfl rfl (by first | assumption | exact Own.sl (by assumption)) (by assumption) rfl | exact Yld.loadRowF (cl := 1) (j := 11) Try.underlying3 rfl rfl rfl (by first | assumption | exact Own.sl (by assumption)) (by assumption) rfl | exact Yld.loadRowF (cl := 2) (j := 11) Try.underlying3 rfl rfl rfl (by first | assumption | exact Own.sl (by assumption)) (by assumption) rfl | exact Yld.loadRowF (cl := 124) (j := 11) Try.underlying3 rfl rfl rfl (by first | assumption | exact Own.sl (by assumption)) (by assumption) rfl | exact Yld.loadRowF (cl := 125) (j := 11) Try.underlying3 rfl rfl rfl (by first | assumption | exact Own.sl (by assumption)) (by assumption) rfl) rfl ?_
            refine DL.q rfl (Yld.bin rfl rfl BinV.geq) rfl ?_
            refine DL.q rfl (Yld.move rfl) rfl ?_
            refine' DL.and (t := 76) (d := 84) 8 rfl (.cons (k := 0) rfl (.cons (k := 5) rfl (.cons (k := 6) rfl (.cons (k := 8) rfl (.cons (k := 11) rfl (.cons (k := 12) rfl (.cons (k := 26) rfl (.cons (k := 27) rfl (.cons (k := 28) rfl (.cons (k := 70) rfl (.cons (k := 71) rfl (.cons (k := 72) rfl (.cons (k := 73) rfl (.cons (k := 74) rfl (.cons (k := 75) rfl .nil))))))))))))))) (.cons (k := 0) rfl (.cons (k := 1) rfl (.cons (k := 2) rfl (.cons (k := 111) rfl (.cons (k := 112) rfl (.cons (k := 124) rfl (.cons (k := 125) rfl .nil))))))) ?_ ?_ ?_
            rotate_left 1
            ·
              intro hg76
              refine DL.gq rfl rfl rfl (Yld.loadW (c := 112) Try.underlying40 rfl sz40 rfl rfl (by first | exact single_self _ _ | exact pset_self _ _ _ | assumption) rfl) rfl ?_
              refine DL.gq rfl rfl rfl (Yld.move rfl) rfl ?_
              refine DL.gq rfl rfl rfl (Yld.move rfl) rfl ?_
              refine DL.gq rfl rfl rfl (Yld.indexRow Try.underlying22 sz42 rfl rfl (by first | assumption | exact Own.sl (by assumption)) (by first | rfl | omega | (simp; done) | (simp; omega)) (by omega) (by first | omega | (simp; done) | (simp; omega))) rfl ?_
              refine DL.gq rfl rfl rfl (Yld.fieldAddr fo42_4 rfl) rfl ?_
              refine DL.gq rfl rfl rfl (by first | exact Yld.loadRowP (cl := 112) (j := 7) Try.underlying40 rfl sz40 rfl rfl (by first | assumption | exact Own.sl (by assumption)) (by assumption) rfl rfl | exact Yld.loadRowP (cl := 111) (j := 7) Try.underlying40 rfl sz40 rfl rfl (by first | assumption | exact Own.sl (by assumption)) (by assumption) rfl rfl | exact Yld.loadRowP (cl := 1) (j := 7) Try.underlying40 rfl sz40 rfl rfl (by first | assumption | exact Own.sl (by assumption)) (by assumption) rfl rfl | exact Yld.loadRowP (cl := 2) (j := 7) Try.underlying40 rfl sz40 rfl rfl (by first | assumption | exact Own.sl (by assumption)) (by assumption) rfl rfl | exact Yld.loadRowP (cl := 124) (j := 7) Try.underlying40 rfl sz40 rfl rfl (by first | assumption | exact Own.sl (by assumption)) (by assumption) rfl rfl | exact Yld.loadRowP (cl := 125) (j := 7) Try.underlying40 rfl sz40 rfl rfl (by first | assumption | exact Own.sl (by assumption)) (by assumption) rfl rfl) rfl ?_
              refine DL.gq rfl rfl rfl (Yld.bin rfl rfl (BinV.neqT eqg40 (EqV.struct Try.underlying40 sih40 (EqF.cons rfl (PartV.one Try.underlying26 rfl rfl) (PartV.one Try.underlying26 rfl rfl) (EqV.int Try.underlying26) (EqF.cons rfl (PartV.one Try.underlying4 rfl rfl) (PartV.one Try.underlying4 rfl rfl) (EqV.bool Try.underlying4) (EqF.cons rfl (PartV.one Try.underlying2 rfl rfl) (PartV.one Try.underlying2 rfl rfl) (EqV.int Try.underlying2) EqF.nil)))))) rfl ?_
              refine DL.q rfl (by first | exact Yld.pickT rfl rfl | exact Yld.pickF rfl rfl) rfl ?_
              exact DL.meet (.cons rfl (.cons rfl (.cons rfl (.cons rfl (.cons rfl (.cons rfl (.cons rfl (.cons rfl (.cons rfl (.cons rfl (.cons rfl (.cons rfl (.cons rfl (.cons rfl (.cons rfl (.cons rfl .nil)))))))))))))))) (.cons rfl (.cons rfl (.cons rfl (.cons rfl (.cons rfl (.cons rfl (.cons rfl .nil)))))))
            ·
              intro hg76
              refine DL.gskip rfl rfl rfl rfl rfl ?_
              refine DL.gskip rfl rfl rfl rfl rfl ?_
              refine DL.gskip rfl rfl rfl rfl rfl ?_
              refine DL.gskip rfl rfl rfl rfl rfl ?_
              refine DL.gskip rfl rfl rfl rfl rfl ?_
              refine DL.gskip rfl rfl rfl rfl rfl ?_
              refine DL.gskip rfl rfl rfl rfl rfl ?_
              refine DL.q rfl (by first | exact Yld.pickT rfl rfl | exact Yld.pickF rfl rfl) rfl ?_
              exact DL.meet (.cons rfl (.cons rfl (.cons rfl (.cons rfl (.cons rfl (.cons rfl (.cons rfl (.cons rfl (.cons rfl (.cons rfl (.cons rfl (.cons rfl (.cons rfl (.cons rfl (.cons rfl (.cons rfl .nil)))))))))))))))) (.cons rfl (.cons rfl (.cons rfl (.cons rfl (.cons rfl (.cons rfl (.cons rfl .nil)))))))
            refine DL.done ?_
            refine N.next ?_
            refine W.keep (.cons (k := 0) rfl (.cons (k := 5) rfl (.cons (k := 6) rfl (.cons (k := 8) rfl (.cons (k := 11) rfl (.cons (k := 26) rfl (.cons (k := 27) rfl (.cons (k := 28) rfl (.cons (k := 84) rfl .nil))))))))) (.cons (k := 0) rfl (.cons (k := 1) rfl (.cons (k := 2) rfl (.cons (k := 111) rfl (.cons (k := 112) rfl (.cons (k := 124) rfl (.cons (k := 125) rfl .nil))))))) ?_
            refine W.cond rfl (fun hc84 => ?_) (fun hc84 => ?_)
            ·
              have hnv : ¬ VerOK l ord := fun h => by rw [okR_b.2 (h.ok hz ho)] at hc84; cases hc84
              refine W.seq ?_
              refine W.region ?_
              refine RL.q (Yld.assign rfl) rfl ?_
              refine RL.nil ?_
              refine N.next ?_
              refine W.keep (.cons (k := 4) rfl .nil) (.cons (k := 0) rfl (.cons (k := 1) rfl (.cons (k := 2) rfl (.cons (k := 111) rfl (.cons (k := 112) rfl (.cons (k := 124) rfl (.cons (k := 125) rfl .nil))))))) ?_
              refine W.ret ?_
              refine N.then_ret ?_
              refine N.block_ret ?_
              refine N.then_ret ?_
              refine N.then_ret ?_
              refine N.block_ret ?_
              refine N.then_ret ?_
              exact N.retBy [1, 2] (.cons (.tmp rfl) .nil) rfl rfl rfl rfl ⟨by rw [verB_not hnv]; rfl, rfl⟩
            ·
              have hok : okR o (doL (repC l o.key (false, 0) (ord.take x.n)) o).2 := okR_b.1 hc84
              refine W.skip ?_
              refine N.next ?_
              refine W.draw (.q 0 (.q 1 (.q 2 (.q 3 (.q 4 (.q 5 (.q 6 (.q 7 (.one 8 .done))))))))) (.cons (k := 0) rfl (.cons (k := 1) rfl (.cons (k := 2) rfl (.cons (k := 111) rfl (.cons (k := 112) rfl (.cons (k := 124) rfl .nil)))))) mix (by kernel_rfl) (by kernel_rfl) ?_
              refine DL.q rfl (Yld.move rfl) rfl ?_
              refine DL.q rfl (Yld.move rfl) rfl ?_
              refine DL.q rfl (Yld.move rfl) rfl ?_
              refine DL.q rfl (Yld.indexRow Try.underlying22 sz42 rfl rfl (by first | assumption | exact Own.sl (by assumption)) (by first | rfl | omega | (simp; done) | (simp; omega)) (by omega) (by first | omega | (simp; done) | (simp; omega))) rfl ?_
              refine DL.q rfl (Yld.fieldAddr fo42_3 rfl) rfl ?_
              refine DL.q rfl (Yld.fieldAddr fo38_1 rfl) rfl ?_
              refine DL.q rfl (by first | exact Yld.loadRowF (cl := 112) (j := 4) Try.underlying9 rfl rfl rfl (by first | assumption | exact Own.sl (by assumption)) (by assumption) rfl | exact Yld.loadRowF (cl := 111) (j := 4) Try.underlying9 rfl rfl rfl (by first | assumption | exact Own.sl (by assumption)) (by assumption) rfl | exact Yld.loadRowF (cl := 1) (j := 4) Try.underlying9 rfl rfl rfl (by first | assumption | exact Own.sl (by assumption)) (by assumption) rfl | exact Yld.loadRowF (cl := 2) (j := 4) Try.underlying9 rfl rfl rfl (by first | assumption | exact Own.sl (by assumption)) (by assumption) rfl | exact Yld.loadRowF (cl := 124) (j := 4) Try.underlying9 rfl rfl rfl (by first | assumption | exact Own.sl (by assumption)) (by assumption) rfl | exact Yld.loadRowF (cl := 125) (j := 4) Try.underlying9 rfl rfl rfl (by first | assumption | exact Own.sl (by assumption)) (by assumption) rfl) rfl ?_
              refine DL.q rfl (Yld.loadW (c := 111) Try.underlying68 rfl sz68 rfl rfl (by first | exact single_self _ _ | exact pset_self _ _ _ | assumption) rfl) rfl ?_
              refine DL.one0 rfl (Eff.mapUpdate (c := 125) Try.underlying78 (keyString Try.underlying9) rfl rfl rfl rfl (by assumption)) (by rintro _ _ ⟨es4, ck4, hM4, rfl⟩; repeat (first | exact .nil | refine .cons rfl ?_)) ?_
              rintro _ _ ⟨es4, ck4, hM4, rfl⟩
              refine DL.done ?_
              refine N.block_normal ?_
              refine N.next ?_
              refine W.keep (.cons (k := 0) rfl (.cons (k := 5) rfl (.cons (k := 6) rfl (.cons (k := 26) rfl (.cons (k := 27) rfl (.cons (k := 28) rfl .nil)))))) (.cons (k := 0) rfl (.cons (k := 1) rfl (.cons (k := 2) rfl (.cons (k := 111) rfl (.cons (k := 112) rfl (.cons (k := 124) rfl (.cons (k := 125) rfl .nil))))))) ?_
              refine W.region ?_
              refine RL.q (Yld.bin rfl rfl (by first | exact BinV.add (by omega) (by omega) | exact BinV.addW)) rfl ?_
              refine RL.q (Yld.move rfl) rfl ?_
              refine RL.nil ?_
              exact N.famK ⟨x.n + 1, _, _, mset x.m z (.int .i64 (x.n : Int)), _, _, mset x.m2 o.key (.agg [.bool (doL (repC l o.key (false, 0) (ord.take x.n)) o).1.1, .int .i64 (doL (repC l o.key (false, 0) (ord.take x.n)) o).1.2].toArray)⟩ ⟨⟨by show x.n + 1 ≤ _; omega, by assumption, by assumption, hW.step hz hr hnt ho hok, hA.step hz hnt, hC.step hz ho⟩, by show _ - (x.n + 1) < _; omega⟩ (.as rfl (by first | rfl | (simp; done) | (congr 1; simp; done) | (congr 1; omega)) .nil) (.cons rfl (.cons rfl (.cons rfl (.cons rfl (.cons rfl .nil))))) (.cons rfl (.cons rfl .nil)) (.cons rfl (.cons rfl (.cons rfl .nil)))
          ·
            refine DL.one rfl (Eff.alloc 112 zc40) rfl (by rintro _ _ ⟨b12, rfl, rfl⟩; repeat (first | exact .nil | refine .cons rfl ?_)) ?_
            rintro _ _ ⟨b12, rfl, rfl⟩
            refine DL.one rfl (Eff.call ent36 [] [] (.cons rfl (.cons rfl .nil)) (do_ct (repC l o.key (false, 0) (ord.take x.n)) o) rfl rfl rfl rfl (by rintro _ _ ⟨_, rfl⟩; rfl)) rfl (by rintro _ _ ⟨_, ⟨rfl, rfl⟩, rfl⟩; repeat (first | exact .nil | refine .cons rfl ?_)) ?_
            rintro _ _ ⟨_, ⟨rfl, rfl⟩, rfl⟩
            refine DL.q rfl (Yld.move rfl) rfl ?_
            refine DL.q rfl (Yld.extract rfl rfl) rfl ?_
            refine DL.q rfl (Yld.extract rfl rfl) rfl ?_
            refine DL.one0 rfl (Eff.storeS (c := 111) _ sz68 rfl rfl rfl rfl rfl rfl rfl (by (try simp only [putAt, List.take, List.drop, List.nil_append, List.cons_append, List.append_nil, List.length_cons, List.length_nil, Nat.add_zero, Nat.zero_add, Nat.reduceAdd]); rfl)) (by rintro _ _ rfl; repeat (first | exact .nil | refine .cons rfl ?_)) ?_
            rintro _ _ rfl
            refine DL.one0 rfl (Eff.storeS (c := 112) _ sz40 rfl rfl rfl rfl rfl rfl rfl (by (try simp only [putAt, List.take, List.drop, List.nil_append, List.cons_append, List.append_nil, List.length_cons, List.length_nil, Nat.add_zero, Nat.zero_add, Nat.reduceAdd]); rfl)) (by rintro _ _ rfl; repeat (first | exact .nil | refine .cons rfl ?_)) ?_
            rintro _ _ rfl
            refine DL.done ?_
            refine N.next ?_
            refine W.keep (.cons (k := 0) rfl (.cons (k := 5) rfl (.cons (k := 6) rfl (.cons (k := 8) rfl (.cons (k := 11) rfl (.cons (k := 12) rfl (.cons (k := 26) rfl (.cons (k := 27) rfl (.cons (k := 28) rfl .nil))))))))) (.cons (k := 0) rfl (.cons (k := 1) rfl (.cons (k := 2) rfl (.cons (k := 111) rfl (.cons (k := 112) rfl (.cons (k := 124) rfl (.cons (k := 125) rfl .nil))))))) ?_
            refine W.seq ?_
            refine W.seq ?_
            refine W.draw (.q 0 (.q 1 (.q 2 (.q 3 (.q 4 (.q 5 (.q 6 (.q 7 (.q 8 (.q 9 (.q 10 (.q 11 (.q 12 (.q 13 (.q 14 .done))))))))))))))) (.cons (k := 0) rfl (.cons (k := 1) rfl (.cons (k := 2) rfl (.cons (k := 111) rfl (.cons (k := 112) rfl (.cons (k := 124) rfl (.cons (k := 125) rfl .nil))))))) mix (by kernel_rfl) (by kernel_rfl) ?_
            refine DL.q rfl (Yld.move rfl) rfl ?_
            refine DL.q rfl (Yld.move rfl) rfl ?_
            refine DL.q rfl (Yld.indexRow Try.underlying22 sz42 rfl rfl (by first | assumption | exact Own.sl (by assumption)) (by first | rfl | omega | (simp; done) | (simp; omega)) (by omega) (by first | omega | (simp; done) | (simp; omega))) rfl ?_
            refine DL.q rfl (Yld.fieldAddr fo42_6 rfl) rfl ?_
            refine DL.q rfl (by first | exact Yld.loadRowF (cl := 112) (j := 11) Try.underlying3 rfl rfl rfl (by first | assumption | exact Own.sl (by assumption)) (by assumption) rfl | exact Yld.loadRowF (cl := 111) (j := 11) Try.underlying3 rfl rfl rfl (by first | assumption | exact Own.sl (by assumption)) (by assumption) rfl | exact Yld.loadRowF (cl := 1) (j := 11) Try.underlying3 rfl rfl rfl (by first | assumption | exact Own.sl (by assumption)) (by assumption) rfl | exact Yld.loadRowF (cl := 2) (j := 11) Try.underlying3 rfl rfl rfl (by first | assumption | exact Own.sl (by assumption)) (by assumption) rfl | exact Yld.loadRowF (cl := 124) (j := 11) Try.underlying3 rfl rfl rfl (by first | assumption | exact Own.sl (by assumption)) (by assumption) rfl | exact Yld.loadRowF (cl := 125) (j := 11) Try.underlying3 rfl rfl rfl (by first | assumption | exact Own.sl (by assumption)) (by assumption) rfl) rfl ?_
            refine DL.q rfl (Yld.bin rfl rfl BinV.geq) rfl ?_
            refine DL.q rfl (Yld.move rfl) rfl ?_
            refine' DL.and (t := 76) (d := 84) 8 rfl (.cons (k := 0) rfl (.cons (k := 5) rfl (.cons (k := 6) rfl (.cons (k := 8) rfl (.cons (k := 11) rfl (.cons (k := 12) rfl (.cons (k := 26) rfl (.cons (k := 27) rfl (.cons (k := 28) rfl (.cons (k := 70) rfl (.cons (k := 71) rfl (.cons (k := 72) rfl (.cons (k := 73) rfl (.cons (k := 74) rfl (.cons (k := 75) rfl .nil))))))))))))))) (.cons (k := 0) rfl (.cons (k := 1) rfl (.cons (k := 2) rfl (.cons (k := 111) rfl (.cons (k := 112) rfl (.cons (k := 124) rfl (.cons (k := 125) rfl .nil))))))) ?_ ?_ ?_
            rotate_left 1
            ·
              intro hg76
              refine DL.gq rfl rfl rfl (Yld.loadW (c := 112) Try.underlying40 rfl sz40 rfl rfl (by first | exact single_self _ _ | exact pset_self _ _ _ | assumption) rfl) rfl ?_
              refine DL.gq rfl rfl rfl (Yld.move rfl) rfl ?_
              refine DL.gq rfl rfl rfl (Yld.move rfl) rfl ?_
              refine DL.gq rfl rfl rfl (Yld.indexRow Try.underlying22 sz42 rfl rfl (by first | assumption | exact Own.sl (by assumption)) (by first | rfl | omega | (simp; done) | (simp; omega)) (by omega) (by first | omega | (simp; done) | (simp; omega))) rfl ?_
              refine DL.gq rfl rfl rfl (Yld.fieldAddr fo42_4 rfl) rfl ?_
              refine DL.gq rfl rfl rfl (by first | exact Yld.loadRowP (cl := 112) (j := 7) Try.underlying40 rfl sz40 rfl rfl (by first | assumption | exact Own.sl (by assumption)) (by assumption) rfl rfl | exact Yld.loadRowP (cl := 111) (j := 7) Try.underlying40 rfl sz40 rfl rfl (by first | assumption | exact Own.sl (by assumption)) (by assumption) rfl rfl | exact Yld.loadRowP (cl := 1) (j := 7) Try.underlying40 rfl sz40 rfl rfl (by first | assumption | exact Own.sl (by assumption)) (by assumption) rfl rfl | exact Yld.loadRowP (cl := 2) (j := 7) Try.underlying40 rfl sz40 rfl rfl (by first | assumption | exact Own.sl (by assumption)) (by assumption) rfl rfl | exact Yld.loadRowP (cl := 124) (j := 7) Try.underlying40 rfl sz40 rfl rfl (by first | assumption | exact Own.sl (by assumption)) (by assumption) rfl rfl | exact Yld.loadRowP (cl := 125) (j := 7) Try.underlying40 rfl sz40 rfl rfl (by first | assumption | exact Own.sl (by assumption)) (by assumption) rfl rfl) rfl ?_
              refine DL.gq rfl rfl rfl (Yld.bin rfl rfl (BinV.neqT eqg40 (EqV.struct Try.underlying40 sih40 (EqF.cons rfl (PartV.one Try.underlying26 rfl rfl) (PartV.one Try.underlying26 rfl rfl) (EqV.int Try.underlying26) (EqF.cons rfl (PartV.one Try.underlying4 rfl rfl) (PartV.one Try.underlying4 rfl rfl) (EqV.bool Try.underlying4) (EqF.cons rfl (PartV.one Try.underlying2 rfl rfl) (PartV.one Try.underlying2 rfl rfl) (EqV.int Try.underlying2) EqF.nil)))))) rfl ?_
              refine DL.q rfl (by first | exact Yld.pickT rfl rfl | exact Yld.pickF rfl rfl) rfl ?_
              exact DL.meet (.cons rfl (.cons rfl (.cons rfl (.cons rfl (.cons rfl (.cons rfl (.cons rfl (.cons rfl (.cons rfl (.cons rfl (.cons rfl (.cons rfl (.cons rfl (.cons rfl (.cons rfl (.cons rfl .nil)))))))))))))))) (.cons rfl (.cons rfl (.cons rfl (.cons rfl (.cons rfl (.cons rfl (.cons rfl .nil)))))))
            ·
              intro hg76
              refine DL.gskip rfl rfl rfl rfl rfl ?_
              refine DL.gskip rfl rfl rfl rfl rfl ?_
              refine DL.gskip rfl rfl rfl rfl rfl ?_
              refine DL.gskip rfl rfl rfl rfl rfl ?_
              refine DL.gskip rfl rfl rfl rfl rfl ?_
              refine DL.gskip rfl rfl rfl rfl rfl ?_
              refine DL.gskip rfl rfl rfl rfl rfl ?_
              refine DL.q rfl (by first | exact Yld.pickT rfl rfl | exact Yld.pickF rfl rfl) rfl ?_
              exact DL.meet (.cons rfl (.cons rfl (.cons rfl (.cons rfl (.cons rfl (.cons rfl (.cons rfl (.cons rfl (.cons rfl (.cons rfl (.cons rfl (.cons rfl (.cons rfl (.cons rfl (.cons rfl (.cons rfl .nil)))))))))))))))) (.cons rfl (.cons rfl (.cons rfl (.cons rfl (.cons rfl (.cons rfl (.cons rfl .nil)))))))
            refine DL.done ?_
            refine N.next ?_
            refine W.keep (.cons (k := 0) rfl (.cons (k := 5) rfl (.cons (k := 6) rfl (.cons (k := 8) rfl (.cons (k := 11) rfl (.cons (k := 26) rfl (.cons (k := 27) rfl (.cons (k := 28) rfl (.cons (k := 84) rfl .nil))))))))) (.cons (k := 0) rfl (.cons (k := 1) rfl (.cons (k := 2) rfl (.cons (k := 111) rfl (.cons (k := 112) rfl (.cons (k := 124) rfl (.cons (k := 125) rfl .nil))))))) ?_
            refine W.cond rfl (fun hc84 => ?_) (fun hc84 => ?_)
            ·
              have hnv : ¬ VerOK l ord := fun h => by rw [okR_b.2 (h.ok hz ho)] at hc84; cases hc84
              refine W.seq ?_
              refine W.region ?_
              refine RL.q (Yld.assign rfl) rfl ?_
              refine RL.nil ?_
              refine N.next ?_
              refine W.keep (.cons (k := 4) rfl .nil) (.cons (k := 0) rfl (.cons (k := 1) rfl (.cons (k := 2) rfl (.cons (k := 111) rfl (.cons (k := 112) rfl (.cons (k := 124) rfl (.cons (k := 125) rfl .nil))))))) ?_
              refine W.ret ?_
              refine N.then_ret ?_
              refine N.block_ret ?_
              refine N.then_ret ?_
              refine N.then_ret ?_
              refine N.block_ret ?_
              refine N.then_ret ?_
              exact N.retBy [1, 2] (.cons (.tmp rfl) .nil) rfl rfl rfl rfl ⟨by rw [verB_not hnv]; rfl, rfl⟩
            ·
              have hok : okR o (doL (repC l o.key (false, 0) (ord.take x.n)) o).2 := okR_b.1 hc84
              refine W.skip ?_
              refine N.next ?_
              refine W.draw (.q 0 (.q 1 (.q 2 (.q 3 (.q 4 (.q 5 (.q 6 (.q 7 (.one 8 .done))))))))) (.cons (k := 0) rfl (.cons (k := 1) rfl (.cons (k := 2) rfl (.cons (k := 111) rfl (.cons (k := 112) rfl (.cons (k := 124) rfl .nil)))))) mix (by kernel_rfl) (by kernel_rfl) ?_
              refine DL.q rfl (Yld.move rfl) rfl ?_
              refine DL.q rfl (Yld.move rfl) rfl ?_
              refine DL.q rfl (Yld.move rfl) rfl ?_
              refine DL.q rfl (Yld.indexRow Try.underlying22 sz42 rfl rfl (by first | assumption | exact Own.sl (by assumption)) (by first | rfl | omega | (simp; done) | (simp; omega)) (by omega) (by first | omega | (simp; done) | (simp; omega))) rfl ?_
              refine DL.q rfl (Yld.fieldAddr fo42_3 rfl) rfl ?_
              refine DL.q rfl (Yld.fieldAddr fo38_1 rfl) rfl ?_
              refine DL.q rfl (by first | exact Yld.loadRowF (cl := 112) (j := 4) Try.underlying9 rfl rfl rfl (by first | assumption | exact Own.sl (by assumption)) (by assumption) rfl | exact Yld.loadRowF (cl := 111) (j := 4) Try.underlying9 rfl rfl rfl (by first | assumption | exact Own.sl (by assumption)) (by assumption) rfl | exact Yld.loadRowF (cl := 1) (j := 4) Try.underlying9 rfl rfl rfl (by first | assumption | exact Own.sl (by assumption)) (by assumption) rfl | exact Yld.loadRowF (cl := 2) (j := 4) Try.underlying9 rfl rfl rfl (by first | assumption | exact Own.sl (by assumption)) (by assumption) rfl | exact Yld.loadRowF (cl := 124) (j := 4) Try.underlying9 rfl rfl rfl (by first | assumption | exact Own.sl (by assumption)) (by assumption) rfl | exact Yld.loadRowF (cl := 125) (j := 4) Try.underlying9 rfl rfl rfl (by first | assumption | exact Own.sl (by assumption)) (by assumption) rfl) rfl ?_
              refine DL.q rfl (Yld.loadW (c := 111) Try.underlying68 rfl sz68 rfl rfl (by first | exact single_self _ _ | exact pset_self _ _ _ | assumption) rfl) rfl ?_
              refine DL.one0 rfl (Eff.mapUpdate (c := 125) Try.underlying78 (keyString Try.underlying9) rfl rfl rfl rfl (by assumption)) (by rintro _ _ ⟨es5, ck5, hM5, rfl⟩; repeat (first | exact .nil | refine .cons rfl ?_)) ?_
              rintro _ _ ⟨es5, ck5, hM5, rfl⟩
              refine DL.done ?_
              refine N.block_normal ?_
              refine N.next ?_
              refine W.keep (.cons (k := 0) rfl (.cons (k := 5) rfl (.cons (k := 6) rfl (.cons (k := 26) rfl (.cons (k := 27) rfl (.cons (k := 28) rfl .nil)))))) (.cons (k := 0) rfl (.cons (k := 1) rfl (.cons (k := 2) rfl (.cons (k := 111) rfl (.cons (k := 112) rfl (.cons (k := 124) rfl (.cons (k := 125) rfl .nil))))))) ?_
              refine W.region ?_
              refine RL.q (Yld.bin rfl rfl (by first | exact BinV.add (by omega) (by omega) | exact BinV.addW)) rfl ?_
              refine RL.q (Yld.move rfl) rfl ?_
              refine RL.nil ?_
              exact N.famK ⟨x.n + 1, _, _, mset x.m z (.int .i64 (x.n : Int)), _, _, mset x.m2 o.key (.agg [.bool (doL (repC l o.key (false, 0) (ord.take x.n)) o).1.1, .int .i64 (doL (repC l o.key (false, 0) (ord.take x.n)) o).1.2].toArray)⟩ ⟨⟨by show x.n + 1 ≤ _; omega, by assumption, by assumption, hW.step hz hr hnt ho hok, hA.step hz hnt, hC.step hz ho⟩, by show _ - (x.n + 1) < _; omega⟩ (.as rfl (by first | rfl | (simp; done) | (congr 1; simp; done) | (congr 1; omega)) .nil) (.cons rfl (.cons rfl (.cons rfl (.cons rfl (.cons rfl .nil))))) (.cons rfl (.cons rfl .nil)) (.cons rfl (.cons rfl (.cons rfl .nil)))
        ·
          refine DL.one rfl (Eff.alloc 112 zc40) rfl (by rintro _ _ ⟨b12, rfl, rfl⟩; repeat (first | exact .nil | refine .cons rfl ?_)) ?_
          rintro _ _ ⟨b12, rfl, rfl⟩
          refine DL.two ?_ ?_
          ·
            refine DL.one rfl (Eff.call ent36 [] [] (.cons rfl (.cons rfl .nil)) (do_ct (repC l o.key (false, 0) (ord.take x.n)) o) rfl rfl rfl rfl (by rintro _ _ ⟨_, rfl⟩; rfl)) rfl (by rintro _ _ ⟨_, ⟨rfl, rfl⟩, rfl⟩; repeat (first | exact .nil | refine .cons rfl ?_)) ?_
            rintro _ _ ⟨_, ⟨rfl, rfl⟩, rfl⟩
            refine DL.q rfl (Yld.move rfl) rfl ?_
            refine DL.q rfl (Yld.extract rfl rfl) rfl ?_
            refine DL.q rfl (Yld.extract rfl rfl) rfl ?_
            refine DL.one rfl (Eff.alloc 111 zc68) rfl (by rintro _ _ ⟨b11, rfl, rfl⟩; repeat (first | exact .nil | refine .cons rfl ?_)) ?_
            rintro _ _ ⟨b11, rfl, rfl⟩
            refine DL.one0 rfl (Eff.storeS (c := 111) _ sz68 rfl rfl rfl rfl rfl rfl rfl (by (try simp only [putAt, List.take, List.drop, List.nil_append, List.cons_append, List.append_nil, List.length_cons, List.length_nil, Nat.add_zero, Nat.zero_add, Nat.reduceAdd]); rfl)) (by rintro _ _ rfl; repeat (first | exact .nil | refine .cons rfl ?_)) ?_
            rintro _ _ rfl
            refine DL.one0 rfl (Eff.storeS (c := 112) _ sz40 rfl rfl rfl rfl rfl rfl rfl (by (try simp only [putAt, List.take, List.drop, List.nil_append, List.cons_append, List.append_nil, List.length_cons, List.length_nil, Nat.add_zero, Nat.zero_add, Nat.reduceAdd]); rfl)) (by rintro _ _ rfl; repeat (first | exact .nil | refine .cons rfl ?_)) ?_
            rintro _ _ rfl
            refine DL.done ?_
            refine N.next ?_
            refine W.keep (.cons (k := 0) rfl (.cons (k := 5) rfl (.cons (k := 6) rfl (.cons (k := 8) rfl (.cons (k := 11) rfl (.cons (k := 12) rfl (.cons (k := 26) rfl (.cons (k := 27) rfl (.cons (k := 28) rfl .nil))))))))) (.cons (k := 0) rfl (.cons (k := 1) rfl (.cons (k := 2) rfl (.cons (k := 111) rfl (.cons (k := 112) rfl (.cons (k := 124) rfl (.cons (k := 125) rfl .nil))))))) ?_
            refine W.seq ?_
            refine W.seq ?_
            refine W.draw (.q 0 (.q 1 (.q 2 (.q 3 (.q 4 (.q 5 (.q 6 (.q 7 (.q 8 (.q 9 (.q 10 (.q 11 (.q 12 (.q 13 (.q 14 .done))))))))))))))) (.cons (k := 0) rfl (.cons (k := 1) rfl (.cons (k := 2) rfl (.cons (k := 111) rfl (.cons (k := 112) rfl (.cons (k := 124) rfl (.cons (k := 125) rfl .nil))))))) mix (by kernel_rfl) (by kernel_rfl) ?_
            refine DL.q rfl (Yld.move rfl) rfl ?_
            refine DL.q rfl (Yld.move rfl) rfl ?_
            refine DL.q rfl (Yld.indexRow Try.underlying22 sz42 rfl rfl (by first | assumption | exact Own.sl (by assumption)) (by first | rfl | omega | (simp; done) | (simp; omega)) (by omega) (by first | omega | (simp; done) | (simp; omega))) rfl ?_
            refine DL.q rfl (Yld.fieldAddr fo42_6 rfl) rfl ?_
            refine DL.q rfl (by first | exact Yld.loadRowF (cl := 111) (j := 11) Try.underlying3 rfl rfl rfl (by first | assumption | exact Own.sl (by assumption)) (by assumption) rfl | exact Yld.loadRowF (cl := 112) (j := 11) Try.underlying3 rfl rfl rfl (by first | assumption | exact Own.sl (by assumption)) (by assumption) rfl | exact Yld.loadRowF (cl := 1) (j := 11) Try.underlying3 rfl rfl rfl (by first | assumption | exact Own.sl (by assumption)) (by assumption) rfl | exact Yld.loadRowF (cl := 2) (j := 11) Try.underlying3 rfl rfl rfl (by first | assumption | exact Own.sl (by assumption)) (by assumption) rfl | exact Yld.loadRowF (cl := 124) (j := 11) Try.underlying3 rfl rfl rfl (by first | assumption | exact Own.sl (by assumption)) (by assumption) rfl | exact Yld.loadRowF (cl := 125) (j := 11) Try.underlying3 rfl rfl rfl (by first | assumption | exact Own.sl (by assumption)) (by assumption) rfl) rfl ?_
            refine DL.q rfl (Yld.bin rfl rfl BinV.geq) rfl ?_
            refine DL.q rfl (Yld.move rfl) rfl ?_
            refine' DL.and (t := 76) (d := 84) 8 rfl (.cons (k := 0) rfl (.cons (k := 5) rfl (.cons (k := 6) rfl (.cons (k := 8) rfl (.cons (k := 11) rfl (.cons (k := 12) rfl (.cons (k := 26) rfl (.cons (k := 27) rfl (.cons (k := 28) rfl (.cons (k := 70) rfl (.cons (k := 71) rfl (.cons (k := 72) rfl (.cons (k := 73) rfl (.cons (k := 74) rfl (.cons (k := 75) rfl .nil))))))))))))))) (.cons (k := 0) rfl (.cons (k := 1) rfl (.cons (k := 2) rfl (.cons (k := 111) rfl (.cons (k := 112) rfl (.cons (k := 124) rfl (.cons (k := 125) rfl .nil))))))) ?_ ?_ ?_
            rotate_left 1
            ·
              intro hg76
              refine DL.gq rfl rfl rfl (Yld.loadW (c := 112) Try.underlying40 rfl sz40 rfl rfl (by first | exact single_self _ _ | exact pset_self _ _ _ | assumption) rfl) rfl ?_
              refine DL.gq rfl rfl rfl (Yld.move rfl) rfl ?_
              refine DL.gq rfl rfl rfl (Yld.move rfl) rfl ?_
              refine DL.gq rfl rfl rfl (Yld.indexRow Try.underlying22 sz42 rfl rfl (by first | assumption | exact Own.sl (by assumption)) (by first | rfl | omega | (simp; done) | (simp; omega)) (by omega) (by first | omega | (simp; done) | (simp; omega))) rfl ?_
              refine DL.gq rfl rfl rfl (Yld.fieldAddr fo42_4 rfl) rfl ?_
              refine DL.gq rfl rfl rfl (by first | exact Yld.loadRowP (cl := 111) (j := 7) Try.underlying40 rfl sz40 rfl rfl (by first | assumption | exact Own.sl (by assumption)) (by assumption) rfl rfl | exact Yld.loadRowP (cl := 112) (j := 7) Try.underlying40 rfl sz40 rfl rfl (by first | assumption | exact Own.sl (by assumption)) (by assumption) rfl rfl | exact Yld.loadRowP (cl := 1) (j := 7) Try.underlying40 rfl sz40 rfl rfl (by first | assumption | exact Own.sl (by assumption)) (by assumption) rfl rfl | exact Yld.loadRowP (cl := 2) (j := 7) Try.underlying40 rfl sz40 rfl rfl (by first | assumption | exact Own.sl (by assumption)) (by assumption) rfl rfl | exact Yld.loadRowP (cl := 124) (j := 7) Try.underlying40 rfl sz40 rfl rfl (by first | assumption | exact Own.sl (by assumption)) (by assumption) rfl rfl | exact Yld.loadRowP (cl := 125) (j := 7) Try.underlying40 rfl sz40 rfl rfl (by first | assumption | exact Own.sl (by assumption)) (by assumption) rfl rfl) rfl ?_
              refine DL.gq rfl rfl rfl (Yld.bin rfl rfl (BinV.neqT eqg40 (EqV.struct Try.underlying40 sih40 (EqF.cons rfl (PartV.one Try.underlying26 rfl rfl) (PartV.one Try.underlying26 rfl rfl) (EqV.int Try.underlying26) (EqF.cons rfl (PartV.one Try.underlying4 rfl rfl) (PartV.one Try.underlying4 rfl rfl) (EqV.bool Try.underlying4) (EqF.cons rfl (PartV.one Try.underlying2 rfl rfl) (PartV.one Try.underlying2 rfl rfl) (EqV.int Try.underlying2) EqF.nil)))))) rfl ?_
              refine DL.q rfl (by first | exact Yld.pickT rfl rfl | exact Yld.pickF rfl rfl) rfl ?_
              exact DL.meet (.cons rfl (.cons rfl (.cons rfl (.cons rfl (.cons rfl (.cons rfl (.cons rfl (.cons rfl (.cons rfl (.cons rfl (.cons rfl (.cons rfl (.cons rfl (.cons rfl (.cons rfl (.cons rfl .nil)))))))))))))))) (.cons rfl (.cons rfl (.cons rfl (.cons rfl (.cons rfl (.cons rfl (.cons rfl .nil)))))))
            ·
              intro hg76
              refine DL.gskip rfl rfl rfl rfl rfl ?_
              refine DL.gskip rfl rfl rfl rfl rfl ?_
              refine DL.gskip rfl rfl rfl rfl rfl ?_
              refine DL.gskip rfl rfl rfl rfl rfl ?_
              refine DL.gskip rfl rfl rfl rfl rfl ?_
              refine DL.gskip rfl rfl rfl rfl rfl ?_
              refine DL.gskip rfl rfl rfl rfl rfl ?_
              refine DL.q rfl (by first | exact Yld.pickT rfl rfl | exact Yld.pickF rfl rfl) rfl ?_
              exact DL.meet (.cons rfl (.cons rfl (.cons rfl (.cons rfl (.cons rfl (.cons rfl (.cons rfl (.cons rfl (.cons rfl (.cons rfl (.cons rfl (.cons rfl (.cons rfl (.cons rfl (.cons rfl (.cons rfl .nil)))))))))))))))) (.cons rfl (.cons rfl (.cons rfl (.cons rfl (.cons rfl (.cons rfl (.cons rfl .nil)))))))
            refine DL.done ?_
            refine N.next ?_
            refine W.keep (.cons (k := 0) rfl (.cons (k := 5) rfl (.cons (k := 6) rfl (.cons (k := 8) rfl (.cons (k := 11) rfl (.cons (k := 26) rfl (.cons (k := 27) rfl (.cons (k := 28) rfl (.cons (k := 84) rfl .nil))))))))) (.cons (k := 0) rfl (.cons (k := 1) rfl (.cons (k := 2) rfl (.cons (k := 111) rfl (.cons (k := 112) rfl (.cons (k := 124) rfl (.cons (k := 125) rfl .nil))))))) ?_
            refine W.cond rfl (fun hc84 => ?_) (fun hc84 => ?_)
            ·
              have hnv : ¬ VerOK l ord := fun h => by rw [okR_b.2 (h.ok hz ho)] at hc84; cases hc84
              refine W.seq ?_
              refine W.region ?_
              refine RL.q (Yld.assign rfl) rfl ?_
              refine RL.nil ?_
              refine N.next ?_
              refine W.keep (.cons (k := 4) rfl .nil) (.cons (k := 0) rfl (.cons (k := 1) rfl (.cons (k := 2) rfl (.cons (k := 111) rfl (.cons (k := 112) rfl (.cons (k := 124) rfl (.cons (k := 125) rfl .nil))))))) ?_
              refine W.ret ?_
              refine N.then_ret ?_
              refine N.block_ret ?_
              refine N.then_ret ?_
              refine N.then_ret ?_
              refine N.block_ret ?_
              refine N.then_ret ?_
              exact N.retBy [1, 2] (.cons (.tmp rfl) .nil) rfl rfl rfl rfl ⟨by rw [verB_not hnv]; rfl, rfl⟩
            ·
              have hok : okR o (doL (repC l o.key (false, 0) (ord.take x.n)) o).2 := okR_b.1 hc84
              refine W.skip ?_
              refine N.next ?_
              refine W.draw (.q 0 (.q 1 (.q 2 (.q 3 (.q 4 (.q 5 (.q 6 (.q 7 (.one 8 .done))))))))) (.cons (k := 0) rfl (.cons (k := 1) rfl (.cons (k := 2) rfl (.cons (k := 111) rfl (.cons (k := 112) rfl (.cons (k := 124) rfl .nil)))))) mix (by kernel_rfl) (by kernel_rfl) ?_
              refine DL.q rfl (Yld.move rfl) rfl ?_
              refine DL.q rfl (Yld.move rfl) rfl ?_
              refine DL.q rfl (Yld.move rfl) rfl ?_
              refine DL.q rfl (Yld.indexRow Try.underlying22 sz42 rfl rfl (by first | assumption | exact Own.sl (by assumption)) (by first | rfl | omega | (simp; done) | (simp; omega)) (by omega) (by first | omega | (simp; done) | (simp; omega))) rfl ?_
              refine DL.q rfl (Yld.fieldAddr fo42_3 rfl) rfl ?_
              refine DL.q rfl (Yld.fieldAddr fo38_1 rfl) rfl ?_
              refine DL.q rfl (by first | exact Yld.loadRowF (cl := 111) (j := 4) Try.underlying9 rfl rfl rfl (by first | assumption | exact Own.sl (by assumption)) (by assumption) rfl | exact Yld.loadRowF (cl := 112) (j := 4) Try.underlying9 rfl rfl rfl (by first | assumption | exact Own.sl (by assumption)) (by assumption) rfl | exact Yld.loadRowF (cl := 1) (j := 4) Try.underlying9 rfl rfl rfl (by first | assumption | exact Own.sl (by assumption)) (by assumption) rfl | exact Yld.loadRowF (cl := 2) (j := 4) Try.underlying9 rfl rfl rfl (by first | assumption | exact Own.sl (by assumption)) (by assumption) rfl | exact Yld.loadRowF (cl := 124) (j := 4) Try.underlying9 rfl rfl rfl (by first | assumption | exact Own.sl (by assumption)) (by assumption) rfl | exact Yld.loadRowF (cl := 125) (j := 4) Try.underlying9 rfl rfl rfl (by first | assumption | exact Own.sl (by assumption)) (by assumption) rfl) rfl ?_
              refine DL.q rfl (Yld.loadW (c := 111) Try.underlying68 rfl sz68 rfl rfl (by first | exact single_self _ _ | exact pset_self _ _ _ | assumption) rfl) rfl ?_
              refine DL.one0 rfl (Eff.mapUpdate (c := 125) Try.underlying78 (keyString Try.underlying9) rfl rfl rfl rfl (by assumption)) (by rintro _ _ ⟨es6, ck6, hM6, rfl⟩; repeat (first | exact .nil | refine .cons rfl ?_)) ?_
              rintro _ _ ⟨es6, ck6, hM6, rfl⟩
              refine DL.done ?_
              refine N.block_normal ?_
              refine N.next ?_
              refine W.keep (.cons (k := 0) rfl (.cons (k := 5) rfl (.cons (k := 6) rfl (.cons (k := 26) rfl (.cons (k := 27) rfl (.cons (k := 28) rfl .nil)))))) (.cons (k := 0) rfl (.cons (k := 1) rfl (.cons (k := 2) rfl (.cons (k := 111) rfl (.cons (k := 112) rfl (.cons (k := 124) rfl (.cons (k := 125) rfl .nil))))))) ?_
              refine W.region ?_
              refine RL.q (Yld.bin rfl rfl (by first | exact BinV.add (by omega) (by omega) | exact BinV.addW)) rfl ?_
              refine RL.q (Yld.move rfl) rfl ?_
              refine RL.nil ?_
              exact N.famK ⟨x.n + 1, _, _, mset x.m z (.int .i64 (x.n : Int)), _, _, mset x.m2 o.key (.agg [.bool (doL (repC l o.key (false, 0) (ord.take x.n)) o).1.1, .int .i64 (doL (repC l o.key (false, 0) (ord.take x.n)) o).1.2].toArray)⟩ ⟨⟨by show x.n + 1 ≤ _; omega, by assumption, by assumption, hW.step hz hr hnt ho hok, hA.step hz hnt, hC.step hz ho⟩, by show _ - (x.n + 1) < _; omega⟩ (.as rfl (by first | rfl | (simp; done) | (congr 1; simp; done) | (congr 1; omega)) .nil) (.cons rfl (.cons rfl (.cons rfl (.cons rfl (.cons rfl .nil))))) (.cons rfl (.cons rfl .nil)) (.cons rfl (.cons rfl (.cons rfl .nil)))
          ·
            refine DL.one rfl (Eff.alloc 111 zc68) rfl (by rintro _ _ ⟨b11, rfl, rfl⟩; repeat (first | exact .nil | refine .cons rfl ?_)) ?_
            rintro _ _ ⟨b11, rfl, rfl⟩
            refine DL.one rfl (Eff.call ent36 [] [] (.cons rfl (.cons rfl .nil)) (do_ct (repC l o.key (false, 0) (ord.take x.n)) o) rfl rfl rfl rfl (by rintro _ _ ⟨_, rfl⟩; rfl)) rfl (by rintro _ _ ⟨_, ⟨rfl, rfl⟩, rfl⟩; repeat (first | exact .nil | refine .cons rfl ?_)) ?_
            rintro _ _ ⟨_, ⟨rfl, rfl⟩, rfl⟩
            refine DL.q rfl (Yld.move rfl) rfl ?_
            refine DL.q rfl (Yld.extract rfl rfl) rfl ?_
            refine DL.q rfl (Yld.extract rfl rfl) rfl ?_
            refine DL.one0 rfl (Eff.storeS (c := 111) _ sz68 rfl rfl rfl rfl rfl rfl rfl (by (try simp only [putAt, List.take, List.drop, List.nil_append, List.cons_append, List.append_nil, List.length_cons, List.length_nil, Nat.add_zero, Nat.zero_add, Nat.reduceAdd]); rfl)) (by rintro _ _ rfl; repeat (first | exact .nil | refine .cons rfl ?_)) ?_
            rintro _ _ rfl
            refine DL.one0 rfl (Eff.storeS (c := 112) _ sz40 rfl rfl rfl rfl rfl rfl rfl (by (try simp only [putAt, List.take, List.drop, List.nil_append, List.cons_append, List.append_nil, List.length_cons, List.length_nil, Nat.add_zero, Nat.zero_add, Nat.reduceAdd]); rfl)) (by rintro _ _ rfl; repeat (first | exact .nil | refine .cons rfl ?_)) ?_
            rintro _ _ rfl
            refine DL.done ?_
            refine N.next ?_
            refine W.keep (.cons (k := 0) rfl (.cons (k := 5) rfl (.cons (k := 6) rfl (.cons (k := 8) rfl (.cons (k := 11) rfl (.cons (k := 12) rfl (.cons (k := 26) rfl (.cons (k := 27) rfl (.cons (k := 28) rfl .nil))))))))) (.cons (k := 0) rfl (.cons (k := 1) rfl (.cons (k := 2) rfl (.cons (k := 111) rfl (.cons (k := 112) rfl (.cons (k := 124) rfl (.cons (k := 125) rfl .nil))))))) ?_
            refine W.seq ?_
            refine W.seq ?_
            refine W.draw (.q 0 (.q 1 (.q 2 (.q 3 (.q 4 (.q 5 (.q 6 (.q 7 (.q 8 (.q 9 (.q 10 (.q 11 (.q 12 (.q 13 (.q 14 .done))))))))))))))) (.cons (k := 0) rfl (.cons (k := 1) rfl (.cons (k := 2) rfl (.cons (k := 111) rfl (.cons (k := 112) rfl (.cons (k := 124) rfl (.cons (k := 125) rfl .nil))))))) mix (by kernel_rfl) (by kernel_rfl) ?_
            refine DL.q rfl (Yld.move rfl) rfl ?_
            refine DL.q rfl (Yld.move rfl) rfl ?_
            refine DL.q rfl (Yld.indexRow Try.underlying22 sz42 rfl rfl (by first | assumption | exact Own.sl (by assumption)) (by first | rfl | omega | (simp; done) | (simp; omega)) (by omega) (by first | omega | (simp; done) | (simp; omega))) rfl ?_
            refine DL.q rfl (Yld.fieldAddr fo42_6 rfl) rfl ?_
            refine DL.q rfl (by first | exact Yld.loadRowF (cl := 111) (j := 11) Try.underlying3 rfl rfl rfl (by first | assumption | exact Own.sl (by assumption)) (by assumption) rfl | exact Yld.loadRowF (cl := 112) (j := 11) Try.underlying3 rfl rfl rfl (by first | assumption | exact Own.sl (by assumption)) (by assumption) rfl | exact Yld.loadRowF (cl := 1) (j := 11) Try.underlying3 rfl rfl rfl (by first | assumption | exact Own.sl (by assumption)) (by assumption) rfl | exact Yld.loadRowF (cl := 2) (j := 11) Try.underlying3 rfl rfl rfl (by first | assumption | exact Own.sl (by assumption)) (by assumption) rfl | exact Yld.loadRowF (cl := 124) (j := 11) Try.underlying3 rfl rfl rfl (by first | assumption | exact Own.sl (by assumption)) (by assumption) rfl | exact Yld.loadRowF (cl := 125) (j := 11) Try.underlying3 rfl rfl rfl (by first | assumption | exact Own.sl (by assumption)) (by assumption) rfl) rfl ?_
            refine DL.q rfl (Yld.bin rfl rfl BinV.geq) rfl ?_
            refine DL.q rfl (Yld.move rfl) rfl ?_
            refine' DL.and (t := 76) (d := 84) 8 rfl (.cons (k := 0) rfl (.cons (k := 5) rfl (.cons (k := 6) rfl (.cons (k := 8) rfl (.cons (k := 11) rfl (.cons (k := 12) rfl (.cons (k := 26) rfl (.cons (k := 27) rfl (.cons (k := 28) rfl (.cons (k := 70) rfl (.cons (k := 71) rfl (.cons (k := 72) rfl (.cons (k := 73) rfl (.cons (k := 74) rfl (.cons (k := 75) rfl .nil))))))))))))))) (.cons (k := 0) rfl (.cons (k := 1) rfl (.cons (k := 2) rfl (.cons (k := 111) rfl (.cons (k := 112) rfl (.cons (k := 124) rfl (.cons (k := 125) rfl .nil))))))) ?_ ?_ ?_
            rotate_left 1
            ·
              intro hg76
              refine DL.gq rfl rfl rfl (Yld.loadW (c := 112) Try.underlying40 rfl sz40 rfl rfl (by first | exact single_self _ _ | exact pset_self _ _ _ | assumption) rfl) rfl ?_
              refine DL.gq rfl rfl rfl (Yld.move rfl) rfl ?_
              refine DL.gq rfl rfl rfl (Yld.move rfl) rfl ?_
              refine DL.gq rfl rfl rfl (Yld.indexRow Try.underlying22 sz42 rfl rfl (by first | assumption | exact Own.sl (by assumption)) (by first | rfl | omega | (simp; done) | (simp; omega)) (by omega) (by first | omega | (simp; done) | (simp; omega))) rfl ?_
              refine DL.gq rfl rfl rfl (Yld.fieldAddr fo42_4 rfl) rfl ?_
              refine DL.gq rfl rfl rfl (by first | exact Yld.loadRowP (cl := 111) (j := 7) Try.underlying40 rfl sz40 rfl rfl (by first | assumption | exact Own.sl (by assumption)) (by assumption) rfl rfl | exact Yld.loadRowP (cl := 112) (j := 7) Try.underlying40 rfl sz40 rfl rfl (by first | assumption | exact Own.sl (by assumption)) (by assumption) rfl rfl | exact Yld.loadRowP (cl := 1) (j := 7) Try.underlying40 rfl sz40 rfl rfl (by first | assumption | exact Own.sl (by assumption)) (by assumption) rfl rfl | exact Yld.loadRowP (cl := 2) (j := 7) Try.underlying40 rfl sz40 rfl rfl (by first | assumption | exact Own.sl (by assumption)) (by assumption) rfl rfl | exact Yld.loadRowP (cl := 124) (j := 7) Try.underlying40 rfl sz40 rfl rfl (by first | assumption | exact Own.sl (by assumption)) (by assumption) rfl rfl | exact Yld.loadRowP (cl := 125) (j := 7) Try.underlying40 rfl sz40 rfl rfl (by first | assumption | exact Own.sl (by assumption)) (by assumption) rfl rfl) rfl ?_
              refine DL.gq rfl rfl rfl (Yld.bin rfl rfl (BinV.neqT eqg40 (EqV.struct Try.underlying40 sih40 (EqF.cons rfl (PartV.one Try.underlying26 rfl rfl) (PartV.one Try.underlying26 rfl rfl) (EqV.int Try.underlying26) (EqF.cons rfl (PartV.one Try.underlying4 rfl rfl) (PartV.one Try.underlying4 rfl rfl) (EqV.bool Try.underlying4) (EqF.cons rfl (PartV.one Try.underlying2 rfl rfl) (PartV.one Try.underlying2 rfl rfl) (EqV.int Try.underlying2) EqF.nil)))))) rfl ?_
              refine DL.q rfl (by first | exact Yld.pickT rfl rfl | exact Yld.pickF rfl rfl) rfl ?_
              exact DL.meet (.cons rfl (.cons rfl (.cons rfl (.cons rfl (.cons rfl (.cons rfl (.cons rfl (.cons rfl (.cons rfl (.cons rfl (.cons rfl (.cons rfl (.cons rfl (.cons rfl (.cons rfl (.cons rfl .nil)))))))))))))))) (.cons rfl (.cons rfl (.cons rfl (.cons rfl (.cons rfl (.cons rfl (.cons rfl .nil)))))))
            ·
              intro hg76
              refine DL.gskip rfl rfl rfl rfl rfl ?_
              refine DL.gskip rfl rfl rfl rfl rfl ?_
              refine DL.gskip rfl rfl rfl rfl rfl ?_
              refine DL.gskip rfl rfl rfl rfl rfl ?_
              refine DL.gskip rfl rfl rfl rfl rfl ?_
              refine DL.gskip rfl rfl rfl rfl rfl ?_
              refine DL.gskip rfl rfl rfl rfl rfl ?_
              refine DL.q rfl (by first | exact Yld.pickT rfl rfl | exact Yld.pickF rfl rfl) rfl ?_
              exact DL.meet (.cons rfl (.cons rfl (.cons rfl (.cons rfl (.cons rfl (.cons rfl (.cons rfl (.cons rfl (.cons rfl (.cons rfl (.cons rfl (.cons rfl (.cons rfl (.cons rfl (.cons rfl (.cons rfl .nil)))))))))))))))) (.cons rfl (.cons rfl (.cons rfl (.cons rfl (.cons rfl (.cons rfl (.cons rfl .nil)))))))
            refine DL.done ?_
            refine N.next ?_
            refine W.keep (.cons (k := 0) rfl (.cons (k := 5) rfl (.cons (k := 6) rfl (.cons (k := 8) rfl (.cons (k := 11) rfl (.cons (k := 26) rfl (.cons (k := 27) rfl (.cons (k := 28) rfl (.cons (k := 84) rfl .nil))))))))) (.cons (k := 0) rfl (.cons (k := 1) rfl (.cons (k := 2) rfl (.cons (k := 111) rfl (.cons (k := 112) rfl (.cons (k := 124) rfl (.cons (k := 125) rfl .nil))))))) ?_
            refine W.cond rfl (fun hc84 => ?_) (fun hc84 => ?_)
            ·
              have hnv : ¬ VerOK l ord := fun h => by rw [okR_b.2 (h.ok hz ho)] at hc84; cases hc84
              refine W.seq ?_
              refine W.region ?_
              refine RL.q (Yld.assign rfl) rfl ?_
              refine RL.nil ?_
              refine N.next ?_
              refine W.keep (.cons (k := 4) rfl .nil) (.cons (k := 0) rfl (.cons (k := 1) rfl (.cons (k := 2) rfl (.cons (k := 111) rfl (.cons (k := 112) rfl (.cons (k := 124) rfl (.cons (k := 125) rfl .nil))))))) ?_
              refine W.ret ?_
              refine N.then_ret ?_
              refine N.block_ret ?_
              refine N.then_ret ?_
              refine N.then_ret ?_
              refine N.block_ret ?_
              refine N.then_ret ?_
              exact N.retBy [1, 2] (.cons (.tmp rfl) .nil) rfl rfl rfl rfl ⟨by rw [verB_not hnv]; rfl, rfl⟩
            ·
              have hok : okR o (doL (repC l o.key (false, 0) (ord.take x.n)) o).2 := okR_b.1 hc84
              refine W.skip ?_
              refine N.next ?_
              refine W.draw (.q 0 (.q 1 (.q 2 (.q 3 (.q 4 (.q 5 (.q 6 (.q 7 (.one 8 .done))))))))) (.cons (k := 0) rfl (.cons (k := 1) rfl (.cons (k := 2) rfl (.cons (k := 111) rfl (.cons (k := 112) rfl (.cons (k := 124) rfl .nil)))))) mix (by kernel_rfl) (by kernel_rfl) ?_
              refine DL.q rfl (Yld.move rfl) rfl ?_
              refine DL.q rfl (Yld.move rfl) rfl ?_
              refine DL.q rfl (Yld.move rfl) rfl ?_
              refine DL.q rfl (Yld.indexRow Try.underlying22 sz42 rfl rfl (by first | assumption | exact Own.sl (by assumption)) (by first | rfl | omega | (simp; done) | (simp; omega)) (by omega) (by first | omega | (simp; done) | (simp; omega))) rfl ?_
              refine DL.q rfl (Yld.fieldAddr fo42_3 rfl) rfl ?_
              refine DL.q rfl (Yld.fieldAddr fo38_1 rfl) rfl ?_
              refine DL.q rfl (by first | exact Yld.loadRowF (cl := 111) (j := 4) Try.underlying9 rfl rfl rfl (by first | assumption | exact Own.sl (by assumption)) (by assumption) rfl | exact Yld.loadRowF (cl := 112) (j := 4) Try.underlying9 rfl rfl rfl (by first | assumption | exact Own.sl (by assumption)) (by assumption) rfl | exact Yld.loadRowF (cl := 1) (j := 4) Try.underlying9 rfl rfl rfl (by first | assumption | exact Own.sl (by assumption)) (by assumption) rfl | exact Yld.loadRowF (cl := 2) (j := 4) Try.underlying9 rfl rfl rfl (by first | assumption | exact Own.sl (by assumption)) (by assumption) rfl | exact Yld.loadRowF (cl := 124) (j := 4) Try.underlying9 rfl rfl rfl (by first | assumption | exact Own.sl (by assumption)) (by assumption) rfl | exact Yld.loadRowF (cl := 125) (j := 4) Try.underlying9 rfl rfl rfl (by first | assumption | exact Own.sl (by assumption)) (by assumption) rfl) rfl ?_
              refine DL.q rfl (Yld.loadW (c := 111) Try.underlying68 rfl sz68 rfl rfl (by first | exact single_self _ _ | exact pset_self _ _ _ | assumption) rfl) rfl ?_
              refine DL.one0 rfl (Eff.mapUpdate (c := 125) Try.underlying78 (keyString Try.underlying9) rfl rfl rfl rfl (by assumption)) (by rintro _ _ ⟨es7, ck7, hM7, rfl⟩; repeat (first | exact .nil | refine .cons rfl ?_)) ?_
              rintro _ _ ⟨es7, ck7, hM7, rfl⟩
              refine DL.done ?_
              refine N.block_normal ?_
              refine N.next ?_
              refine W.keep (.cons (k := 0) rfl (.cons (k := 5) rfl (.cons (k := 6) rfl (.cons (k := 26) rfl (.cons (k := 27) rfl (.cons (k := 28) rfl .nil)))))) (.cons (k := 0) rfl (.cons (k := 1) rfl (.cons (k := 2) rfl (.cons (k := 111) rfl (.cons (k := 112) rfl (.cons (k := 124) rfl (.cons (k := 125) rfl .nil))))))) ?_
              refine W.region ?_
              refine RL.q (Yld.bin rfl rfl (by first | exact BinV.add (by omega) (by omega) | exact BinV.addW)) rfl ?_
              refine RL.q (Yld.move rfl) rfl ?_
              refine RL.nil ?_
              exact N.famK ⟨x.n + 1, _, _, mset x.m z (.int .i64 (x.n : Int)), _, _, mset x.m2 o.key (.agg [.bool (doL (repC l o.key (false, 0) (ord.take x.n)) o).1.1, .int .i64 (doL (repC l o.key (false, 0) (ord.take x.n)) o).1.2].toArray)⟩ ⟨⟨by show x.n + 1 ≤ _; omega, by assumption, by assumption, hW.step hz hr hnt ho hok, hA.step hz hnt, hC.step hz ho⟩, by show _ - (x.n + 1) < _; omega⟩ (.as rfl (by first | rfl | (simp; done) | (congr 1; simp; done) | (congr 1; omega)) .nil) (.cons rfl (.cons rfl (.cons rfl (.cons rfl (.cons rfl .nil))))) (.cons rfl (.cons rfl .nil)) (.cons rfl (.cons rfl (.cons rfl .nil)))
    ·
      have hend : x.n = ord.length := by omega
      rw [hend] at hW hA
      refine W.exit ?_
      refine N.then_exit ?_
      refine N.then_exit ?_
      refine N.block_eq ?_
      refine N.next ?_
      refine W.keep (.cons (k := 0) rfl (.cons (k := 5) rfl .nil)) (.cons (k := 0) rfl (.cons (k := 1) rfl (.cons (k := 2) rfl (.cons (k := 124) rfl (.cons (k := 125) rfl .nil))))) ?_
      refine W.seq ?_
      refine W.seq ?_
      refine W.region ?_
      refine RL.q (Yld.move rfl) rfl ?_
      refine RL.q (Yld.lenSl Try.underlying22 rfl) rfl ?_
      refine RL.q (Yld.move rfl) rfl ?_
      refine RL.nil ?_
      refine N.next ?_
      refine W.block ?_
      refine W.loopK (ι := Nat) (fun i => (i ≤ l.length ∧ W2 l ord i)) (fun i => [(96, .int .i64 (i : Nat))]) (fun i => []) (fun i => l.length - i) (.cons (k := 0) rfl (.cons (k := 5) rfl (.cons (k := 94) rfl (.cons (k := 95) rfl .nil)))) (.cons (k := 0) rfl (.cons (k := 1) rfl (.cons (k := 2) rfl (.cons (k := 124) rfl (.cons (k := 125) rfl .nil))))) 0 ?_ ?_ ?_ ?_
      · exact ⟨Nat.zero_le _, W2.zero l ord⟩
      · exact (.as rfl (by first | rfl | (simp; done) | (congr 1; simp; done) | (congr 1; omega)) .nil)
      · exact .nil
      rintro i ⟨hi, hW2⟩
      refine W.keep (.cons (k := 96) rfl (.cons (k := 0) rfl (.cons (k := 5) rfl (.cons (k := 94) rfl (.cons (k := 95) rfl .nil))))) (.cons (k := 0) rfl (.cons (k := 1) rfl (.cons (k := 2) rfl (.cons (k := 124) rfl (.cons (k := 125) rfl .nil))))) ?_
      refine W.seq ?_
      refine W.region ?_
      refine RL.q (Yld.bin rfl rfl BinV.lss) rfl ?_
      refine RL.nil ?_
      refine N.next ?_
      refine W.seq ?_
      first | refine W.condD rfl (fun hc97 => ?_) (fun hc97 => ?_) | (refine W.cond rfl (fun hc97 => ?_) (fun hc97 => ?_) <;> try simp only [Bool.or_eq_true, Bool.and_eq_true, Bool.not_eq_true', Bool.not_eq_false', decide_eq_true_eq, Bool.or_eq_false_iff, Bool.and_eq_false_iff, decide_eq_false_iff_not, beq_iff_eq, beq_eq_false_iff_ne, ne_eq, Decidable.not_not] at hc97)
      ·
        obtain ⟨a, ha⟩ : ∃ a, l[i]? = some a := ⟨_, List.getElem?_eq_getElem (show i < l.length by simp only [List.length_map] at *; omega)⟩
        have hla : (l.map O.c)[i]? = some a.c := by simp [ha]
        refine W.skip ?_
        refine N.next ?_
        refine W.seq ?_
        refine W.block ?_
        refine W.seq ?_
        refine W.region ?_
        refine RL.q (Yld.move rfl) rfl ?_
        refine RL.q (Yld.indexRow Try.underlying22 sz42 rfl rfl (by first | assumption | exact Own.sl (by assumption)) (by first | rfl | omega | (simp; done) | (simp; omega)) (by omega) (by first | omega | (simp; done) | (simp; omega))) rfl ?_
        refine RL.q (by first | exact Yld.loadRow (cl := 1) Try.underlying42 rfl sz42 rfl rfl (by first | assumption | exact Own.sl (by assumption)) (by assumption) | exact Yld.loadRow (cl := 2) Try.underlying42 rfl sz42 rfl rfl (by first | assumption | exact Own.sl (by assumption)) (by assumption) | exact Yld.loadRow (cl := 124) Try.underlying42 rfl sz42 rfl rfl (by first | assumption | exact Own.sl (by assumption)) (by assumption) | exact Yld.loadRow (cl := 125) Try.underlying42 rfl sz42 rfl rfl (by first | assumption | exact Own.sl (by assumption)) (by assumption)) rfl ?_
        refine RL.e (Eff.alloc 114 zc42) rfl ?_
        rintro _ _ ⟨b14, rfl, rfl⟩
        refine RL.q (Yld.assign rfl) rfl ?_
        refine RL.e0 (Eff.storeS (c := 114) _ sz42 rfl rfl rfl rfl rfl rfl rfl (by (try simp only [putAt, List.take, List.drop, List.nil_append, List.cons_append, List.append_nil, List.length_cons, List.length_nil, Nat.add_zero, Nat.zero_add, Nat.reduceAdd]); rfl)) ?_
        rintro _ _ rfl
        refine RL.nil ?_
        refine N.next ?_
        refine W.keep (.cons (k := 0) rfl (.cons (k := 5) rfl (.cons (k := 13) rfl (.cons (k := 14) rfl (.cons (k := 94) rfl (.cons (k := 95) rfl (.cons (k := 96) rfl .nil))))))) (.cons (k := 0) rfl (.cons (k := 1) rfl (.cons (k := 2) rfl (.cons (k := 114) rfl (.cons (k := 124) rfl (.cons (k := 125) rfl .nil)))))) ?_
        refine W.seq ?_
        refine W.region ?_
        refine RL.q (Yld.move rfl) rfl ?_
        refine RL.q (Yld.move rfl) rfl ?_
        refine RL.q (Yld.eq (v' := .tuple [.int .i64 (posA x.m (i : Int)), .bool (mget x.m (i : Int)).isSome].toArray) (Yld.lookupOk (c := 124) Try.underlying77 (keyInt Try.underlying3) zv3 rfl rfl rfl (by assumption)) (by rw [hA.val])) rfl ?_
        refine RL.q (Yld.move rfl) rfl ?_
        refine RL.q (Yld.extract rfl rfl) rfl ?_
        refine RL.q (Yld.extract rfl rfl) rfl ?_
        refine RL.q (Yld.assign rfl) rfl ?_
        refine RL.q (Yld.assign rfl) rfl ?_
        refine RL.nil ?_
        refine N.next ?_
        refine W.keep (.cons (k := 0) rfl (.cons (k := 5) rfl (.cons (k := 14) rfl (.cons (k := 15) rfl (.cons (k := 16) rfl (.cons (k := 94) rfl (.cons (k := 95) rfl (.cons (k := 96) rfl .nil)))))))) (.cons (k := 0) rfl (.cons (k := 1) rfl (.cons (k := 2) rfl (.cons (k := 114) rfl (.cons (k := 124) rfl (.cons (k := 125) rfl .nil)))))) ?_
        refine W.seq ?_
        refine W.seq ?_
        refine W.region ?_
        refine RL.q (Yld.move rfl) rfl ?_
        refine RL.q (by first | exact Yld.notD rfl | exact Yld.not rfl) rfl ?_
        refine RL.nil ?_
        refine N.next ?_
        refine W.cond rfl (fun hc108 => ?_) (fun hc108 => ?_)
        ·
          have hni : (i : Int) ∉ ord := fun h => by
            obtain ⟨n, hn⟩ := List.getElem?_of_mem h
            rw [hA.1 n _ (List.getElem?_eq_some_iff.1 hn).1 hn] at hc108; cases hc108
          refine W.seq ?_
          refine W.seq ?_
          refine W.region ?_
          refine RL.q (Yld.fieldAddr fo42_6 rfl) rfl ?_
          refine RL.q (Yld.load1 (c := 114) Try.underlying3 rfl rfl rfl (by first | exact single_self _ _ | exact pset_self _ _ _ | assumption) rfl) rfl ?_
          refine RL.q (Yld.bin rfl rfl BinV.geq) rfl ?_
          refine RL.nil ?_
          refine N.next ?_
          refine W.keep (.cons (k := 0) rfl (.cons (k := 5) rfl (.cons (k := 94) rfl (.cons (k := 95) rfl (.cons (k := 96) rfl (.cons (k := 111) rfl .nil)))))) (.cons (k := 0) rfl (.cons (k := 1) rfl (.cons (k := 2) rfl (.cons (k := 114) rfl (.cons (k := 124) rfl (.cons (k := 125) rfl .nil)))))) ?_
          first | refine W.condD rfl (fun hc111 => ?_) (fun hc111 => ?_) | (refine W.cond rfl (fun hc111 => ?_) (fun hc111 => ?_) <;> try simp only [Bool.or_eq_true, Bool.and_eq_true, Bool.not_eq_true', Bool.not_eq_false', decide_eq_true_eq, Bool.or_eq_false_iff, Bool.and_eq_false_iff, decide_eq_false_iff_not, beq_iff_eq, beq_eq_false_iff_ne, ne_eq, Decidable.not_not] at hc111)
          ·
            have hnv : ¬ VerOK l ord := fun h => hni (h.all i a ha hc111)
            refine W.seq ?_
            refine W.region ?_
            refine RL.q (Yld.assign rfl) rfl ?_
            refine RL.nil ?_
            refine N.next ?_
            refine W.keep (.cons (k := 4) rfl .nil) (.cons (k := 0) rfl (.cons (k := 1) rfl (.cons (k := 2) rfl (.cons (k := 114) rfl (.cons (k := 124) rfl (.cons (k := 125) rfl .nil)))))) ?_
            refine W.ret ?_
            refine N.then_ret ?_
            refine N.then_ret ?_
            refine N.block_ret ?_
            refine N.then_ret ?_
            refine N.then_ret ?_
            refine N.block_ret ?_
            refine N.then_ret ?_
            exact N.retBy [1, 2] (.cons (.tmp rfl) .nil) rfl rfl rfl rfl ⟨by rw [verB_not hnv]; rfl, rfl⟩
          ·
            have hw2n : W2 l ord (i + 1) := ⟨fun j b hj hb h0 => by
              by_cases e : j = i
              · subst e; rw [ha] at hb; cases hb; omega
              · exact hW2.all j b (by omega) hb h0, fun j k n m hj h1 h2 h3 => by
              by_cases e : j = i
              · subst e; exact absurd (List.mem_of_getElem? h1) hni
              · exact hW2.pr j k n m (by omega) h1 h2 h3⟩
            refine W.skip ?_
            refine N.next ?_
            refine W.exit ?_
            refine N.then_exit ?_
            refine N.block_eq ?_
            refine N.next ?_
            refine W.region ?_
            refine RL.q (Yld.bin rfl rfl (by first | exact BinV.add (by omega) (by omega) | exact BinV.addW)) rfl ?_
            refine RL.q (Yld.move rfl) rfl ?_
            refine RL.nil ?_
            exact N.famK (i + 1) ⟨⟨by omega, hw2n⟩, by omega⟩ (.as rfl (by first | rfl | (simp; done) | (congr 1; simp; done) | (congr 1; omega)) .nil) (.cons rfl (.cons rfl (.cons rfl (.cons rfl .nil)))) .nil (.cons rfl (.cons rfl (.cons rfl (.cons rfl (.cons rfl .nil)))))
        ·
          obtain ⟨ni, _, hni, _, hpi⟩ := hA.some (z := (i : Int)) (by simpa using hc108)
          refine W.skip ?_
          refine N.next ?_
          refine W.seq ?_
          refine W.region ?_
          refine RL.q (Yld.move rfl) rfl ?_
          refine RL.q (Yld.lenSl Try.underlying22 rfl) rfl ?_
          refine RL.q (Yld.move rfl) rfl ?_
          refine RL.nil ?_
          refine N.next ?_
          refine W.block ?_
          refine W.loopK (ι := Nat) (fun k => (k ≤ l.length ∧ ∀ k2 m : Nat, k2 < k → ord[m]? = some (k2 : Int) → m < ni → NoPr l (k2 : Int) (i : Int))) (fun k => [(114, .int .i64 (k : Nat))]) (fun k => []) (fun k => l.length - k) (.cons (k := 0) rfl (.cons (k := 5) rfl (.cons (k := 14) rfl (.cons (k := 15) rfl (.cons (k := 94) rfl (.cons (k := 95) rfl (.cons (k := 96) rfl (.cons (k := 112) rfl (.cons (k := 113) rfl .nil))))))))) (.cons (k := 0) rfl (.cons (k := 1) rfl (.cons (k := 2) rfl (.cons (k := 114) rfl (.cons (k := 124) rfl (.cons (k := 125) rfl .nil)))))) 0 ?_ ?_ ?_ ?_
          · exact ⟨Nat.zero_le _, fun _ _ h => absurd h (Nat.not_lt_zero _)⟩
          · exact (.as rfl (by first | rfl | (simp; done) | (congr 1; simp; done) | (congr 1; omega)) .nil)
          · exact .nil
          rintro k ⟨hk, hI⟩
          refine W.keep (.cons (k := 114) rfl (.cons (k := 0) rfl (.cons (k := 5) rfl (.cons (k := 14) rfl (.cons (k := 15) rfl (.cons (k := 94) rfl (.cons (k := 95) rfl (.cons (k := 96) rfl (.cons (k := 112) rfl (.cons (k := 113) rfl .nil)))))))))) (.cons (k := 0) rfl (.cons (k := 1) rfl (.cons (k := 2) rfl (.cons (k := 114) rfl (.cons (k := 124) rfl (.cons (k := 125) rfl .nil)))))) ?_
          refine W.seq ?_
          refine W.region ?_
          refine RL.q (Yld.bin rfl rfl BinV.lss) rfl ?_
          refine RL.nil ?_
          refine N.next ?_
          refine W.seq ?_
          first | refine W.condD rfl (fun hc115 => ?_) (fun hc115 => ?_) | (refine W.cond rfl (fun hc115 => ?_) (fun hc115 => ?_) <;> try simp only [Bool.or_eq_true, Bool.and_eq_true, Bool.not_eq_true', Bool.not_eq_false', decide_eq_true_eq, Bool.or_eq_false_iff, Bool.and_eq_false_iff, decide_eq_false_iff_not, beq_iff_eq, beq_eq_false_iff_ne, ne_eq, Decidable.not_not] at hc115)
          ·
            obtain ⟨b, hb⟩ : ∃ b, l[k]? = some b := ⟨_, List.getElem?_eq_getElem (show k < l.length by simp only [List.length_map] at *; omega)⟩
            have hlb : (l.map O.c)[k]? = some b.c := by simp [hb]
            refine W.skip ?_
            refine N.next ?_
            refine W.seq ?_
            refine W.block ?_
            refine W.seq ?_
            refine W.region ?_
            refine RL.q (Yld.move rfl) rfl ?_
            refine RL.q (Yld.indexRow Try.underlying22 sz42 rfl rfl (by first | assumption | exact Own.sl (by assumption)) (by first | rfl | omega | (simp; done) | (simp; omega)) (by omega) (by first | omega | (simp; done) | (simp; omega))) rfl ?_
            refine RL.q (by first | exact Yld.loadRow (cl := 1) Try.underlying42 rfl sz42 rfl rfl (by first | assumption | exact Own.sl (by assumption)) (by assumption) | exact Yld.loadRow (cl := 2) Try.underlying42 rfl sz42 rfl rfl (by first | assumption | exact Own.sl (by assumption)) (by assumption) | exact Yld.loadRow (cl := 114) Try.underlying42 rfl sz42 rfl rfl (by first | assumption | exact Own.sl (by assumption)) (by assumption) | exact Yld.loadRow (cl := 124) Try.underlying42 rfl sz42 rfl rfl (by first | assumption | exact Own.sl (by assumption)) (by assumption) | exact Yld.loadRow (cl := 125) Try.underlying42 rfl sz42 rfl rfl (by first | assumption | exact Own.sl (by assumption)) (by assumption)) rfl ?_
            refine RL.e (Eff.alloc 118 zc42) rfl ?_
            rintro _ _ ⟨b18, rfl, rfl⟩
            refine RL.q (Yld.assign rfl) rfl ?_
            refine RL.e0 (Eff.storeS (c := 118) _ sz42 rfl rfl rfl rfl rfl rfl rfl (by (try simp only [putAt, List.take, List.drop, List.nil_append, List.cons_append, List.append_nil, List.length_cons, List.length_nil, Nat.add_zero, Nat.zero_add, Nat.reduceAdd]); rfl)) ?_
            rintro _ _ rfl
            refine RL.nil ?_
            refine N.next ?_
            refine W.keep (.cons (k := 0) rfl (.cons (k := 5) rfl (.cons (k := 14) rfl (.cons (k := 15) rfl (.cons (k := 17) rfl (.cons (k := 18) rfl (.cons (k := 94) rfl (.cons (k := 95) rfl (.cons (k := 96) rfl (.cons (k := 112) rfl (.cons (k := 113) rfl (.cons (k := 114) rfl .nil)))))))))))) (.cons (k := 0) rfl (.cons (k := 1) rfl (.cons (k := 2) rfl (.cons (k := 114) rfl (.cons (k := 118) rfl (.cons (k := 124) rfl (.cons (k := 125) rfl .nil))))))) ?_
            refine W.seq ?_
            refine W.region ?_
            refine RL.q (Yld.move rfl) rfl ?_
            refine RL.q (Yld.move rfl) rfl ?_
            refine RL.q (Yld.eq (v' := .tuple [.int .i64 (posA x.m (k : Int)), .bool (mget x.m (k : Int)).isSome].toArray) (Yld.lookupOk (c := 124) Try.underlying77 (keyInt Try.underlying3) zv3 rfl rfl rfl (by assumption)) (by rw [hA.val])) rfl ?_
            refine RL.q (Yld.move rfl) rfl ?_
            refine RL.q (Yld.extract rfl rfl) rfl ?_
            refine RL.q (Yld.extract rfl rfl) rfl ?_
            refine RL.q (Yld.assign rfl) rfl ?_
            refine RL.q (Yld.assign rfl) rfl ?_
            refine RL.nil ?_
            refine N.next ?_
            refine W.keep (.cons (k := 0) rfl (.cons (k := 5) rfl (.cons (k := 14) rfl (.cons (k := 15) rfl (.cons (k := 18) rfl (.cons (k := 19) rfl (.cons (k := 20) rfl (.cons (k := 94) rfl (.cons (k := 95) rfl (.cons (k := 96) rfl (.cons (k := 112) rfl (.cons (k := 113) rfl (.cons (k := 114) rfl .nil))))))))))))) (.cons (k := 0) rfl (.cons (k := 1) rfl (.cons (k := 2) rfl (.cons (k := 114) rfl (.cons (k := 118) rfl (.cons (k := 124) rfl (.cons (k := 125) rfl .nil))))))) ?_
            refine W.seq ?_
            refine W.region ?_
            refine RL.q (Yld.move rfl) rfl ?_
            refine RL.q (Yld.move rfl) rfl ?_
            refine' RL.and (t := 126) (d := 130) 4 rfl (.cons (k := 0) rfl (.cons (k := 5) rfl (.cons (k := 14) rfl (.cons (k := 15) rfl (.cons (k := 18) rfl (.cons (k := 19) rfl (.cons (k := 20) rfl (.cons (k := 94) rfl (.cons (k := 95) rfl (.cons (k := 96) rfl (.cons (k := 112) rfl (.cons (k := 113) rfl (.cons (k := 114) rfl (.cons (k := 125) rfl .nil)))))))))))))) (.cons (k := 0) rfl (.cons (k := 1) rfl (.cons (k := 2) rfl (.cons (k := 114) rfl (.cons (k := 118) rfl (.cons (k := 124) rfl (.cons (k := 125) rfl .nil))))))) ?_ ?_ ?_
            rotate_left 1
            ·
              intro hg126
              refine RL.gq rfl rfl (Yld.move rfl) rfl ?_
              refine RL.gq rfl rfl (Yld.move rfl) rfl ?_
              refine RL.gq rfl rfl (Yld.bin rfl rfl BinV.lss) rfl ?_
              refine RL.q (by first | exact Yld.pickT rfl rfl | exact Yld.pickF rfl rfl) rfl ?_
              exact RL.nil (N.meet (.cons rfl (.cons rfl (.cons rfl (.cons rfl (.cons rfl (.cons rfl (.cons rfl (.cons rfl (.cons rfl (.cons rfl (.cons rfl (.cons rfl (.cons rfl (.cons rfl (.cons rfl .nil))))))))))))))) (.cons rfl (.cons rfl (.cons rfl (.cons rfl (.cons rfl (.cons rfl (.cons rfl .nil))))))))
            ·
              intro hg126
              refine RL.gskip rfl rfl rfl rfl ?_
              refine RL.gskip rfl rfl rfl rfl ?_
              refine RL.gskip rfl rfl rfl rfl ?_
              refine RL.q (by first | exact Yld.pickT rfl rfl | exact Yld.pickF rfl rfl) rfl ?_
              exact RL.nil (N.meet (.cons rfl (.cons rfl (.cons rfl (.cons rfl (.cons rfl (.cons rfl (.cons rfl (.cons rfl (.cons rfl (.cons rfl (.cons rfl (.cons rfl (.cons rfl (.cons rfl (.cons rfl .nil))))))))))))))) (.cons rfl (.cons rfl (.cons rfl (.cons rfl (.cons rfl (.cons rfl (.cons rfl .nil))))))))
            refine RL.q (Yld.move rfl) rfl ?_
            refine' RL.and (t := 131) (d := 135) 4 rfl (.cons (k := 0) rfl (.cons (k := 5) rfl (.cons (k := 14) rfl (.cons (k := 15) rfl (.cons (k := 18) rfl (.cons (k := 19) rfl (.cons (k := 20) rfl (.cons (k := 94) rfl (.cons (k := 95) rfl (.cons (k := 96) rfl (.cons (k := 112) rfl (.cons (k := 113) rfl (.cons (k := 114) rfl (.cons (k := 125) rfl (.cons (k := 130) rfl .nil))))))))))))))) (.cons (k := 0) rfl (.cons (k := 1) rfl (.cons (k := 2) rfl (.cons (k := 114) rfl (.cons (k := 118) rfl (.cons (k := 124) rfl (.cons (k := 125) rfl .nil))))))) ?_ ?_ ?_
            rotate_left 1
            ·
              intro hg131
              refine RL.gq rfl rfl (Yld.loadW (c := 114) Try.underlying42 rfl sz42 rfl rfl (by first | exact single_self _ _ | exact pset_self _ _ _ | assumption) rfl) rfl ?_
              refine RL.gq rfl rfl (Yld.loadW (c := 118) Try.underlying42 rfl sz42 rfl rfl (by first | exact single_self _ _ | exact pset_self _ _ _ | assumption) rfl) rfl ?_
              refine RL.ge rfl rfl (Eff.call ent34 [] [] (.cons rfl (.cons rfl .nil)) (precedes_ct a b) rfl rfl rfl rfl (by rintro _ _ ⟨_, rfl⟩; rfl)) rfl ?_
              rintro _ _ ⟨_, ⟨rfl, rfl⟩, rfl⟩
              refine RL.q (by first | exact Yld.pickT rfl rfl | exact Yld.pickF rfl rfl) rfl ?_
              exact RL.nil (N.meet (.cons rfl (.cons rfl (.cons rfl (.cons rfl (.cons rfl (.cons rfl (.cons rfl (.cons rfl (.cons rfl (.cons rfl (.cons rfl (.cons rfl (.cons rfl (.cons rfl (.cons rfl (.cons rfl .nil)))))))))))))))) (.cons rfl (.cons rfl (.cons rfl (.cons rfl (.cons rfl (.cons rfl (.cons rfl .nil))))))))
            ·
              intro hg131
              refine RL.gskip rfl rfl rfl rfl ?_
              refine RL.gskip rfl rfl rfl rfl ?_
              refine RL.gskip rfl rfl rfl rfl ?_
              refine RL.q (by first | exact Yld.pickT rfl rfl | exact Yld.pickF rfl rfl) rfl ?_
              exact RL.nil (N.meet (.cons rfl (.cons rfl (.cons rfl (.cons rfl (.cons rfl (.cons rfl (.cons rfl (.cons rfl (.cons rfl (.cons rfl (.cons rfl (.cons rfl (.cons rfl (.cons rfl (.cons rfl (.cons rfl .nil)))))))))))))))) (.cons rfl (.cons rfl (.cons rfl (.cons rfl (.cons rfl (.cons rfl (.cons rfl .nil))))))))
            refine RL.nil ?_
            refine N.next ?_
            refine W.keep (.cons (k := 0) rfl (.cons (k := 5) rfl (.cons (k := 14) rfl (.cons (k := 15) rfl (.cons (k := 94) rfl (.cons (k := 95) rfl (.cons (k := 96) rfl (.cons (k := 112) rfl (.cons (k := 113) rfl (.cons (k := 114) rfl (.cons (k := 135) rfl .nil))))))))))) (.cons (k := 0) rfl (.cons (k := 1) rfl (.cons (k := 2) rfl (.cons (k := 114) rfl (.cons (k := 118) rfl (.cons (k := 124) rfl (.cons (k := 125) rfl .nil))))))) ?_
            refine W.cond rfl (fun hc135 => ?_) (fun hc135 => ?_)
            ·
              have hnv : ¬ VerOK l ord := fun h => by
                simp only [Bool.and_eq_true, decide_eq_true_eq] at hc135
                obtain ⟨⟨h1, h2⟩, h3⟩ := hc135
                obtain ⟨m, _, hm, _, hpm⟩ := hA.some (z := (k : Int)) h1
                exact h.no hni hm (by omega) b a (by rw [Int.toNat_natCast]; exact hb) (by rw [Int.toNat_natCast]; exact ha) h3
              refine W.seq ?_
              refine W.region ?_
              refine RL.q (Yld.assign rfl) rfl ?_
              refine RL.nil ?_
              refine N.next ?_
              refine W.keep (.cons (k := 4) rfl .nil) (.cons (k := 0) rfl (.cons (k := 1) rfl (.cons (k := 2) rfl (.cons (k := 114) rfl (.cons (k := 118) rfl (.cons (k := 124) rfl (.cons (k := 125) rfl .nil))))))) ?_
              refine W.ret ?_
              refine N.block_ret ?_
              refine N.then_ret ?_
              refine N.then_ret ?_
              refine N.block_ret ?_
              refine N.block_ret ?_
              refine N.then_ret ?_
              refine N.then_ret ?_
              refine N.block_ret ?_
              refine N.then_ret ?_
              exact N.retBy [1, 2] (.cons (.tmp rfl) .nil) rfl rfl rfl rfl ⟨by rw [verB_not hnv]; rfl, rfl⟩
            ·
              have hstep : ∀ k2 m : Nat, k2 < k + 1 → ord[m]? = some (k2 : Int) → m < ni → NoPr l (k2 : Int) (i : Int) := fun k2 m hk2 hm hlt => by
                by_cases e : k2 = k
                · subst e
                  intro b2 a2 hb2 ha2 hp
                  rw [Int.toNat_natCast] at hb2 ha2
                  rw [hb] at hb2; rw [ha] at ha2; cases hb2; cases ha2
                  have hg := hA.1 m _ (List.getElem?_eq_some_iff.1 hm).1 hm
                  obtain ⟨m3, _, hm3, hg3, hpm⟩ := hA.some (z := (k2 : Int)) (by rw [hg]; rfl)
                  have e3 : (m3 : Int) = m := by rw [hg] at hg3; cases hg3; rfl
                  have h4 : (mget x.m (k2 : Int)).isSome = true := by rw [hg]; rfl
                  rw [h4, hpm, hpi, decide_eq_true hp, decide_eq_true (show (m3 : Int) < ni by omega)] at hc135
                  cases hc135
                · exact hI k2 m (by omega) hm hlt
              refine W.skip ?_
              refine N.block_normal ?_
              refine N.next ?_
              refine W.region ?_
              refine RL.q (Yld.bin rfl rfl (by first | exact BinV.add (by omega) (by omega) | exact BinV.addW)) rfl ?_
              refine RL.q (Yld.move rfl) rfl ?_
              refine RL.nil ?_
              exact N.famK (k + 1) ⟨⟨by omega, hstep⟩, by omega⟩ (.as rfl (by first | rfl | (simp; done) | (congr 1; simp; done) | (congr 1; omega)) .nil) (.cons rfl (.cons rfl (.cons rfl (.cons rfl (.cons rfl (.cons rfl (.cons rfl (.cons rfl (.cons rfl .nil))))))))) .nil (.cons rfl (.cons rfl (.cons rfl (.cons rfl (.cons rfl (.cons rfl .nil))))))
          ·
            have hendk : k = l.length := by omega
            have hndo : ord.Nodup := by have := hW.nd; rwa [List.take_length] at this
            have hw2y : W2 l ord (i + 1) := ⟨fun j b hj hb h0 => by
              by_cases e : j = i
              · subst e; exact List.mem_of_getElem? hni
              · exact hW2.all j b (by omega) hb h0, fun j k2 n m hj h1 h2 h3 => by
              by_cases e : j = i
              · subst e
                have e2 : n = ni := by
                  obtain ⟨p1, q1⟩ := List.getElem?_eq_some_iff.1 h1
                  obtain ⟨p2, q2⟩ := List.getElem?_eq_some_iff.1 hni
                  exact (List.getElem_inj hndo).1 (q1.trans q2.symm)
                subst e2
                have hr2 := hW.rng (k2 : Int) (by rw [List.take_length]; exact List.mem_of_getElem? h2)
                exact hI k2 m (by omega) h2 h3
              · exact hW2.pr j k2 n m (by omega) h1 h2 h3⟩
            refine W.exit ?_
            refine N.then_exit ?_
            refine N.then_exit ?_
            refine N.block_eq ?_
            refine N.block_normal ?_
            refine N.next ?_
            refine W.keep (.cons (k := 0) rfl (.cons (k := 5) rfl (.cons (k := 94) rfl (.cons (k := 95) rfl (.cons (k := 96) rfl .nil))))) (.cons (k := 0) rfl (.cons (k := 1) rfl (.cons (k := 2) rfl (.cons (k := 114) rfl (.cons (k := 124) rfl (.cons (k := 125) rfl .nil)))))) ?_
            refine W.region ?_
            refine RL.q (Yld.bin rfl rfl (by first | exact BinV.add (by omega) (by omega) | exact BinV.addW)) rfl ?_
            refine RL.q (Yld.move rfl) rfl ?_
            refine RL.nil ?_
            exact N.famK (i + 1) ⟨⟨by omega, hw2y⟩, by omega⟩ (.as rfl (by first | rfl | (simp; done) | (congr 1; simp; done) | (congr 1; omega)) .nil) (.cons rfl (.cons rfl (.cons rfl (.cons rfl .nil)))) .nil (.cons rfl (.cons rfl (.cons rfl (.cons rfl (.cons rfl .nil)))))
      ·
        have hendi : i = l.length := by omega
        have hver := W2.ver hv hW (hendi ▸ hW2)
        refine W.exit ?_
        refine N.then_exit ?_
        refine N.then_exit ?_
        refine N.block_eq ?_
        refine N.next ?_
        refine W.keep .nil (.cons (k := 0) rfl (.cons (k := 1) rfl (.cons (k := 2) rfl (.cons (k := 124) rfl (.cons (k := 125) rfl .nil))))) ?_
        refine W.seq ?_
        refine W.region ?_
        refine RL.q (Yld.assign rfl) rfl ?_
        refine RL.nil ?_
        refine N.next ?_
        refine W.ret ?_
        exact N.retBy [1, 2] (.cons (.tmp rfl) .nil) rfl rfl rfl rfl ⟨by rw [verB_iff.2 hver]; rfl, rfl⟩

end Go.Proofs.Ytbgppnkccbhbpaa
