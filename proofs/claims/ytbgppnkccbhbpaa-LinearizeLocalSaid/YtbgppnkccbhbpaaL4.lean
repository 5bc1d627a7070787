/- The reference's search. Written by program (walk.py). -/
import Derived.Test.YtbgppnkccbhbpaaL3
import Derived.Test.YtbgppnkccbhbpaaSlMk
namespace Go.Proofs.Ytbgppnkccbhbpaa
open SL HistLaw Cfg
set_option linter.unusedVariables false
set_option linter.unusedSimpArgs false
theorem sz4 : sz Try.prog 4 1 := (by kernel_rfl : (Try.prog.info? 4).map (·.size) = some 1)
theorem ent33 : Ent Try.prog 33 := ⟨_, _, Try.func33, by kernel_rfl, rfl⟩
theorem zc4 : zc Try.prog 4 [.bool false] := (by kernel_rfl : ((Try.prog.info? 4).bind (·.zero)).map (fun v => v.cells.toList) = some [.bool false])
theorem el4 : el Try.prog 4 1 1 := .mk (by kernel_rfl)
theorem ent31 : Ent Try.prog 31 := ⟨_, _, Try.func31, by kernel_rfl, rfl⟩
structure HistLaw.RI where
  i : Nat
  H : PH
  p : Option Addr
  c : Nat

set_option maxRecDepth 100000 in
set_option maxHeartbeats 1600000 in
theorem rbyKey_ct (l : List O) (hl6 : l.length ≤ 1000000) (H1 : PH) (p : Option Addr) (c : Nat) (hS : Sl H1 p c 12 (l.map O.c)) (k : Ky) : Ct Try.prog 15 [.slice p (l.map O.c).length c, .string k] [H1] (fun v Hs => ∃ Ho po co, v = .slice po ((byKey k l).map O.c).length co ∧ Own Ho po co 42 12 ((byKey k l).map O.c) ∧ Hs = [H1, Ho]) := by
  refine Ct.body Try.func15 rfl Try.ntmps15 rfl ?_
  intro E F
  have hmax := hS.len_le
  simp only [maxLen] at hmax
  have hll : (l.map O.c).length = l.length := by simp
  refine W.seq ?_
  refine W.region ?_
  refine RL.q (Yld.assign rfl) rfl ?_
  refine RL.nil ?_
  refine N.next ?_
  refine W.seq ?_
  refine W.region ?_
  refine RL.e (Eff.buildSlice 107 Try.underlying22 sz42 zc42 rfl rfl .nil rfl) rfl ?_
  rintro _ _ ⟨b7, rfl, rfl⟩
  refine RL.q (Yld.assign rfl) rfl ?_
  refine RL.nil ?_
  refine N.next ?_
  refine W.seq ?_
  refine W.seq ?_
  refine W.region ?_
  refine RL.q (Yld.assign rfl) rfl ?_
  refine RL.nil ?_
  refine N.next ?_
  refine W.block ?_
  refine W.loopK (ι := RI) (fun x => (x.i ≤ l.length ∧ Own x.H x.p x.c 42 12 ((byKey k (l.take x.i)).map O.c))) (fun x => [(5, .slice x.p ((byKey k (l.take x.i)).map O.c).length x.c), (6, .int .i64 (x.i : Nat))]) (fun x => [(107, x.H)]) (fun x => l.length - x.i) (.cons (k := 0) rfl (.cons (k := 1) rfl .nil)) (.cons (k := 0) rfl (.cons (k := 1) rfl .nil)) ⟨0, single b7 (.cells [].toArray 42 (0, 0)), some ⟨b7, 0, none⟩, 0⟩ ?_ ?_ ?_ ?_
  · exact ⟨Nat.zero_le _, Own.none0 rfl⟩
  · exact (.as rfl (by first | rfl | (simp; done) | (congr 1; simp; done) | (congr 1; omega)) (.as rfl (by first | rfl | (simp; done) | (congr 1; simp; done) | (congr 1; omega)) .nil))
  · exact (.cons rfl .nil)
  rintro x ⟨hi, hO⟩
  refine W.keep (.cons (k := 5) rfl (.cons (k := 6) rfl (.cons (k := 0) rfl (.cons (k := 1) rfl .nil)))) (.cons (k := 107) rfl (.cons (k := 0) rfl (.cons (k := 1) rfl .nil))) ?_
  refine W.seq ?_
  refine W.seq ?_
  refine W.region ?_
  refine RL.q (Yld.move rfl) rfl ?_
  refine RL.q (Yld.move rfl) rfl ?_
  refine RL.q (Yld.lenSl Try.underlying22 rfl) rfl ?_
  refine RL.q (Yld.bin rfl rfl BinV.lss) rfl ?_
  refine RL.nil ?_
  refine N.next ?_
  first | refine W.condD rfl (fun hc11 => ?_) (fun hc11 => ?_) | (refine W.cond rfl (fun hc11 => ?_) (fun hc11 => ?_) <;> try simp only [Bool.or_eq_true, Bool.and_eq_true, Bool.not_eq_true', Bool.not_eq_false', decide_eq_true_eq, Bool.or_eq_false_iff, Bool.and_eq_false_iff, decide_eq_false_iff_not, beq_iff_eq, beq_eq_false_iff_ne, ne_eq, Decidable.not_not] at hc11)
  ·
    obtain ⟨o, ho⟩ : ∃ o, l[x.i]? = some o := ⟨_, List.getElem?_eq_getElem (show x.i < l.length by simp only [List.length_map] at *; omega)⟩
    have hlo : (l.map O.c)[x.i]? = some o.c := by simp [ho]
    have hnx0 := byKey_take (k := k) ho
    have hlx : ((byKey k (l.take x.i)).map O.c).length ≤ l.length := by rw [List.length_map]; exact Nat.le_trans (List.length_filter_le _ _) (by rw [List.length_take]; omega)
    have hlx2 := hlx
    simp at hlx2
    refine W.skip ?_
    refine N.next ?_
    refine W.keep (.cons (k := 0) rfl (.cons (k := 1) rfl (.cons (k := 5) rfl (.cons (k := 6) rfl .nil)))) (.cons (k := 0) rfl (.cons (k := 1) rfl (.cons (k := 107) rfl .nil))) ?_
    refine W.seq ?_
    refine W.block ?_
    refine W.seq ?_
    refine W.region ?_
    refine RL.q (Yld.move rfl) rfl ?_
    refine RL.q (Yld.move rfl) rfl ?_
    refine RL.q (Yld.indexRow Try.underlying22 sz42 rfl rfl (by first | assumption | exact Own.sl (by assumption)) (by first | rfl | omega | (simp; done) | (simp; omega)) (by omega) (by first | omega | (simp; done) | (simp; omega))) rfl ?_
    refine RL.q (Yld.fieldAddr fo42_3 rfl) rfl ?_
    refine RL.q (Yld.fieldAddr fo38_1 rfl) rfl ?_
    refine RL.q (by first | exact Yld.loadRowF (cl := 1) (j := 4) Try.underlying9 rfl rfl rfl (by first | assumption | exact Own.sl (by assumption)) (by assumption) rfl | exact Yld.loadRowF (cl := 107) (j := 4) Try.underlying9 rfl rfl rfl (by first | assumption | exact Own.sl (by assumption)) (by assumption) rfl) rfl ?_
    refine RL.q (Yld.move rfl) rfl ?_
    refine RL.q (Yld.bin rfl rfl BinV.eqlS) rfl ?_
    refine RL.nil ?_
    refine N.next ?_
    refine W.keep (.cons (k := 0) rfl (.cons (k := 1) rfl (.cons (k := 5) rfl (.cons (k := 6) rfl (.cons (k := 21) rfl .nil))))) (.cons (k := 0) rfl (.cons (k := 1) rfl (.cons (k := 107) rfl .nil))) ?_
    first | refine W.condD rfl (fun hc21 => ?_) (fun hc21 => ?_) | (refine W.cond rfl (fun hc21 => ?_) (fun hc21 => ?_) <;> try simp only [Bool.or_eq_true, Bool.and_eq_true, Bool.not_eq_true', Bool.not_eq_false', decide_eq_true_eq, Bool.or_eq_false_iff, Bool.and_eq_false_iff, decide_eq_false_iff_not, beq_iff_eq, beq_eq_false_iff_ne, ne_eq, Decidable.not_not] at hc21)
    ·
      have hnx : (byKey k (l.take (x.i + 1))).map O.c = (byKey k (l.take x.i)).map O.c ++ [o.c] := by rw [hnx0, if_pos hc21, List.map_append]; rfl
      refine W.region ?_
      refine RL.q (Yld.move rfl) rfl ?_
      refine RL.q (Yld.move rfl) rfl ?_
      refine RL.q (Yld.move rfl) rfl ?_
      refine RL.q (Yld.indexRow Try.underlying22 sz42 rfl rfl (by first | assumption | exact Own.sl (by assumption)) (by first | rfl | omega | (simp; done) | (simp; omega)) (by omega) (by first | omega | (simp; done) | (simp; omega))) rfl ?_
      refine RL.q (by first | exact Yld.loadRow (cl := 1) Try.underlying42 rfl sz42 rfl rfl (by first | assumption | exact Own.sl (by assumption)) (by assumption) | exact Yld.loadRow (cl := 107) Try.underlying42 rfl sz42 rfl rfl (by first | assumption | exact Own.sl (by assumption)) (by assumption)) rfl ?_
      refine RL.e (Eff.buildSlice 127 Try.underlying22 sz42 zc42 rfl rfl (.cons rfl rfl .nil) rfl) rfl ?_
      rintro _ _ ⟨b27, rfl, rfl⟩
      refine RL.e (Eff.append (tc := 107) (sc := 127) Try.underlying22 el42 rfl rfl rfl rfl hO rfl (Own.one (l := O.c o) rfl (O.c_one _).2 rfl).sl rfl (by intro l hl v hv; simp only [List.mem_singleton] at hl; subst hl; exact (O.c_one _).2 v hv) (by decide) (by simp; omega) (by simp [maxLen]; omega)) rfl ?_
      rintro _ _ ⟨Ha, pa, ca, rfl, hOa, rfl⟩
      refine RL.q (Yld.assign rfl) rfl ?_
      refine RL.nil ?_
      refine N.block_normal ?_
      refine N.next ?_
      refine W.keep (.cons (k := 0) rfl (.cons (k := 1) rfl (.cons (k := 5) rfl (.cons (k := 6) rfl .nil)))) (.cons (k := 0) rfl (.cons (k := 1) rfl (.cons (k := 107) rfl (.cons (k := 127) rfl .nil)))) ?_
      refine W.region ?_
      refine RL.q (Yld.move rfl) rfl ?_
      refine RL.q (Yld.bin rfl rfl (by first | exact BinV.add (by omega) (by omega) | exact BinV.addW)) rfl ?_
      refine RL.q (Yld.assign rfl) rfl ?_
      refine RL.nil ?_
      exact N.famK ⟨x.i + 1, Ha, pa, ca⟩ ⟨⟨by dsimp only; omega, by dsimp only; rw [hnx]; exact hOa⟩, by dsimp only; omega⟩ (.as rfl (by show Value.slice _ _ _ = Value.slice _ _ _; rw [hnx]) (.as rfl (by first | rfl | (simp; done) | (congr 1; simp; done) | (congr 1; omega)) .nil)) (.cons rfl (.cons rfl .nil)) (.cons rfl .nil) (.cons rfl (.cons rfl .nil))
    ·
      have hnx : (byKey k (l.take (x.i + 1))).map O.c = (byKey k (l.take x.i)).map O.c := by rw [hnx0, if_neg hc21]
      refine W.skip ?_
      refine N.block_normal ?_
      refine N.next ?_
      refine W.region ?_
      refine RL.q (Yld.move rfl) rfl ?_
      refine RL.q (Yld.bin rfl rfl (by first | exact BinV.add (by omega) (by omega) | exact BinV.addW)) rfl ?_
      refine RL.q (Yld.assign rfl) rfl ?_
      refine RL.nil ?_
      exact N.famK ⟨x.i + 1, x.H, x.p, x.c⟩ ⟨⟨by dsimp only; omega, by dsimp only; rw [hnx]; exact hO⟩, by dsimp only; omega⟩ (.as rfl (by show Value.slice _ _ _ = Value.slice _ _ _; rw [hnx]) (.as rfl (by first | rfl | (simp; done) | (congr 1; simp; done) | (congr 1; omega)) .nil)) (.cons rfl (.cons rfl .nil)) (.cons rfl .nil) (.cons rfl (.cons rfl .nil))
  ·
    have hend : x.i = l.length := by omega
    refine W.exit ?_
    refine N.then_exit ?_
    refine N.then_exit ?_
    refine N.block_eq ?_
    refine N.next ?_
    refine W.keep (.cons (k := 5) rfl .nil) (.cons (k := 0) rfl (.cons (k := 1) rfl (.cons (k := 107) rfl .nil))) ?_
    refine W.seq ?_
    refine W.region ?_
    refine RL.q (Yld.move rfl) rfl ?_
    refine RL.q (Yld.assign rfl) rfl ?_
    refine RL.nil ?_
    refine N.next ?_
    refine W.ret ?_
    exact N.retBy [1, 107] (.cons (.tmp rfl) .nil) rfl rfl rfl rfl ⟨x.H, x.p, x.c, by rw [hend, List.take_length]; rfl, by rw [hend, List.take_length] at hO; exact hO, rfl⟩

def HistLaw.usl (n t : Nat) : List Bool := (List.range n).map fun i => t.testBit i
def HistLaw.bl (l : List Bool) : List (List Value) := l.map (fun b : Bool => [Value.bool b])
theorem HistLaw.bl_none {b e : Nat} {cs : List Value} (hcs : cs = []) : Own (single b (.cells cs.toArray e (0, 0))) (some ⟨b, 0, none⟩) 0 e 1 (bl []) := Own.none0 hcs
def HistLaw.us (n t : Nat) : List (List Value) := (usl n t).map (fun b : Bool => [Value.bool b])
@[simp] theorem HistLaw.usl_len (n t : Nat) : (usl n t).length = n := by simp [usl]
@[simp] theorem HistLaw.us_len (n t : Nat) : (us n t).length = n := by simp [us]
theorem HistLaw.us_get {n t i : Nat} (h : i < n) : (us n t)[i]? = some [.bool (t.testBit i)] := by simp [us, usl, h]
theorem HistLaw.us_set {n t i : Nat} : (us n t).set i [.bool true] = us n (addB t i) := by
  apply List.ext_getElem?
  intro k
  rw [List.getElem?_set]
  by_cases hk : k < n
  · rw [us_get hk, us_get hk, us_len, addB_bit]
    by_cases e : i = k
    · subst e; simp [hk]
    · simp [e]
  · rw [List.getElem?_eq_none (by simpa using hk), List.getElem?_eq_none (by simpa using hk)]
    split
    · rw [if_neg (by simp; omega)]
    · rfl
theorem HistLaw.us_zero (n : Nat) : us n 0 = List.replicate n [.bool false] := by
  apply List.ext_getElem?
  intro k
  by_cases hk : k < n
  · rw [us_get hk, List.getElem?_replicate, if_pos hk, Nat.zero_testBit]
  · rw [List.getElem?_eq_none (by simpa using hk), List.getElem?_eq_none (by simpa using hk)]
noncomputable def HistLaw.liveB (l : List O) (t : Nat) (c : Cell) : Bool := @decide (Live l t c) (Classical.propDecidable _)
theorem HistLaw.liveB_iff {l : List O} {t : Nat} {c : Cell} : liveB l t c = true ↔ Live l t c := by unfold liveB; exact @decide_eq_true_iff _ (Classical.propDecidable _)
theorem HistLaw.liveB_not {l : List O} {t : Nat} {c : Cell} (h : ¬ Live l t c) : liveB l t c = false := by unfold liveB; exact @decide_eq_false _ (Classical.propDecidable _) h
structure HistLaw.LI where
  i : Nat
  b : Bool
def HistLaw.LeftI (l : List O) (t i : Nat) (b : Bool) : Prop := b = true ↔ ∃ (k : Nat) (a : O), k < i ∧ l[k]? = some a ∧ t.testBit k = false ∧ 0 ≤ a.rsp
theorem HistLaw.LeftI.step {l : List O} {t i : Nat} {b : Bool} {a : O} (h : LeftI l t i b) (ha : l[i]? = some a) : LeftI l t (i + 1) (b || (!t.testBit i && decide (0 ≤ a.rsp))) := by
  unfold LeftI at *
  rw [Bool.or_eq_true, Bool.and_eq_true, Bool.not_eq_true', decide_eq_true_eq, h]
  constructor
  · rintro (⟨k, c, h1, h2, h3, h4⟩ | ⟨h1, h2⟩)
    · exact ⟨k, c, by omega, h2, h3, h4⟩
    · exact ⟨i, a, by omega, ha, h1, h2⟩
  · rintro ⟨k, c, h1, h2, h3, h4⟩
    by_cases e : k = i
    · subst e; rw [ha] at h2; cases h2; exact .inr ⟨h3, h4⟩
    · exact .inl ⟨k, c, by omega, h2, h3, h4⟩
theorem HistLaw.LeftI.done {l : List O} {t : Nat} {b : Bool} (h : LeftI l t l.length b) : b = false ↔ doneL l t := by
  constructor
  · intro hb i a ha h0
    cases hk : t.testBit i with
    | true => rfl
    | false =>
      have := h.2 ⟨i, a, (List.getElem?_eq_some_iff.1 ha).1, ha, hk, h0⟩
      rw [hb] at this; cases this
  · intro hd
    cases hb : b with
    | false => rfl
    | true =>
      obtain ⟨k, a, h1, h2, h3, h4⟩ := h.1 hb
      rw [hd k a h2 h4] at h3; cases h3
def HistLaw.FreI (l : List O) (t j k : Nat) (a : O) (b : Bool) : Prop := b = true ↔ t.testBit j = false ∧ ∀ (m : Nat) e, m < k → l[m]? = some e → Prec e a → t.testBit m = true
theorem HistLaw.FreI.step {l : List O} {t j k : Nat} {a e : O} {b : Bool} (h : FreI l t j k a b) (he : l[k]? = some e) : FreI l t j (k + 1) a (b && (t.testBit k || !decide (Prec e a))) := by
  unfold FreI at *
  rw [Bool.and_eq_true, Bool.or_eq_true, Bool.not_eq_true', decide_eq_false_iff_not, h]
  constructor
  · rintro ⟨⟨h1, h2⟩, h3⟩
    refine ⟨h1, fun m f hm hf hp => ?_⟩
    by_cases q : m = k
    · subst q; rw [he] at hf; cases hf
      exact h3.resolve_right (fun h => h hp)
    · exact h2 m f (by omega) hf hp
  · rintro ⟨h1, h2⟩
    refine ⟨⟨h1, fun m f hm hf hp => h2 m f (by omega) hf hp⟩, ?_⟩
    by_cases hp : Prec e a
    · exact .inl (h2 k e (by omega) he hp)
    · exact .inr hp
theorem HistLaw.FreI.free {l : List O} {t j : Nat} {a : O} {b : Bool} (h : FreI l t j l.length a b) (ha : l[j]? = some a) : b = true ↔ freeL l t j := by
  unfold FreI at h
  rw [h]
  constructor
  · rintro ⟨h1, h2⟩
    refine ⟨h1, fun k e a' he ha' hp => ?_⟩
    rw [ha] at ha'; cases ha'
    exact h2 k e (List.getElem?_eq_some_iff.1 he).1 he hp
  · rintro ⟨h1, h2⟩
    exact ⟨h1, fun m e _ he hp => h2 m e a he ha hp⟩

set_option maxRecDepth 100000 in
set_option maxHeartbeats 6400000 in
theorem rsearch_step (l : List O) (hn60 : l.length ≤ 60) (H1 : PH) (p : Option Addr) (c0 : Nat) (hS : Sl H1 p c0 12 (l.map O.c)) (t : Nat) (ht : t < 2 ^ 60) (c : Cell) (HU : PH) (q : Option Addr) (d : Nat) (hU : Sl HU q d 1 (us l.length t)) (ih : ∀ (t' : Nat) (c' : Cell) (HU' : PH) (q' : Option Addr) (d' : Nat), cnt l.length t' < cnt l.length t → t' < 2 ^ 60 → Sl HU' q' d' 1 (us l.length t') → Ct Try.prog 31 [.slice p (l.map O.c).length c0, .slice q' l.length d', .agg [.bool c'.1, .int .i64 c'.2].toArray] [H1, HU'] (fun v Hs => v = .bool (liveB l t' c') ∧ Hs = [H1, HU'])) : Ct Try.prog 31 [.slice p (l.map O.c).length c0, .slice q l.length d, .agg [.bool c.1, .int .i64 c.2].toArray] [H1, HU] (fun v Hs => v = .bool (liveB l t c) ∧ Hs = [H1, HU]) := by
  refine Ct.body Try.func31 rfl Try.ntmps31 rfl ?_
  intro E F
  have hmax := hS.len_le
  simp only [maxLen] at hmax
  have hll : (l.map O.c).length = l.length := by simp
  have hmu := hU.len_le
  simp only [us_len, maxLen] at hmu
  refine W.seq ?_
  refine W.region ?_
  refine RL.e (Eff.box 105 _ rfl rfl) rfl ?_
  rintro _ _ ⟨b5, rfl, rfl⟩
  refine RL.q (Yld.assign rfl) rfl ?_
  refine RL.nil ?_
  refine N.next ?_
  refine W.seq ?_
  refine W.region ?_
  refine RL.q (Yld.assign rfl) rfl ?_
  refine RL.nil ?_
  refine N.next ?_
  refine W.seq ?_
  refine W.seq ?_
  refine W.region ?_
  refine RL.q (Yld.assign rfl) rfl ?_
  refine RL.nil ?_
  refine N.next ?_
  refine W.block ?_
  refine W.loopK (ι := LI) (fun x => (x.i ≤ l.length ∧ LeftI l t x.i x.b)) (fun x => [(7, .bool x.b), (8, .int .i64 (x.i : Nat))]) (fun x => []) (fun x => l.length - x.i) (.cons (k := 0) rfl (.cons (k := 1) rfl (.cons (k := 5) rfl .nil))) (.cons (k := 0) rfl (.cons (k := 1) rfl (.cons (k := 2) rfl (.cons (k := 105) rfl .nil)))) ⟨0, false⟩ ?_ ?_ ?_ ?_
  · exact ⟨Nat.zero_le _, by simp [LeftI]⟩
  · exact (.as rfl (by first | rfl | (simp; done) | (congr 1; simp; done) | (congr 1; omega)) (.as rfl (by first | rfl | (simp; done) | (congr 1; simp; done) | (congr 1; omega)) .nil))
  · exact .nil
  rintro x ⟨hi, hL⟩
  refine W.keep (.cons (k := 7) rfl (.cons (k := 8) rfl (.cons (k := 0) rfl (.cons (k := 1) rfl (.cons (k := 5) rfl .nil))))) (.cons (k := 0) rfl (.cons (k := 1) rfl (.cons (k := 2) rfl (.cons (k := 105) rfl .nil)))) ?_
  refine W.seq ?_
  refine W.seq ?_
  refine W.region ?_
  refine RL.q (Yld.move rfl) rfl ?_
  refine RL.q (Yld.move rfl) rfl ?_
  refine RL.q (Yld.lenSl Try.underlying22 rfl) rfl ?_
  refine RL.q (Yld.bin rfl rfl BinV.lss) rfl ?_
  refine RL.nil ?_
  refine N.next ?_
  first | refine W.condD rfl (fun hc18 => ?_) (fun hc18 => ?_) | (refine W.cond rfl (fun hc18 => ?_) (fun hc18 => ?_) <;> try simp only [Bool.or_eq_true, Bool.and_eq_true, Bool.not_eq_true', Bool.not_eq_false', decide_eq_true_eq, Bool.or_eq_false_iff, Bool.and_eq_false_iff, decide_eq_false_iff_not, beq_iff_eq, beq_eq_false_iff_ne, ne_eq, Decidable.not_not] at hc18)
  ·
    obtain ⟨o, ho⟩ : ∃ o, l[x.i]? = some o := ⟨_, List.getElem?_eq_getElem (show x.i < l.length by simp only [List.length_map] at *; omega)⟩
    have hlo : (l.map O.c)[x.i]? = some o.c := by simp [ho]
    have hlu := us_get (t := t) (show x.i < l.length by omega)
    refine W.skip ?_
    refine N.next ?_
    refine W.keep (.cons (k := 0) rfl (.cons (k := 1) rfl (.cons (k := 5) rfl (.cons (k := 7) rfl (.cons (k := 8) rfl .nil))))) (.cons (k := 0) rfl (.cons (k := 1) rfl (.cons (k := 2) rfl (.cons (k := 105) rfl .nil)))) ?_
    refine W.seq ?_
    refine W.block ?_
    refine W.region ?_
    refine RL.q (Yld.move rfl) rfl ?_
    refine RL.q (Yld.move rfl) rfl ?_
    refine' RL.or (t := 22) (d := 36) 14 rfl (.cons (k := 0) rfl (.cons (k := 1) rfl (.cons (k := 5) rfl (.cons (k := 7) rfl (.cons (k := 8) rfl (.cons (k := 21) rfl .nil)))))) (.cons (k := 0) rfl (.cons (k := 1) rfl (.cons (k := 2) rfl (.cons (k := 105) rfl .nil)))) ?_ ?_ ?_
    rotate_left 1
    ·
      intro hg22
      refine RL.gq rfl rfl (Yld.move rfl) rfl ?_
      refine RL.gq rfl rfl (Yld.move rfl) rfl ?_
      refine RL.gq rfl rfl (Yld.indexRow Try.underlying57 sz4 rfl rfl (by first | assumption | exact Own.sl (by assumption)) (by first | rfl | omega | (simp; done) | (simp; omega)) (by omega) (by first | omega | (simp; done) | (simp; omega))) rfl ?_
      refine RL.gq rfl rfl (by first | exact (by first | exact Yld.loadRow1 (cl := 1) Try.underlying4 rfl rfl rfl (by first | assumption | exact Own.sl (by assumption)) (by assumption) | exact Yld.loadRow1 (cl := 2) Try.underlying4 rfl rfl rfl (by first | assumption | exact Own.sl (by assumption)) (by assumption) | exact Yld.loadRow1 (cl := 105) Try.underlying4 rfl rfl rfl (by first | assumption | exact Own.sl (by assumption)) (by assumption)) | exact (by first | exact Yld.loadRowF (cl := 1) (j := 0) Try.underlying4 rfl rfl rfl (by first | assumption | exact Own.sl (by assumption)) (by assumption) rfl | exact Yld.loadRowF (cl := 2) (j := 0) Try.underlying4 rfl rfl rfl (by first | assumption | exact Own.sl (by assumption)) (by assumption) rfl | exact Yld.loadRowF (cl := 105) (j := 0) Try.underlying4 rfl rfl rfl (by first | assumption | exact Own.sl (by assumption)) (by assumption) rfl)) rfl ?_
      refine RL.gq rfl rfl (by first | exact Yld.notD rfl | exact Yld.not rfl) rfl ?_
      refine RL.gq rfl rfl (Yld.move rfl) rfl ?_
      refine' RL.and (t := 28) (d := 35) 7 rfl (.cons (k := 0) rfl (.cons (k := 1) rfl (.cons (k := 5) rfl (.cons (k := 7) rfl (.cons (k := 8) rfl (.cons (k := 21) rfl (.cons (k := 22) rfl (.cons (k := 23) rfl (.cons (k := 24) rfl (.cons (k := 25) rfl (.cons (k := 26) rfl (.cons (k := 27) rfl .nil)))))))))))) (.cons (k := 0) rfl (.cons (k := 1) rfl (.cons (k := 2) rfl (.cons (k := 105) rfl .nil)))) ?_ ?_ ?_
      rotate_left 1
      ·
        intro hg28
        refine RL.gq rfl rfl (Yld.move rfl) rfl ?_
        refine RL.gq rfl rfl (Yld.move rfl) rfl ?_
        refine RL.gq rfl rfl (Yld.indexRow Try.underlying22 sz42 rfl rfl (by first | assumption | exact Own.sl (by assumption)) (by first | rfl | omega | (simp; done) | (simp; omega)) (by omega) (by first | omega | (simp; done) | (simp; omega))) rfl ?_
        refine RL.gq rfl rfl (Yld.fieldAddr fo42_6 rfl) rfl ?_
        refine RL.gq rfl rfl (by first | exact Yld.loadRowF (cl := 1) (j := 11) Try.underlying3 rfl rfl rfl (by first | assumption | exact Own.sl (by assumption)) (by assumption) rfl | exact Yld.loadRowF (cl := 2) (j := 11) Try.underlying3 rfl rfl rfl (by first | assumption | exact Own.sl (by assumption)) (by assumption) rfl | exact Yld.loadRowF (cl := 105) (j := 11) Try.underlying3 rfl rfl rfl (by first | assumption | exact Own.sl (by assumption)) (by assumption) rfl) rfl ?_
        refine RL.gq rfl rfl (Yld.bin rfl rfl BinV.geq) rfl ?_
        refine RL.gq rfl rfl (by first | exact Yld.pickT rfl rfl | exact Yld.pickF rfl rfl) rfl ?_
        exact RL.nil (N.meet (.cons rfl (.cons rfl (.cons rfl (.cons rfl (.cons rfl (.cons rfl (.cons rfl (.cons rfl (.cons rfl (.cons rfl (.cons rfl (.cons rfl (.cons rfl .nil))))))))))))) (.cons rfl (.cons rfl (.cons rfl (.cons rfl .nil)))))
      ·
        intro hg28
        refine RL.gskip rfl rfl rfl rfl ?_
        refine RL.gskip rfl rfl rfl rfl ?_
        refine RL.gskip rfl rfl rfl rfl ?_
        refine RL.gskip rfl rfl rfl rfl ?_
        refine RL.gskip rfl rfl rfl rfl ?_
        refine RL.gskip rfl rfl rfl rfl ?_
        refine RL.gq rfl rfl (by first | exact Yld.pickT rfl rfl | exact Yld.pickF rfl rfl) rfl ?_
        exact RL.nil (N.meet (.cons rfl (.cons rfl (.cons rfl (.cons rfl (.cons rfl (.cons rfl (.cons rfl (.cons rfl (.cons rfl (.cons rfl (.cons rfl (.cons rfl (.cons rfl .nil))))))))))))) (.cons rfl (.cons rfl (.cons rfl (.cons rfl .nil)))))
      refine RL.q (by first | exact Yld.pickT rfl rfl | exact Yld.pickF rfl rfl) rfl ?_
      exact RL.nil (N.meet (.cons rfl (.cons rfl (.cons rfl (.cons rfl (.cons rfl (.cons rfl (.cons rfl .nil))))))) (.cons rfl (.cons rfl (.cons rfl (.cons rfl .nil)))))
    ·
      intro hg22
      refine RL.gskip rfl rfl rfl rfl ?_
      refine RL.gskip rfl rfl rfl rfl ?_
      refine RL.gskip rfl rfl rfl rfl ?_
      refine RL.gskip rfl rfl rfl rfl ?_
      refine RL.gskip rfl rfl rfl rfl ?_
      refine RL.gskip rfl rfl rfl rfl ?_
      refine RL.gskipU rfl rfl rfl ?_
      refine RL.gskipU rfl rfl rfl ?_
      refine RL.gskipU rfl rfl rfl ?_
      refine RL.gskipU rfl rfl rfl ?_
      refine RL.gskipU rfl rfl rfl ?_
      refine RL.gskipU rfl rfl rfl ?_
      refine RL.gskip rfl rfl rfl rfl ?_
      refine RL.q (by first | exact Yld.pickT rfl rfl | exact Yld.pickF rfl rfl) rfl ?_
      exact RL.nil (N.meet (.cons rfl (.cons rfl (.cons rfl (.cons rfl (.cons rfl (.cons rfl (.cons rfl .nil))))))) (.cons rfl (.cons rfl (.cons rfl (.cons rfl .nil)))))
    refine RL.q (Yld.assign rfl) rfl ?_
    refine RL.nil ?_
    refine N.block_normal ?_
    refine N.next ?_
    refine W.region ?_
    refine RL.q (Yld.move rfl) rfl ?_
    refine RL.q (Yld.bin rfl rfl (by first | exact BinV.add (by omega) (by omega) | exact BinV.addW)) rfl ?_
    refine RL.q (Yld.assign rfl) rfl ?_
    refine RL.nil ?_
    exact N.famK ⟨x.i + 1, (x.b || (!t.testBit x.i && decide (0 ≤ o.rsp)))⟩ ⟨⟨by dsimp only; omega, hL.step ho⟩, by dsimp only; omega⟩ (.as rfl (by first | rfl | (simp; done) | (congr 1; simp; done) | (congr 1; omega)) (.as rfl (by first | rfl | (simp; done) | (congr 1; simp; done) | (congr 1; omega)) .nil)) (.cons rfl (.cons rfl (.cons rfl .nil))) .nil (.cons rfl (.cons rfl (.cons rfl (.cons rfl .nil))))
  ·
    have hend : x.i = l.length := by omega
    have hLd : x.b = false ↔ doneL l t := (hend ▸ hL).done
    refine W.exit ?_
    refine N.then_exit ?_
    refine N.then_exit ?_
    refine N.block_eq ?_
    refine N.next ?_
    refine W.keep (.cons (k := 0) rfl (.cons (k := 1) rfl (.cons (k := 5) rfl (.cons (k := 7) rfl .nil)))) (.cons (k := 0) rfl (.cons (k := 1) rfl (.cons (k := 2) rfl (.cons (k := 105) rfl .nil)))) ?_
    refine W.seq ?_
    refine W.seq ?_
    refine W.region ?_
    refine RL.q (Yld.move rfl) rfl ?_
    refine RL.q (by first | exact Yld.notD rfl | exact Yld.not rfl) rfl ?_
    refine RL.nil ?_
    refine N.next ?_
    refine W.cond rfl (fun hc38 => ?_) (fun hc38 => ?_)
    ·
      have hdn := hLd.1 (by simpa using hc38)
      refine W.seq ?_
      refine W.region ?_
      refine RL.q (Yld.assign rfl) rfl ?_
      refine RL.nil ?_
      refine N.next ?_
      refine W.keep (.cons (k := 6) rfl .nil) (.cons (k := 0) rfl (.cons (k := 1) rfl (.cons (k := 2) rfl (.cons (k := 105) rfl .nil)))) ?_
      refine W.ret ?_
      refine N.then_ret ?_
      exact N.retBy [1, 2] (.cons (.tmp rfl) .nil) rfl rfl rfl rfl ⟨by rw [liveB_iff.2 (Live.done hdn)]; rfl, rfl⟩
    ·
      have hdn : ¬ doneL l t := fun h => by rw [hLd.2 h] at hc38; cases hc38
      refine W.skip ?_
      refine N.next ?_
      refine W.seq ?_
      refine W.seq ?_
      refine W.region ?_
      refine RL.q (Yld.assign rfl) rfl ?_
      refine RL.nil ?_
      refine N.next ?_
      refine W.block ?_
      refine W.loopK (ι := Nat) (fun j => (j ≤ l.length ∧ (∀ (j0 : Nat) a, j0 < j → l[j0]? = some a → ¬ (freeL l t j0 ∧ okR a (doL c a).2 ∧ Live l (addB t j0) (doL c a).1)))) (fun j => [(9, .int .i64 (j : Nat))]) (fun j => []) (fun j => l.length - j) (.cons (k := 0) rfl (.cons (k := 1) rfl (.cons (k := 5) rfl .nil))) (.cons (k := 0) rfl (.cons (k := 1) rfl (.cons (k := 2) rfl (.cons (k := 105) rfl .nil)))) 0 ?_ ?_ ?_ ?_
      · exact ⟨Nat.zero_le _, fun _ _ h => absurd h (Nat.not_lt_zero _)⟩
      · exact (.as rfl (by first | rfl | (simp; done) | (congr 1; simp; done) | (congr 1; omega)) .nil)
      · exact .nil
      rintro j ⟨hj, hcy⟩
      refine W.keep (.cons (k := 9) rfl (.cons (k := 0) rfl (.cons (k := 1) rfl (.cons (k := 5) rfl .nil)))) (.cons (k := 0) rfl (.cons (k := 1) rfl (.cons (k := 2) rfl (.cons (k := 105) rfl .nil)))) ?_
      refine W.seq ?_
      refine W.seq ?_
      refine W.region ?_
      refine RL.q (Yld.move rfl) rfl ?_
      refine RL.q (Yld.move rfl) rfl ?_
      refine RL.q (Yld.lenSl Try.underlying22 rfl) rfl ?_
      refine RL.q (Yld.bin rfl rfl BinV.lss) rfl ?_
      refine RL.nil ?_
      refine N.next ?_
      first | refine W.condD rfl (fun hc42 => ?_) (fun hc42 => ?_) | (refine W.cond rfl (fun hc42 => ?_) (fun hc42 => ?_) <;> try simp only [Bool.or_eq_true, Bool.and_eq_true, Bool.not_eq_true', Bool.not_eq_false', decide_eq_true_eq, Bool.or_eq_false_iff, Bool.and_eq_false_iff, decide_eq_false_iff_not, beq_iff_eq, beq_eq_false_iff_ne, ne_eq, Decidable.not_not] at hc42)
      ·
        obtain ⟨o, ho⟩ : ∃ o, l[j]? = some o := ⟨_, List.getElem?_eq_getElem (show j < l.length by simp only [List.length_map] at *; omega)⟩
        have hlo : (l.map O.c)[j]? = some o.c := by simp [ho]
        have hlu := us_get (t := t) (show j < l.length by omega)
        refine W.skip ?_
        refine N.next ?_
        refine W.keep (.cons (k := 0) rfl (.cons (k := 1) rfl (.cons (k := 5) rfl (.cons (k := 9) rfl .nil)))) (.cons (k := 0) rfl (.cons (k := 1) rfl (.cons (k := 2) rfl (.cons (k := 105) rfl .nil)))) ?_
        refine W.seq ?_
        refine W.block ?_
        refine W.seq ?_
        refine W.region ?_
        refine RL.q (Yld.move rfl) rfl ?_
        refine RL.q (Yld.move rfl) rfl ?_
        refine RL.q (Yld.indexRow Try.underlying57 sz4 rfl rfl (by first | assumption | exact Own.sl (by assumption)) (by first | rfl | omega | (simp; done) | (simp; omega)) (by omega) (by first | omega | (simp; done) | (simp; omega))) rfl ?_
        refine RL.q (by first | exact (by first | exact Yld.loadRow1 (cl := 1) Try.underlying4 rfl rfl rfl (by first | assumption | exact Own.sl (by assumption)) (by assumption) | exact Yld.loadRow1 (cl := 2) Try.underlying4 rfl rfl rfl (by first | assumption | exact Own.sl (by assumption)) (by assumption) | exact Yld.loadRow1 (cl := 105) Try.underlying4 rfl rfl rfl (by first | assumption | exact Own.sl (by assumption)) (by assumption)) | exact (by first | exact Yld.loadRowF (cl := 1) (j := 0) Try.underlying4 rfl rfl rfl (by first | assumption | exact Own.sl (by assumption)) (by assumption) rfl | exact Yld.loadRowF (cl := 2) (j := 0) Try.underlying4 rfl rfl rfl (by first | assumption | exact Own.sl (by assumption)) (by assumption) rfl | exact Yld.loadRowF (cl := 105) (j := 0) Try.underlying4 rfl rfl rfl (by first | assumption | exact Own.sl (by assumption)) (by assumption) rfl)) rfl ?_
        refine RL.q (by first | exact Yld.notD rfl | exact Yld.not rfl) rfl ?_
        refine RL.q (Yld.assign rfl) rfl ?_
        refine RL.nil ?_
        refine N.next ?_
        refine W.keep (.cons (k := 0) rfl (.cons (k := 1) rfl (.cons (k := 5) rfl (.cons (k := 9) rfl (.cons (k := 10) rfl .nil))))) (.cons (k := 0) rfl (.cons (k := 1) rfl (.cons (k := 2) rfl (.cons (k := 105) rfl .nil)))) ?_
        refine W.seq ?_
        refine W.seq ?_
        refine W.region ?_
        refine RL.q (Yld.assign rfl) rfl ?_
        refine RL.nil ?_
        refine N.next ?_
        refine W.block ?_
        refine W.loopK (ι := LI) (fun y => (y.i ≤ l.length ∧ FreI l t j y.i o y.b)) (fun y => [(10, .bool y.b), (11, .int .i64 (y.i : Nat))]) (fun y => []) (fun y => l.length - y.i) (.cons (k := 0) rfl (.cons (k := 1) rfl (.cons (k := 5) rfl (.cons (k := 9) rfl .nil)))) (.cons (k := 0) rfl (.cons (k := 1) rfl (.cons (k := 2) rfl (.cons (k := 105) rfl .nil)))) ⟨0, !t.testBit j⟩ ?_ ?_ ?_ ?_
        · exact ⟨Nat.zero_le _, by simp [FreI]⟩
        · exact (.as rfl (by first | rfl | (simp; done) | (congr 1; simp; done) | (congr 1; omega)) (.as rfl (by first | rfl | (simp; done) | (congr 1; simp; done) | (congr 1; omega)) .nil))
        · exact .nil
        rintro y ⟨hk, hF⟩
        refine W.keep (.cons (k := 10) rfl (.cons (k := 11) rfl (.cons (k := 0) rfl (.cons (k := 1) rfl (.cons (k := 5) rfl (.cons (k := 9) rfl .nil)))))) (.cons (k := 0) rfl (.cons (k := 1) rfl (.cons (k := 2) rfl (.cons (k := 105) rfl .nil)))) ?_
        refine W.seq ?_
        refine W.seq ?_
        refine W.region ?_
        refine RL.q (Yld.move rfl) rfl ?_
        refine RL.q (Yld.move rfl) rfl ?_
        refine RL.q (Yld.lenSl Try.underlying22 rfl) rfl ?_
        refine RL.q (Yld.bin rfl rfl BinV.lss) rfl ?_
        refine RL.nil ?_
        refine N.next ?_
        first | refine W.condD rfl (fun hc53 => ?_) (fun hc53 => ?_) | (refine W.cond rfl (fun hc53 => ?_) (fun hc53 => ?_) <;> try simp only [Bool.or_eq_true, Bool.and_eq_true, Bool.not_eq_true', Bool.not_eq_false', decide_eq_true_eq, Bool.or_eq_false_iff, Bool.and_eq_false_iff, decide_eq_false_iff_not, beq_iff_eq, beq_eq_false_iff_ne, ne_eq, Decidable.not_not] at hc53)
        ·
          obtain ⟨e, he⟩ : ∃ e, l[y.i]? = some e := ⟨_, List.getElem?_eq_getElem (show y.i < l.length by simp only [List.length_map] at *; omega)⟩
          have hle : (l.map O.c)[y.i]? = some e.c := by simp [he]
          have hlue := us_get (t := t) (show y.i < l.length by omega)
          refine W.skip ?_
          refine N.next ?_
          refine W.keep (.cons (k := 0) rfl (.cons (k := 1) rfl (.cons (k := 5) rfl (.cons (k := 9) rfl (.cons (k := 10) rfl (.cons (k := 11) rfl .nil)))))) (.cons (k := 0) rfl (.cons (k := 1) rfl (.cons (k := 2) rfl (.cons (k := 105) rfl .nil)))) ?_
          refine W.seq ?_
          refine W.block ?_
          refine W.draw (.q 0 (.q 1 (.q 2 (.q 3 (.q 4 (.q 5 (.q 6 (.q 7 (.q 8 (.q 9 (.q 10 (.q 11 (.q 12 (.q 13 (.q 14 (.one 15 (.q 16 (.q 17 (.q 18 (.q 19 .done)))))))))))))))))))) (.cons (k := 0) rfl (.cons (k := 1) rfl (.cons (k := 2) rfl (.cons (k := 105) rfl .nil)))) mix (by kernel_rfl) (by kernel_rfl) ?_
          refine DL.q rfl (Yld.move rfl) rfl ?_
          refine DL.q rfl (Yld.move rfl) rfl ?_
          refine' DL.and (t := 57) (d := 74) 17 rfl (.cons (k := 0) rfl (.cons (k := 1) rfl (.cons (k := 5) rfl (.cons (k := 9) rfl (.cons (k := 10) rfl (.cons (k := 11) rfl (.cons (k := 56) rfl .nil))))))) (.cons (k := 0) rfl (.cons (k := 1) rfl (.cons (k := 2) rfl (.cons (k := 105) rfl .nil)))) ?_ ?_ ?_
          rotate_left 1
          ·
            intro hg57
            refine DL.gq rfl rfl rfl (Yld.move rfl) rfl ?_
            refine DL.gq rfl rfl rfl (Yld.move rfl) rfl ?_
            refine DL.gq rfl rfl rfl (Yld.indexRow Try.underlying57 sz4 rfl rfl (by first | assumption | exact Own.sl (by assumption)) (by first | rfl | omega | (simp; done) | (simp; omega)) (by omega) (by first | omega | (simp; done) | (simp; omega))) rfl ?_
            refine DL.gq rfl rfl rfl (by first | exact (by first | exact Yld.loadRow1 (cl := 1) Try.underlying4 rfl rfl rfl (by first | assumption | exact Own.sl (by assumption)) (by assumption) | exact Yld.loadRow1 (cl := 2) Try.underlying4 rfl rfl rfl (by first | assumption | exact Own.sl (by assumption)) (by assumption) | exact Yld.loadRow1 (cl := 105) Try.underlying4 rfl rfl rfl (by first | assumption | exact Own.sl (by assumption)) (by assumption)) | exact (by first | exact Yld.loadRowF (cl := 1) (j := 0) Try.underlying4 rfl rfl rfl (by first | assumption | exact Own.sl (by assumption)) (by assumption) rfl | exact Yld.loadRowF (cl := 2) (j := 0) Try.underlying4 rfl rfl rfl (by first | assumption | exact Own.sl (by assumption)) (by assumption) rfl | exact Yld.loadRowF (cl := 105) (j := 0) Try.underlying4 rfl rfl rfl (by first | assumption | exact Own.sl (by assumption)) (by assumption) rfl)) rfl ?_
            refine DL.gq rfl rfl rfl (Yld.move rfl) rfl ?_
            refine' DL.or (t := 62) (d := 73) 11 rfl (.cons (k := 0) rfl (.cons (k := 1) rfl (.cons (k := 5) rfl (.cons (k := 9) rfl (.cons (k := 10) rfl (.cons (k := 11) rfl (.cons (k := 56) rfl (.cons (k := 57) rfl (.cons (k := 58) rfl (.cons (k := 59) rfl (.cons (k := 60) rfl (.cons (k := 61) rfl .nil)))))))))))) (.cons (k := 0) rfl (.cons (k := 1) rfl (.cons (k := 2) rfl (.cons (k := 105) rfl .nil)))) ?_ ?_ ?_
            rotate_left 1
            ·
              intro hg62
              refine DL.gq rfl rfl rfl (Yld.move rfl) rfl ?_
              refine DL.gq rfl rfl rfl (Yld.move rfl) rfl ?_
              refine DL.gq rfl rfl rfl (Yld.indexRow Try.underlying22 sz42 rfl rfl (by first | assumption | exact Own.sl (by assumption)) (by first | rfl | omega | (simp; done) | (simp; omega)) (by omega) (by first | omega | (simp; done) | (simp; omega))) rfl ?_
              refine DL.gq rfl rfl rfl (by first | exact Yld.loadRow (cl := 1) Try.underlying42 rfl sz42 rfl rfl (by first | assumption | exact Own.sl (by assumption)) (by assumption) | exact Yld.loadRow (cl := 2) Try.underlying42 rfl sz42 rfl rfl (by first | assumption | exact Own.sl (by assumption)) (by assumption) | exact Yld.loadRow (cl := 105) Try.underlying42 rfl sz42 rfl rfl (by first | assumption | exact Own.sl (by assumption)) (by assumption)) rfl ?_
              refine DL.gq rfl rfl rfl (Yld.move rfl) rfl ?_
              refine DL.gq rfl rfl rfl (Yld.move rfl) rfl ?_
              refine DL.gq rfl rfl rfl (Yld.indexRow Try.underlying22 sz42 rfl rfl (by first | assumption | exact Own.sl (by assumption)) (by first | rfl | omega | (simp; done) | (simp; omega)) (by omega) (by first | omega | (simp; done) | (simp; omega))) rfl ?_
              refine DL.gq rfl rfl rfl (by first | exact Yld.loadRow (cl := 1) Try.underlying42 rfl sz42 rfl rfl (by first | assumption | exact Own.sl (by assumption)) (by assumption) | exact Yld.loadRow (cl := 2) Try.underlying42 rfl sz42 rfl rfl (by first | assumption | exact Own.sl (by assumption)) (by assumption) | exact Yld.loadRow (cl := 105) Try.underlying42 rfl sz42 rfl rfl (by first | assumption | exact Own.sl (by assumption)) (by assumption)) rfl ?_
              refine DL.gone rfl rfl rfl (Eff.call ent32 [] [] (.cons rfl (.cons rfl .nil)) (rprecedes_ct e o) rfl rfl rfl rfl (by rintro _ _ ⟨_, rfl⟩; rfl)) rfl (by rintro _ _ ⟨_, ⟨rfl, rfl⟩, rfl⟩; repeat (first | exact .nil | refine .cons rfl ?_)) ?_
              rintro _ _ ⟨_, ⟨rfl, rfl⟩, rfl⟩
              refine DL.gq rfl rfl rfl (by first | exact Yld.notD rfl | exact Yld.not rfl) rfl ?_
              refine DL.gq rfl rfl rfl (by first | exact Yld.pickT rfl rfl | exact Yld.pickF rfl rfl) rfl ?_
              exact DL.meet (.cons rfl (.cons rfl (.cons rfl (.cons rfl (.cons rfl (.cons rfl (.cons rfl (.cons rfl (.cons rfl (.cons rfl (.cons rfl (.cons rfl (.cons rfl .nil))))))))))))) (.cons rfl (.cons rfl (.cons rfl (.cons rfl .nil))))
            ·
              intro hg62
              refine DL.gskip rfl rfl rfl rfl rfl ?_
              refine DL.gskip rfl rfl rfl rfl rfl ?_
              refine DL.gskip rfl rfl rfl rfl rfl ?_
              refine DL.gskip rfl rfl rfl rfl rfl ?_
              refine DL.gskip rfl rfl rfl rfl rfl ?_
              refine DL.gskip rfl rfl rfl rfl rfl ?_
              refine DL.gskip rfl rfl rfl rfl rfl ?_
              refine DL.gskip rfl rfl rfl rfl rfl ?_
              refine DL.gskip1 rfl rfl rfl rfl rfl ?_
              refine DL.gskip rfl rfl rfl rfl rfl ?_
              refine DL.gq rfl rfl rfl (by first | exact Yld.pickT rfl rfl | exact Yld.pickF rfl rfl) rfl ?_
              exact DL.meet (.cons rfl (.cons rfl (.cons rfl (.cons rfl (.cons rfl (.cons rfl (.cons rfl (.cons rfl (.cons rfl (.cons rfl (.cons rfl (.cons rfl (.cons rfl .nil))))))))))))) (.cons rfl (.cons rfl (.cons rfl (.cons rfl .nil))))
            refine DL.q rfl (by first | exact Yld.pickT rfl rfl | exact Yld.pickF rfl rfl) rfl ?_
            exact DL.meet (.cons rfl (.cons rfl (.cons rfl (.cons rfl (.cons rfl (.cons rfl (.cons rfl (.cons rfl .nil)))))))) (.cons rfl (.cons rfl (.cons rfl (.cons rfl .nil))))
          ·
            intro hg57
            refine DL.gskip rfl rfl rfl rfl rfl ?_
            refine DL.gskip rfl rfl rfl rfl rfl ?_
            refine DL.gskip rfl rfl rfl rfl rfl ?_
            refine DL.gskip rfl rfl rfl rfl rfl ?_
            refine DL.gskip rfl rfl rfl rfl rfl ?_
            refine DL.gskipU rfl rfl rfl rfl ?_
            refine DL.gskipU rfl rfl rfl rfl ?_
            refine DL.gskipU rfl rfl rfl rfl ?_
            refine DL.gskipU rfl rfl rfl rfl ?_
            refine DL.gskipU rfl rfl rfl rfl ?_
            refine DL.gskipU rfl rfl rfl rfl ?_
            refine DL.gskipU rfl rfl rfl rfl ?_
            refine DL.gskipU rfl rfl rfl rfl ?_
            refine DL.gskip1U rfl rfl rfl rfl ?_
            refine DL.gskipU rfl rfl rfl rfl ?_
            refine DL.gskip rfl rfl rfl rfl rfl ?_
            refine DL.q rfl (by first | exact Yld.pickT rfl rfl | exact Yld.pickF rfl rfl) rfl ?_
            exact DL.meet (.cons rfl (.cons rfl (.cons rfl (.cons rfl (.cons rfl (.cons rfl (.cons rfl (.cons rfl .nil)))))))) (.cons rfl (.cons rfl (.cons rfl (.cons rfl .nil))))
          refine DL.q rfl (Yld.assign rfl) rfl ?_
          refine DL.done ?_
          refine N.block_normal ?_
          refine N.next ?_
          refine W.region ?_
          refine RL.q (Yld.move rfl) rfl ?_
          refine RL.q (Yld.bin rfl rfl (by first | exact BinV.add (by omega) (by omega) | exact BinV.addW)) rfl ?_
          refine RL.q (Yld.assign rfl) rfl ?_
          refine RL.nil ?_
          exact N.famK ⟨y.i + 1, (y.b && (t.testBit y.i || !decide (Prec e o)))⟩ ⟨⟨by dsimp only; omega, hF.step he⟩, by dsimp only; omega⟩ (.as rfl (by first | rfl | (simp; done) | (congr 1; simp; done) | (congr 1; omega)) (.as rfl (by first | rfl | (simp; done) | (congr 1; simp; done) | (congr 1; omega)) .nil)) (.cons rfl (.cons rfl (.cons rfl (.cons rfl .nil)))) .nil (.cons rfl (.cons rfl (.cons rfl (.cons rfl .nil))))
        ·
          have hendy : y.i = l.length := by omega
          have hfr : y.b = true ↔ freeL l t j := (hendy ▸ hF).free ho
          refine W.exit ?_
          refine N.then_exit ?_
          refine N.then_exit ?_
          refine N.block_eq ?_
          refine N.next ?_
          refine W.keep (.cons (k := 0) rfl (.cons (k := 1) rfl (.cons (k := 5) rfl (.cons (k := 9) rfl (.cons (k := 10) rfl .nil))))) (.cons (k := 0) rfl (.cons (k := 1) rfl (.cons (k := 2) rfl (.cons (k := 105) rfl .nil)))) ?_
          refine W.seq ?_
          refine W.seq ?_
          refine W.region ?_
          refine RL.q (Yld.move rfl) rfl ?_
          refine RL.q (by first | exact Yld.notD rfl | exact Yld.not rfl) rfl ?_
          refine RL.nil ?_
          refine N.next ?_
          refine W.cond rfl (fun hc76 => ?_) (fun hc76 => ?_)
          ·
            have hnf : ¬ freeL l t j := fun h => by rw [hfr.2 h] at hc76; cases hc76
            refine W.exit ?_
            refine N.then_exit ?_
            refine N.block_eq ?_
            refine N.next ?_
            refine W.region ?_
            refine RL.q (Yld.move rfl) rfl ?_
            refine RL.q (Yld.bin rfl rfl (by first | exact BinV.add (by omega) (by omega) | exact BinV.addW)) rfl ?_
            refine RL.q (Yld.assign rfl) rfl ?_
            refine RL.nil ?_
            exact N.famK (j + 1) ⟨⟨by omega, upS hcy ho (fun h => hnf h.1)⟩, by omega⟩ (.as rfl (by first | rfl | (simp; done) | (congr 1; simp; done) | (congr 1; omega)) .nil) (.cons rfl (.cons rfl (.cons rfl .nil))) .nil (.cons rfl (.cons rfl (.cons rfl (.cons rfl .nil))))
          ·
            have hf : freeL l t j := hfr.1 (by simpa using hc76)
            have hca := cnt_add (n := l.length) (show j < l.length by omega) hf.1
            refine W.skip ?_
            refine N.next ?_
            refine W.seq ?_
            refine W.draw (.q 0 (.q 1 (.q 2 (.q 3 (.q 4 (.q 5 (.three 6 (.q 7 (.q 8 (.q 9 (.two 10 (.one 11 (.one 12 (.one 13 .done))) 11 (.one 10 (.one 12 (.one 13 .done))))))) 10 (.two 6 (.q 7 (.q 8 (.q 9 (.one 11 (.one 12 (.one 13 .done)))))) 11 (.one 6 (.q 7 (.q 8 (.q 9 (.one 12 (.one 13 .done))))))) 11 (.two 6 (.q 7 (.q 8 (.q 9 (.one 10 (.one 12 (.one 13 .done)))))) 10 (.one 6 (.q 7 (.q 8 (.q 9 (.one 12 (.one 13 .done)))))))))))))) (.cons (k := 0) rfl (.cons (k := 1) rfl (.cons (k := 2) rfl (.cons (k := 105) rfl .nil)))) mix (by kernel_rfl) (by kernel_rfl) ?_
            refine DL.q rfl (Yld.loadW (c := 105) Try.underlying59 rfl sz59 rfl rfl (by first | exact single_self _ _ | exact pset_self _ _ _ | assumption) rfl) rfl ?_
            refine DL.q rfl (Yld.move rfl) rfl ?_
            refine DL.q rfl (Yld.move rfl) rfl ?_
            refine DL.q rfl (Yld.indexRow Try.underlying22 sz42 rfl rfl (by first | assumption | exact Own.sl (by assumption)) (by first | rfl | omega | (simp; done) | (simp; omega)) (by omega) (by first | omega | (simp; done) | (simp; omega))) rfl ?_
            refine DL.q rfl (Yld.fieldAddr fo42_3 rfl) rfl ?_
            refine DL.q rfl (by first | exact Yld.loadRowP (cl := 1) (j := 3) Try.underlying38 rfl sz38 rfl rfl (by first | assumption | exact Own.sl (by assumption)) (by assumption) rfl rfl | exact Yld.loadRowP (cl := 2) (j := 3) Try.underlying38 rfl sz38 rfl rfl (by first | assumption | exact Own.sl (by assumption)) (by assumption) rfl rfl | exact Yld.loadRowP (cl := 105) (j := 3) Try.underlying38 rfl sz38 rfl rfl (by first | assumption | exact Own.sl (by assumption)) (by assumption) rfl rfl) rfl ?_
            refine DL.three ?_ ?_ ?_
            ·
              refine DL.one rfl (Eff.call ent33 [] [] (.cons rfl (.cons rfl .nil)) (rdo_ct c o) rfl rfl rfl rfl (by rintro _ _ ⟨_, rfl⟩; rfl)) rfl (by rintro _ _ ⟨_, ⟨rfl, rfl⟩, rfl⟩; repeat (first | exact .nil | refine .cons rfl ?_)) ?_
              rintro _ _ ⟨_, ⟨rfl, rfl⟩, rfl⟩
              refine DL.q rfl (Yld.move rfl) rfl ?_
              refine DL.q rfl (Yld.extract rfl rfl) rfl ?_
              refine DL.q rfl (Yld.extract rfl rfl) rfl ?_
              refine DL.two ?_ ?_
              ·
                refine DL.one rfl (Eff.alloc 112 zc59) rfl (by rintro _ _ ⟨b12, rfl, rfl⟩; repeat (first | exact .nil | refine .cons rfl ?_)) ?_
                rintro _ _ ⟨b12, rfl, rfl⟩
                refine DL.one rfl (Eff.alloc 113 zc40) rfl (by rintro _ _ ⟨b13, rfl, rfl⟩; repeat (first | exact .nil | refine .cons rfl ?_)) ?_
                rintro _ _ ⟨b13, rfl, rfl⟩
                refine DL.one0 rfl (Eff.storeS (c := 112) _ sz59 rfl rfl rfl rfl rfl rfl rfl (by (try simp only [putAt, List.take, List.drop, List.nil_append, List.cons_append, List.append_nil, List.length_cons, List.length_nil, Nat.add_zero, Nat.zero_add, Nat.reduceAdd]); rfl)) (by rintro _ _ rfl; repeat (first | exact .nil | refine .cons rfl ?_)) ?_
                rintro _ _ rfl
                refine DL.one0 rfl (Eff.storeS (c := 113) _ sz40 rfl rfl rfl rfl rfl rfl rfl (by (try simp only [putAt, List.take, List.drop, List.nil_append, List.cons_append, List.append_nil, List.length_cons, List.length_nil, Nat.add_zero, Nat.zero_add, Nat.reduceAdd]); rfl)) (by rintro _ _ rfl; repeat (first | exact .nil | refine .cons rfl ?_)) ?_
                rintro _ _ rfl
                refine DL.done ?_
                refine N.next ?_
                refine W.keep (.cons (k := 0) rfl (.cons (k := 1) rfl (.cons (k := 5) rfl (.cons (k := 9) rfl (.cons (k := 12) rfl (.cons (k := 13) rfl .nil)))))) (.cons (k := 0) rfl (.cons (k := 1) rfl (.cons (k := 2) rfl (.cons (k := 105) rfl (.cons (k := 112) rfl (.cons (k := 113) rfl .nil)))))) ?_
                refine W.seq ?_
                refine W.seq ?_
                refine W.draw (.q 0 (.q 1 (.q 2 (.q 3 (.q 4 (.q 5 (.q 6 (.q 7 (.q 8 (.q 9 (.q 10 (.q 11 (.q 12 (.q 13 (.q 14 .done))))))))))))))) (.cons (k := 0) rfl (.cons (k := 1) rfl (.cons (k := 2) rfl (.cons (k := 105) rfl (.cons (k := 112) rfl (.cons (k := 113) rfl .nil)))))) mix (by kernel_rfl) (by kernel_rfl) ?_
                refine DL.q rfl (Yld.move rfl) rfl ?_
                refine DL.q rfl (Yld.move rfl) rfl ?_
                refine DL.q rfl (Yld.indexRow Try.underlying22 sz42 rfl rfl (by first | assumption | exact Own.sl (by assumption)) (by first | rfl | omega | (simp; done) | (simp; omega)) (by omega) (by first | omega | (simp; done) | (simp; omega))) rfl ?_
                refine DL.q rfl (Yld.fieldAddr fo42_6 rfl) rfl ?_
                refine DL.q rfl (by first | exact Yld.loadRowF (cl := 113) (j := 11) Try.underlying3 rfl rfl rfl (by first | assumption | exact Own.sl (by assumption)) (by assumption) rfl | exact Yld.loadRowF (cl := 112) (j := 11) Try.underlying3 rfl rfl rfl (by first | assumption | exact Own.sl (by assumption)) (by assumption) rfl | exact Yld.loadRowF (cl := 1) (j := 11) Try.underlying3 rfl rfl rfl (by first | assumption | exact Own.sl (by assumption)) (by assumption) rfl | exact Yld.loadRowF (cl := 2) (j := 11) Try.underlying3 rfl rfl rfl (by first | assumption | exact Own.sl (by assumption)) (by assumption) rfl | exact Yld.loadRowF (cl := 105) (j := 11) Try.underlying3 rfl rfl rfl (by first | assumption | exact Own.sl (by assumption)) (by assumption) rfl) rfl ?_
                refine DL.q rfl (Yld.bin rfl rfl BinV.geq) rfl ?_
                refine DL.q rfl (Yld.move rfl) rfl ?_
                refine' DL.and (t := 93) (d := 101) 8 rfl (.cons (k := 0) rfl (.cons (k := 1) rfl (.cons (k := 5) rfl (.cons (k := 9) rfl (.cons (k := 12) rfl (.cons (k := 13) rfl (.cons (k := 87) rfl (.cons (k := 88) rfl (.cons (k := 89) rfl (.cons (k := 90) rfl (.cons (k := 91) rfl (.cons (k := 92) rfl .nil)))))))))))) (.cons (k := 0) rfl (.cons (k := 1) rfl (.cons (k := 2) rfl (.cons (k := 105) rfl (.cons (k := 112) rfl (.cons (k := 113) rfl .nil)))))) ?_ ?_ ?_
                rotate_left 1
                ·
                  intro hg93
                  refine DL.gq rfl rfl rfl (Yld.loadW (c := 113) Try.underlying40 rfl sz40 rfl rfl (by first | exact single_self _ _ | exact pset_self _ _ _ | assumption) rfl) rfl ?_
                  refine DL.gq rfl rfl rfl (Yld.move rfl) rfl ?_
                  refine DL.gq rfl rfl rfl (Yld.move rfl) rfl ?_
                  refine DL.gq rfl rfl rfl (Yld.indexRow Try.underlying22 sz42 rfl rfl (by first | assumption | exact Own.sl (by assumption)) (by first | rfl | omega | (simp; done) | (simp; omega)) (by omega) (by first | omega | (simp; done) | (simp; omega))) rfl ?_
                  refine DL.gq rfl rfl rfl (Yld.fieldAddr fo42_4 rfl) rfl ?_
                  refine DL.gq rfl rfl rfl (by first | exact Yld.loadRowP (cl := 113) (j := 7) Try.underlying40 rfl sz40 rfl rfl (by first | assumption | exact Own.sl (by assumption)) (by assumption) rfl rfl | exact Yld.loadRowP (cl := 112) (j := 7) Try.underlying40 rfl sz40 rfl rfl (by first | assumption | exact Own.sl (by assumption)) (by assumption) rfl rfl | exact Yld.loadRowP (cl := 1) (j := 7) Try.underlying40 rfl sz40 rfl rfl (by first | assumption | exact Own.sl (by assumption)) (by assumption) rfl rfl | exact Yld.loadRowP (cl := 2) (j := 7) Try.underlying40 rfl sz40 rfl rfl (by first | assumption | exact Own.sl (by assumption)) (by assumption) rfl rfl | exact Yld.loadRowP (cl := 105) (j := 7) Try.underlying40 rfl sz40 rfl rfl (by first | assumption | exact Own.sl (by assumption)) (by assumption) rfl rfl) rfl ?_
                  refine DL.gq rfl rfl rfl (Yld.bin rfl rfl (BinV.neqT eqg40 (EqV.struct Try.underlying40 sih40 (EqF.cons rfl (PartV.one Try.underlying26 rfl rfl) (PartV.one Try.underlying26 rfl rfl) (EqV.int Try.underlying26) (EqF.cons rfl (PartV.one Try.underlying4 rfl rfl) (PartV.one Try.underlying4 rfl rfl) (EqV.bool Try.underlying4) (EqF.cons rfl (PartV.one Try.underlying2 rfl rfl) (PartV.one Try.underlying2 rfl rfl) (EqV.int Try.underlying2) EqF.nil)))))) rfl ?_
                  refine DL.q rfl (by first | exact Yld.pickT rfl rfl | exact Yld.pickF rfl rfl) rfl ?_
                  exact DL.meet (.cons rfl (.cons rfl (.cons rfl (.cons rfl (.cons rfl (.cons rfl (.cons rfl (.cons rfl (.cons rfl (.cons rfl (.cons rfl (.cons rfl (.cons rfl .nil))))))))))))) (.cons rfl (.cons rfl (.cons rfl (.cons rfl (.cons rfl (.cons rfl .nil))))))
                ·
                  intro hg93
                  refine DL.gskip rfl rfl rfl rfl rfl ?_
                  refine DL.gskip rfl rfl rfl rfl rfl ?_
                  refine DL.gskip rfl rfl rfl rfl rfl ?_
                  refine DL.gskip rfl rfl rfl rfl rfl ?_
                  refine DL.gskip rfl rfl rfl rfl rfl ?_
                  refine DL.gskip rfl rfl rfl rfl rfl ?_
                  refine DL.gskip rfl rfl rfl rfl rfl ?_
                  refine DL.q rfl (by first | exact Yld.pickT rfl rfl | exact Yld.pickF rfl rfl) rfl ?_
                  exact DL.meet (.cons rfl (.cons rfl (.cons rfl (.cons rfl (.cons rfl (.cons rfl (.cons rfl (.cons rfl (.cons rfl (.cons rfl (.cons rfl (.cons rfl (.cons rfl .nil))))))))))))) (.cons rfl (.cons rfl (.cons rfl (.cons rfl (.cons rfl (.cons rfl .nil))))))
                refine DL.done ?_
                refine N.next ?_
                refine W.keep (.cons (k := 0) rfl (.cons (k := 1) rfl (.cons (k := 5) rfl (.cons (k := 9) rfl (.cons (k := 12) rfl (.cons (k := 101) rfl .nil)))))) (.cons (k := 0) rfl (.cons (k := 1) rfl (.cons (k := 2) rfl (.cons (k := 105) rfl (.cons (k := 112) rfl (.cons (k := 113) rfl .nil)))))) ?_
                refine W.cond rfl (fun hc101 => ?_) (fun hc101 => ?_)
                ·
                  have hno : ¬ okR o (doL c o).2 := fun h => by rw [okR_b.2 h] at hc101; cases hc101
                  refine W.exit ?_
                  refine N.then_exit ?_
                  refine N.block_eq ?_
                  refine N.next ?_
                  refine W.region ?_
                  refine RL.q (Yld.move rfl) rfl ?_
                  refine RL.q (Yld.bin rfl rfl (by first | exact BinV.add (by omega) (by omega) | exact BinV.addW)) rfl ?_
                  refine RL.q (Yld.assign rfl) rfl ?_
                  refine RL.nil ?_
                  exact N.famK (j + 1) ⟨⟨by omega, upS hcy ho (fun h => hno h.2.1)⟩, by omega⟩ (.as rfl (by first | rfl | (simp; done) | (congr 1; simp; done) | (congr 1; omega)) .nil) (.cons rfl (.cons rfl (.cons rfl .nil))) .nil (.cons rfl (.cons rfl (.cons rfl (.cons rfl .nil))))
                ·
                  have hok : okR o (doL c o).2 := okR_b.1 hc101
                  refine W.skip ?_
                  refine N.next ?_
                  refine W.seq ?_
                  refine W.region ?_
                  refine RL.e (Eff.buildSlice 202 Try.underlying57 sz4 zc4 rfl rfl .nil rfl) rfl ?_
                  rintro _ _ ⟨b102, rfl, rfl⟩
                  refine RL.q (Yld.move rfl) rfl ?_
                  refine RL.e (Eff.appendE (tc := 202) (sc := 2) (ms := (usl l.length t)) (fun b : Bool => [Value.bool b]) Try.underlying57 el4 rfl rfl rfl rfl (bl_none rfl) rfl hU (by simp) (by simp [Value.oneCell']) (by decide) (by simp; omega) (by simp [maxLen]; omega)) rfl ?_
                  rintro _ _ ⟨Ha, pa, ca, rfl, hOa0, rfl⟩
                  have hOa : Own Ha pa ca 4 1 (us l.length t) := hOa0
                  rw [show (([] : List Bool) ++ usl l.length t).length = l.length by simp]
                  refine RL.q (Yld.assign rfl) rfl ?_
                  refine RL.nil ?_
                  refine N.next ?_
                  refine W.keep (.cons (k := 0) rfl (.cons (k := 1) rfl (.cons (k := 5) rfl (.cons (k := 9) rfl (.cons (k := 12) rfl (.cons (k := 14) rfl .nil)))))) (.cons (k := 0) rfl (.cons (k := 1) rfl (.cons (k := 2) rfl (.cons (k := 105) rfl (.cons (k := 112) rfl (.cons (k := 113) rfl (.cons (k := 202) rfl .nil))))))) ?_
                  refine W.seq ?_
                  refine W.region ?_
                  refine RL.q (Yld.move rfl) rfl ?_
                  refine RL.q (Yld.move rfl) rfl ?_
                  refine RL.q (Yld.indexRow Try.underlying57 sz4 rfl rfl (by first | assumption | exact Own.sl (by assumption)) (by first | rfl | omega | (simp; done) | (simp; omega)) (by omega) (by first | omega | (simp; done) | (simp; omega))) rfl ?_
                  refine RL.e0 (Eff.storeRow (tc := 202) (j := 0) sz4 rfl rfl rfl hOa hlu rfl rfl rfl rfl rfl) ?_
                  rintro _ _ ⟨Hb, hOb, rfl⟩
                  have hUb : Own Hb pa ca 4 1 (us l.length (addB t j)) := by rw [← us_set]; exact hOb
                  refine RL.nil ?_
                  refine N.next ?_
                  refine W.seq ?_
                  refine W.region ?_
                  refine RL.q (Yld.move rfl) rfl ?_
                  refine RL.q (Yld.move rfl) rfl ?_
                  refine RL.q (Yld.loadW (c := 112) Try.underlying59 rfl sz59 rfl rfl (by first | exact single_self _ _ | exact pset_self _ _ _ | assumption) rfl) rfl ?_
                  refine RL.e (Eff.call ent31 [1, 202] [1, 202] (.cons rfl (.cons rfl (.cons rfl .nil))) (ih (addB t j) (doL c o).1 _ _ _ (by omega) (addB_lt ht (by omega)) hUb.sl) rfl rfl rfl rfl (by rintro _ _ ⟨_, rfl⟩; rfl)) rfl ?_
                  rintro _ _ ⟨_, ⟨rfl, rfl⟩, rfl⟩
                  refine RL.nil ?_
                  refine N.next ?_
                  refine W.keep (.cons (k := 0) rfl (.cons (k := 1) rfl (.cons (k := 5) rfl (.cons (k := 9) rfl (.cons (k := 111) rfl .nil))))) (.cons (k := 0) rfl (.cons (k := 1) rfl (.cons (k := 2) rfl (.cons (k := 105) rfl (.cons (k := 112) rfl (.cons (k := 113) rfl (.cons (k := 202) rfl .nil))))))) ?_
                  refine W.cond rfl (fun hc111 => ?_) (fun hc111 => ?_)
                  ·
                    have hlv := liveB_iff.1 hc111
                    refine W.seq ?_
                    refine W.region ?_
                    refine RL.q (Yld.assign rfl) rfl ?_
                    refine RL.nil ?_
                    refine N.next ?_
                    refine W.keep (.cons (k := 6) rfl .nil) (.cons (k := 0) rfl (.cons (k := 1) rfl (.cons (k := 2) rfl (.cons (k := 105) rfl (.cons (k := 112) rfl (.cons (k := 113) rfl (.cons (k := 202) rfl .nil))))))) ?_
                    refine W.ret ?_
                    refine N.block_ret ?_
                    refine N.then_ret ?_
                    refine N.then_ret ?_
                    refine N.block_ret ?_
                    refine N.then_ret ?_
                    exact N.retBy [1, 2] (.cons (.tmp rfl) .nil) rfl rfl rfl rfl ⟨by rw [liveB_iff.2 (Live.step ho hf hok hlv)]; rfl, rfl⟩
                  ·
                    have hnl : ¬ Live l (addB t j) (doL c o).1 := fun h => by rw [liveB_iff.2 h] at hc111; cases hc111
                    refine W.skip ?_
                    refine N.block_normal ?_
                    refine N.next ?_
                    refine W.region ?_
                    refine RL.q (Yld.move rfl) rfl ?_
                    refine RL.q (Yld.bin rfl rfl (by first | exact BinV.add (by omega) (by omega) | exact BinV.addW)) rfl ?_
                    refine RL.q (Yld.assign rfl) rfl ?_
                    refine RL.nil ?_
                    exact N.famK (j + 1) ⟨⟨by omega, upS hcy ho (fun h => hnl h.2.2)⟩, by omega⟩ (.as rfl (by first | rfl | (simp; done) | (congr 1; simp; done) | (congr 1; omega)) .nil) (.cons rfl (.cons rfl (.cons rfl .nil))) .nil (.cons rfl (.cons rfl (.cons rfl (.cons rfl .nil))))
              ·
                refine DL.one rfl (Eff.alloc 113 zc40) rfl (by rintro _ _ ⟨b13, rfl, rfl⟩; repeat (first | exact .nil | refine .cons rfl ?_)) ?_
                rintro _ _ ⟨b13, rfl, rfl⟩
                refine DL.one rfl (Eff.alloc 112 zc59) rfl (by rintro _ _ ⟨b12, rfl, rfl⟩; repeat (first | exact .nil | refine .cons rfl ?_)) ?_
                rintro _ _ ⟨b12, rfl, rfl⟩
                refine DL.one0 rfl (Eff.storeS (c := 112) _ sz59 rfl rfl rfl rfl rfl rfl rfl (by (try simp only [putAt, List.take, List.drop, List.nil_append, List.cons_append, List.append_nil, List.length_cons, List.length_nil, Nat.add_zero, Nat.zero_add, Nat.reduceAdd]); rfl)) (by rintro _ _ rfl; repeat (first | exact .nil | refine .cons rfl ?_)) ?_
                rintro _ _ rfl
                refine DL.one0 rfl (Eff.storeS (c := 113) _ sz40 rfl rfl rfl rfl rfl rfl rfl (by (try simp only [putAt, List.take, List.drop, List.nil_append, List.cons_append, List.append_nil, List.length_cons, List.length_nil, Nat.add_zero, Nat.zero_add, Nat.reduceAdd]); rfl)) (by rintro _ _ rfl; repeat (first | exact .nil | refine .cons rfl ?_)) ?_
                rintro _ _ rfl
                refine DL.done ?_
                refine N.next ?_
                refine W.keep (.cons (k := 0) rfl (.cons (k := 1) rfl (.cons (k := 5) rfl (.cons (k := 9) rfl (.cons (k := 12) rfl (.cons (k := 13) rfl .nil)))))) (.cons (k := 0) rfl (.cons (k := 1) rfl (.cons (k := 2) rfl (.cons (k := 105) rfl (.cons (k := 112) rfl (.cons (k := 113) rfl .nil)))))) ?_
                refine W.seq ?_
                refine W.seq ?_
                refine W.draw (.q 0 (.q 1 (.q 2 (.q 3 (.q 4 (.q 5 (.q 6 (.q 7 (.q 8 (.q 9 (.q 10 (.q 11 (.q 12 (.q 13 (.q 14 .done))))))))))))))) (.cons (k := 0) rfl (.cons (k := 1) rfl (.cons (k := 2) rfl (.cons (k := 105) rfl (.cons (k := 112) rfl (.cons (k := 113) rfl .nil)))))) mix (by kernel_rfl) (by kernel_rfl) ?_
                refine DL.q rfl (Yld.move rfl) rfl ?_
                refine DL.q rfl (Yld.move rfl) rfl ?_
                refine DL.q rfl (Yld.indexRow Try.underlying22 sz42 rfl rfl (by first | assumption | exact Own.sl (by assumption)) (by first | rfl | omega | (simp; done) | (simp; omega)) (by omega) (by first | omega | (simp; done) | (simp; omega))) rfl ?_
                refine DL.q rfl (Yld.fieldAddr fo42_6 rfl) rfl ?_
                refine DL.q rfl (by first | exact Yld.loadRowF (cl := 112) (j := 11) Try.underlying3 rfl rfl rfl (by first | assumption | exact Own.sl (by assumption)) (by assumption) rfl | exact Yld.loadRowF (cl := 113) (j := 11) Try.underlying3 rfl rfl rfl (by first | assumption | exact Own.sl (by assumption)) (by assumption) rfl | exact Yld.loadRowF (cl := 1) (j := 11) Try.underlying3 rfl rfl rfl (by first | assumption | exact Own.sl (by assumption)) (by assumption) rfl | exact Yld.loadRowF (cl := 2) (j := 11) Try.underlying3 rfl rfl rfl (by first | assumption | exact Own.sl (by assumption)) (by assumption) rfl | exact Yld.loadRowF (cl := 105) (j := 11) Try.underlying3 rfl rfl rfl (by first | assumption | exact Own.sl (by assumption)) (by assumption) rfl) rfl ?_
                refine DL.q rfl (Yld.bin rfl rfl BinV.geq) rfl ?_
                refine DL.q rfl (Yld.move rfl) rfl ?_
                refine' DL.and (t := 93) (d := 101) 8 rfl (.cons (k := 0) rfl (.cons (k := 1) rfl (.cons (k := 5) rfl (.cons (k := 9) rfl (.cons (k := 12) rfl (.cons (k := 13) rfl (.cons (k := 87) rfl (.cons (k := 88) rfl (.cons (k := 89) rfl (.cons (k := 90) rfl (.cons (k := 91) rfl (.cons (k := 92) rfl .nil)))))))))))) (.cons (k := 0) rfl (.cons (k := 1) rfl (.cons (k := 2) rfl (.cons (k := 105) rfl (.cons (k := 112) rfl (.cons (k := 113) rfl .nil)))))) ?_ ?_ ?_
                rotate_left 1
                ·
                  intro hg93
                  refine DL.gq rfl rfl rfl (Yld.loadW (c := 113) Try.underlying40 rfl sz40 rfl rfl (by first | exact single_self _ _ | exact pset_self _ _ _ | assumption) rfl) rfl ?_
                  refine DL.gq rfl rfl rfl (Yld.move rfl) rfl ?_
                  refine DL.gq rfl rfl rfl (Yld.move rfl) rfl ?_
                  refine DL.gq rfl rfl rfl (Yld.indexRow Try.underlying22 sz42 rfl rfl (by first | assumption | exact Own.sl (by assumption)) (by first | rfl | omega | (simp; done) | (simp; omega)) (by omega) (by first | omega | (simp; done) | (simp; omega))) rfl ?_
                  refine DL.gq rfl rfl rfl (Yld.fieldAddr fo42_4 rfl) rfl ?_
                  refine DL.gq rfl rfl rfl (by first | exact Yld.loadRowP (cl := 112) (j := 7) Try.underlying40 rfl sz40 rfl rfl (by first | assumption | exact Own.sl (by assumption)) (by assumption) rfl rfl | exact Yld.loadRowP (cl := 113) (j := 7) Try.underlying40 rfl sz40 rfl rfl (by first | assumption | exact Own.sl (by assumption)) (by assumption) rfl rfl | exact Yld.loadRowP (cl := 1) (j := 7) Try.underlying40 rfl sz40 rfl rfl (by first | assumption | exact Own.sl (by assumption)) (by assumption) rfl rfl | exact Yld.loadRowP (cl := 2) (j := 7) Try.underlying40 rfl sz40 rfl rfl (by first | assumption | exact Own.sl (by assumption)) (by assumption) rfl rfl | exact Yld.loadRowP (cl := 105) (j := 7) Try.underlying40 rfl sz40 rfl rfl (by first | assumption | exact Own.sl (by assumption)) (by assumption) rfl rfl) rfl ?_
                  refine DL.gq rfl rfl rfl (Yld.bin rfl rfl (BinV.neqT eqg40 (EqV.struct Try.underlying40 sih40 (EqF.cons rfl (PartV.one Try.underlying26 rfl rfl) (PartV.one Try.underlying26 rfl rfl) (EqV.int Try.underlying26) (EqF.cons rfl (PartV.one Try.underlying4 rfl rfl) (PartV.one Try.underlying4 rfl rfl) (EqV.bool Try.underlying4) (EqF.cons rfl (PartV.one Try.underlying2 rfl rfl) (PartV.one Try.underlying2 rfl rfl) (EqV.int Try.underlying2) EqF.nil)))))) rfl ?_
                  refine DL.q rfl (by first | exact Yld.pickT rfl rfl | exact Yld.pickF rfl rfl) rfl ?_
                  exact DL.meet (.cons rfl (.cons rfl (.cons rfl (.cons rfl (.cons rfl (.cons rfl (.cons rfl (.cons rfl (.cons rfl (.cons rfl (.cons rfl (.cons rfl (.cons rfl .nil))))))))))))) (.cons rfl (.cons rfl (.cons rfl (.cons rfl (.cons rfl (.cons rfl .nil))))))
                ·
                  intro hg93
                  refine DL.gskip rfl rfl rfl rfl rfl ?_
                  refine DL.gskip rfl rfl rfl rfl rfl ?_
                  refine DL.gskip rfl rfl rfl rfl rfl ?_
                  refine DL.gskip rfl rfl rfl rfl rfl ?_
                  refine DL.gskip rfl rfl rfl rfl rfl ?_
                  refine DL.gskip rfl rfl rfl rfl rfl ?_
                  refine DL.gskip rfl rfl rfl rfl rfl ?_
                  refine DL.q rfl (by first | exact Yld.pickT rfl rfl | exact Yld.pickF rfl rfl) rfl ?_
                  exact DL.meet (.cons rfl (.cons rfl (.cons rfl (.cons rfl (.cons rfl (.cons rfl (.cons rfl (.cons rfl (.cons rfl (.cons rfl (.cons rfl (.cons rfl (.cons rfl .nil))))))))))))) (.cons rfl (.cons rfl (.cons rfl (.cons rfl (.cons rfl (.cons rfl .nil))))))
                refine DL.done ?_
                refine N.next ?_
                refine W.keep (.cons (k := 0) rfl (.cons (k := 1) rfl (.cons (k := 5) rfl (.cons (k := 9) rfl (.cons (k := 12) rfl (.cons (k := 101) rfl .nil)))))) (.cons (k := 0) rfl (.cons (k := 1) rfl (.cons (k := 2) rfl (.cons (k := 105) rfl (.cons (k := 112) rfl (.cons (k := 113) rfl .nil)))))) ?_
                refine W.cond rfl (fun hc101 => ?_) (fun hc101 => ?_)
                ·
                  have hno : ¬ okR o (doL c o).2 := fun h => by rw [okR_b.2 h] at hc101; cases hc101
                  refine W.exit ?_
                  refine N.then_exit ?_
                  refine N.block_eq ?_
                  refine N.next ?_
                  refine W.region ?_
                  refine RL.q (Yld.move rfl) rfl ?_
                  refine RL.q (Yld.bin rfl rfl (by first | exact BinV.add (by omega) (by omega) | exact BinV.addW)) rfl ?_
                  refine RL.q (Yld.assign rfl) rfl ?_
                  refine RL.nil ?_
                  exact N.famK (j + 1) ⟨⟨by omega, upS hcy ho (fun h => hno h.2.1)⟩, by omega⟩ (.as rfl (by first | rfl | (simp; done) | (congr 1; simp; done) | (congr 1; omega)) .nil) (.cons rfl (.cons rfl (.cons rfl .nil))) .nil (.cons rfl (.cons rfl (.cons rfl (.cons rfl .nil))))
                ·
                  have hok : okR o (doL c o).2 := okR_b.1 hc101
                  refine W.skip ?_
                  refine N.next ?_
                  refine W.seq ?_
                  refine W.region ?_
                  refine RL.e (Eff.buildSlice 202 Try.underlying57 sz4 zc4 rfl rfl .nil rfl) rfl ?_
                  rintro _ _ ⟨b102, rfl, rfl⟩
                  refine RL.q (Yld.move rfl) rfl ?_
                  refine RL.e (Eff.appendE (tc := 202) (sc := 2) (ms := (usl l.length t)) (fun b : Bool => [Value.bool b]) Try.underlying57 el4 rfl rfl rfl rfl (bl_none rfl) rfl hU (by simp) (by simp [Value.oneCell']) (by decide) (by simp; omega) (by simp [maxLen]; omega)) rfl ?_
                  rintro _ _ ⟨Ha, pa, ca, rfl, hOa0, rfl⟩
                  have hOa : Own Ha pa ca 4 1 (us l.length t) := hOa0
                  rw [show (([] : List Bool) ++ usl l.length t).length = l.length by simp]
                  refine RL.q (Yld.assign rfl) rfl ?_
                  refine RL.nil ?_
                  refine N.next ?_
                  refine W.keep (.cons (k := 0) rfl (.cons (k := 1) rfl (.cons (k := 5) rfl (.cons (k := 9) rfl (.cons (k := 12) rfl (.cons (k := 14) rfl .nil)))))) (.cons (k := 0) rfl (.cons (k := 1) rfl (.cons (k := 2) rfl (.cons (k := 105) rfl (.cons (k := 112) rfl (.cons (k := 113) rfl (.cons (k := 202) rfl .nil))))))) ?_
                  refine W.seq ?_
                  refine W.region ?_
                  refine RL.q (Yld.move rfl) rfl ?_
                  refine RL.q (Yld.move rfl) rfl ?_
                  refine RL.q (Yld.indexRow Try.underlying57 sz4 rfl rfl (by first | assumption | exact Own.sl (by assumption)) (by first | rfl | omega | (simp; done) | (simp; omega)) (by omega) (by first | omega | (simp; done) | (simp; omega))) rfl ?_
                  refine RL.e0 (Eff.storeRow (tc := 202) (j := 0) sz4 rfl rfl rfl hOa hlu rfl rfl rfl rfl rfl) ?_
                  rintro _ _ ⟨Hb, hOb, rfl⟩
                  have hUb : Own Hb pa ca 4 1 (us l.length (addB t j)) := by rw [← us_set]; exact hOb
                  refine RL.nil ?_
                  refine N.next ?_
                  refine W.seq ?_
                  refine W.region ?_
                  refine RL.q (Yld.move rfl) rfl ?_
                  refine RL.q (Yld.move rfl) rfl ?_
                  refine RL.q (Yld.loadW (c := 112) Try.underlying59 rfl sz59 rfl rfl (by first | exact single_self _ _ | exact pset_self _ _ _ | assumption) rfl) rfl ?_
                  refine RL.e (Eff.call ent31 [1, 202] [1, 202] (.cons rfl (.cons rfl (.cons rfl .nil))) (ih (addB t j) (doL c o).1 _ _ _ (by omega) (addB_lt ht (by omega)) hUb.sl) rfl rfl rfl rfl (by rintro _ _ ⟨_, rfl⟩; rfl)) rfl ?_
                  rintro _ _ ⟨_, ⟨rfl, rfl⟩, rfl⟩
                  refine RL.nil ?_
                  refine N.next ?_
                  refine W.keep (.cons (k := 0) rfl (.cons (k := 1) rfl (.cons (k := 5) rfl (.cons (k := 9) rfl (.cons (k := 111) rfl .nil))))) (.cons (k := 0) rfl (.cons (k := 1) rfl (.cons (k := 2) rfl (.cons (k := 105) rfl (.cons (k := 112) rfl (.cons (k := 113) rfl (.cons (k := 202) rfl .nil))))))) ?_
                  refine W.cond rfl (fun hc111 => ?_) (fun hc111 => ?_)
                  ·
                    have hlv := liveB_iff.1 hc111
                    refine W.seq ?_
                    refine W.region ?_
                    refine RL.q (Yld.assign rfl) rfl ?_
                    refine RL.nil ?_
                    refine N.next ?_
                    refine W.keep (.cons (k := 6) rfl .nil) (.cons (k := 0) rfl (.cons (k := 1) rfl (.cons (k := 2) rfl (.cons (k := 105) rfl (.cons (k := 112) rfl (.cons (k := 113) rfl (.cons (k := 202) rfl .nil))))))) ?_
                    refine W.ret ?_
                    refine N.block_ret ?_
                    refine N.then_ret ?_
                    refine N.then_ret ?_
                    refine N.block_ret ?_
                    refine N.then_ret ?_
                    exact N.retBy [1, 2] (.cons (.tmp rfl) .nil) rfl rfl rfl rfl ⟨by rw [liveB_iff.2 (Live.step ho hf hok hlv)]; rfl, rfl⟩
                  ·
                    have hnl : ¬ Live l (addB t j) (doL c o).1 := fun h => by rw [liveB_iff.2 h] at hc111; cases hc111
                    refine W.skip ?_
                    refine N.block_normal ?_
                    refine N.next ?_
                    refine W.region ?_
                    refine RL.q (Yld.move rfl) rfl ?_
                    refine RL.q (Yld.bin rfl rfl (by first | exact BinV.add (by omega) (by omega) | exact BinV.addW)) rfl ?_
                    refine RL.q (Yld.assign rfl) rfl ?_
                    refine RL.nil ?_
                    exact N.famK (j + 1) ⟨⟨by omega, upS hcy ho (fun h => hnl h.2.2)⟩, by omega⟩ (.as rfl (by first | rfl | (simp; done) | (congr 1; simp; done) | (congr 1; omega)) .nil) (.cons rfl (.cons rfl (.cons rfl .nil))) .nil (.cons rfl (.cons rfl (.cons rfl (.cons rfl .nil))))
            ·
              refine DL.one rfl (Eff.alloc 112 zc59) rfl (by rintro _ _ ⟨b12, rfl, rfl⟩; repeat (first | exact .nil | refine .cons rfl ?_)) ?_
              rintro _ _ ⟨b12, rfl, rfl⟩
              refine DL.two ?_ ?_
              ·
                refine DL.one rfl (Eff.call ent33 [] [] (.cons rfl (.cons rfl .nil)) (rdo_ct c o) rfl rfl rfl rfl (by rintro _ _ ⟨_, rfl⟩; rfl)) rfl (by rintro _ _ ⟨_, ⟨rfl, rfl⟩, rfl⟩; repeat (first | exact .nil | refine .cons rfl ?_)) ?_
                rintro _ _ ⟨_, ⟨rfl, rfl⟩, rfl⟩
                refine DL.q rfl (Yld.move rfl) rfl ?_
                refine DL.q rfl (Yld.extract rfl rfl) rfl ?_
                refine DL.q rfl (Yld.extract rfl rfl) rfl ?_
                refine DL.one rfl (Eff.alloc 113 zc40) rfl (by rintro _ _ ⟨b13, rfl, rfl⟩; repeat (first | exact .nil | refine .cons rfl ?_)) ?_
                rintro _ _ ⟨b13, rfl, rfl⟩
                refine DL.one0 rfl (Eff.storeS (c := 112) _ sz59 rfl rfl rfl rfl rfl rfl rfl (by (try simp only [putAt, List.take, List.drop, List.nil_append, List.cons_append, List.append_nil, List.length_cons, List.length_nil, Nat.add_zero, Nat.zero_add, Nat.reduceAdd]); rfl)) (by rintro _ _ rfl; repeat (first | exact .nil | refine .cons rfl ?_)) ?_
                rintro _ _ rfl
                refine DL.one0 rfl (Eff.storeS (c := 113) _ sz40 rfl rfl rfl rfl rfl rfl rfl (by (try simp only [putAt, List.take, List.drop, List.nil_append, List.cons_append, List.append_nil, List.length_cons, List.length_nil, Nat.add_zero, Nat.zero_add, Nat.reduceAdd]); rfl)) (by rintro _ _ rfl; repeat (first | exact .nil | refine .cons rfl ?_)) ?_
                rintro _ _ rfl
                refine DL.done ?_
                refine N.next ?_
                refine W.keep (.cons (k := 0) rfl (.cons (k := 1) rfl (.cons (k := 5) rfl (.cons (k := 9) rfl (.cons (k := 12) rfl (.cons (k := 13) rfl .nil)))))) (.cons (k := 0) rfl (.cons (k := 1) rfl (.cons (k := 2) rfl (.cons (k := 105) rfl (.cons (k := 112) rfl (.cons (k := 113) rfl .nil)))))) ?_
                refine W.seq ?_
                refine W.seq ?_
                refine W.draw (.q 0 (.q 1 (.q 2 (.q 3 (.q 4 (.q 5 (.q 6 (.q 7 (.q 8 (.q 9 (.q 10 (.q 11 (.q 12 (.q 13 (.q 14 .done))))))))))))))) (.cons (k := 0) rfl (.cons (k := 1) rfl (.cons (k := 2) rfl (.cons (k := 105) rfl (.cons (k := 112) rfl (.cons (k := 113) rfl .nil)))))) mix (by kernel_rfl) (by kernel_rfl) ?_
                refine DL.q rfl (Yld.move rfl) rfl ?_
                refine DL.q rfl (Yld.move rfl) rfl ?_
                refine DL.q rfl (Yld.indexRow Try.underlying22 sz42 rfl rfl (by first | assumption | exact Own.sl (by assumption)) (by first | rfl | omega | (simp; done) | (simp; omega)) (by omega) (by first | omega | (simp; done) | (simp; omega))) rfl ?_
                refine DL.q rfl (Yld.fieldAddr fo42_6 rfl) rfl ?_
                refine DL.q rfl (by first | exact Yld.loadRowF (cl := 113) (j := 11) Try.underlying3 rfl rfl rfl (by first | assumption | exact Own.sl (by assumption)) (by assumption) rfl | exact Yld.loadRowF (cl := 112) (j := 11) Try.underlying3 rfl rfl rfl (by first | assumption | exact Own.sl (by assumption)) (by assumption) rfl | exact Yld.loadRowF (cl := 1) (j := 11) Try.underlying3 rfl rfl rfl (by first | assumption | exact Own.sl (by assumption)) (by assumption) rfl | exact Yld.loadRowF (cl := 2) (j := 11) Try.underlying3 rfl rfl rfl (by first | assumption | exact Own.sl (by assumption)) (by assumption) rfl | exact Yld.loadRowF (cl := 105) (j := 11) Try.underlying3 rfl rfl rfl (by first | assumption | exact Own.sl (by assumption)) (by assumption) rfl) rfl ?_
                refine DL.q rfl (Yld.bin rfl rfl BinV.geq) rfl ?_
                refine DL.q rfl (Yld.move rfl) rfl ?_
                refine' DL.and (t := 93) (d := 101) 8 rfl (.cons (k := 0) rfl (.cons (k := 1) rfl (.cons (k := 5) rfl (.cons (k := 9) rfl (.cons (k := 12) rfl (.cons (k := 13) rfl (.cons (k := 87) rfl (.cons (k := 88) rfl (.cons (k := 89) rfl (.cons (k := 90) rfl (.cons (k := 91) rfl (.cons (k := 92) rfl .nil)))))))))))) (.cons (k := 0) rfl (.cons (k := 1) rfl (.cons (k := 2) rfl (.cons (k := 105) rfl (.cons (k := 112) rfl (.cons (k := 113) rfl .nil)))))) ?_ ?_ ?_
                rotate_left 1
                ·
                  intro hg93
                  refine DL.gq rfl rfl rfl (Yld.loadW (c := 113) Try.underlying40 rfl sz40 rfl rfl (by first | exact single_self _ _ | exact pset_self _ _ _ | assumption) rfl) rfl ?_
                  refine DL.gq rfl rfl rfl (Yld.move rfl) rfl ?_
                  refine DL.gq rfl rfl rfl (Yld.move rfl) rfl ?_
                  refine DL.gq rfl rfl rfl (Yld.indexRow Try.underlying22 sz42 rfl rfl (by first | assumption | exact Own.sl (by assumption)) (by first | rfl | omega | (simp; done) | (simp; omega)) (by omega) (by first | omega | (simp; done) | (simp; omega))) rfl ?_
                  refine DL.gq rfl rfl rfl (Yld.fieldAddr fo42_4 rfl) rfl ?_
                  refine DL.gq rfl rfl rfl (by first | exact Yld.loadRowP (cl := 113) (j := 7) Try.underlying40 rfl sz40 rfl rfl (by first | assumption | exact Own.sl (by assumption)) (by assumption) rfl rfl | exact Yld.loadRowP (cl := 112) (j := 7) Try.underlying40 rfl sz40 rfl rfl (by first | assumption | exact Own.sl (by assumption)) (by assumption) rfl rfl | exact Yld.loadRowP (cl := 1) (j := 7) Try.underlying40 rfl sz40 rfl rfl (by first | assumption | exact Own.sl (by assumption)) (by assumption) rfl rfl | exact Yld.loadRowP (cl := 2) (j := 7) Try.underlying40 rfl sz40 rfl rfl (by first | assumption | exact Own.sl (by assumption)) (by assumption) rfl rfl | exact Yld.loadRowP (cl := 105) (j := 7) Try.underlying40 rfl sz40 rfl rfl (by first | assumption | exact Own.sl (by assumption)) (by assumption) rfl rfl) rfl ?_
                  refine DL.gq rfl rfl rfl (Yld.bin rfl rfl (BinV.neqT eqg40 (EqV.struct Try.underlying40 sih40 (EqF.cons rfl (PartV.one Try.underlying26 rfl rfl) (PartV.one Try.underlying26 rfl rfl) (EqV.int Try.underlying26) (EqF.cons rfl (PartV.one Try.underlying4 rfl rfl) (PartV.one Try.underlying4 rfl rfl) (EqV.bool Try.underlying4) (EqF.cons rfl (PartV.one Try.underlying2 rfl rfl) (PartV.one Try.underlying2 rfl rfl) (EqV.int Try.underlying2) EqF.nil)))))) rfl ?_
                  refine DL.q rfl (by first | exact Yld.pickT rfl rfl | exact Yld.pickF rfl rfl) rfl ?_
                  exact DL.meet (.cons rfl (.cons rfl (.cons rfl (.cons rfl (.cons rfl (.cons rfl (.cons rfl (.cons rfl (.cons rfl (.cons rfl (.cons rfl (.cons rfl (.cons rfl .nil))))))))))))) (.cons rfl (.cons rfl (.cons rfl (.cons rfl (.cons rfl (.cons rfl .nil))))))
                ·
                  intro hg93
                  refine DL.gskip rfl rfl rfl rfl rfl ?_
                  refine DL.gskip rfl rfl rfl rfl rfl ?_
                  refine DL.gskip rfl rfl rfl rfl rfl ?_
                  refine DL.gskip rfl rfl rfl rfl rfl ?_
                  refine DL.gskip rfl rfl rfl rfl rfl ?_
                  refine DL.gskip rfl rfl rfl rfl rfl ?_
                  refine DL.gskip rfl rfl rfl rfl rfl ?_
                  refine DL.q rfl (by first | exact Yld.pickT rfl rfl | exact Yld.pickF rfl rfl) rfl ?_
                  exact DL.meet (.cons rfl (.cons rfl (.cons rfl (.cons rfl (.cons rfl (.cons rfl (.cons rfl (.cons rfl (.cons rfl (.cons rfl (.cons rfl (.cons rfl (.cons rfl .nil))))))))))))) (.cons rfl (.cons rfl (.cons rfl (.cons rfl (.cons rfl (.cons rfl .nil))))))
                refine DL.done ?_
                refine N.next ?_
                refine W.keep (.cons (k := 0) rfl (.cons (k := 1) rfl (.cons (k := 5) rfl (.cons (k := 9) rfl (.cons (k := 12) rfl (.cons (k := 101) rfl .nil)))))) (.cons (k := 0) rfl (.cons (k := 1) rfl (.cons (k := 2) rfl (.cons (k := 105) rfl (.cons (k := 112) rfl (.cons (k := 113) rfl .nil)))))) ?_
                refine W.cond rfl (fun hc101 => ?_) (fun hc101 => ?_)
                ·
                  have hno : ¬ okR o (doL c o).2 := fun h => by rw [okR_b.2 h] at hc101; cases hc101
                  refine W.exit ?_
                  refine N.then_exit ?_
                  refine N.block_eq ?_
                  refine N.next ?_
                  refine W.region ?_
                  refine RL.q (Yld.move rfl) rfl ?_
                  refine RL.q (Yld.bin rfl rfl (by first | exact BinV.add (by omega) (by omega) | exact BinV.addW)) rfl ?_
                  refine RL.q (Yld.assign rfl) rfl ?_
                  refine RL.nil ?_
                  exact N.famK (j + 1) ⟨⟨by omega, upS hcy ho (fun h => hno h.2.1)⟩, by omega⟩ (.as rfl (by first | rfl | (simp; done) | (congr 1; simp; done) | (congr 1; omega)) .nil) (.cons rfl (.cons rfl (.cons rfl .nil))) .nil (.cons rfl (.cons rfl (.cons rfl (.cons rfl .nil))))
                ·
                  have hok : okR o (doL c o).2 := okR_b.1 hc101
                  refine W.skip ?_
                  refine N.next ?_
                  refine W.seq ?_
                  refine W.region ?_
                  refine RL.e (Eff.buildSlice 202 Try.underlying57 sz4 zc4 rfl rfl .nil rfl) rfl ?_
                  rintro _ _ ⟨b102, rfl, rfl⟩
                  refine RL.q (Yld.move rfl) rfl ?_
                  refine RL.e (Eff.appendE (tc := 202) (sc := 2) (ms := (usl l.length t)) (fun b : Bool => [Value.bool b]) Try.underlying57 el4 rfl rfl rfl rfl (bl_none rfl) rfl hU (by simp) (by simp [Value.oneCell']) (by decide) (by simp; omega) (by simp [maxLen]; omega)) rfl ?_
                  rintro _ _ ⟨Ha, pa, ca, rfl, hOa0, rfl⟩
                  have hOa : Own Ha pa ca 4 1 (us l.length t) := hOa0
                  rw [show (([] : List Bool) ++ usl l.length t).length = l.length by simp]
                  refine RL.q (Yld.assign rfl) rfl ?_
                  refine RL.nil ?_
                  refine N.next ?_
                  refine W.keep (.cons (k := 0) rfl (.cons (k := 1) rfl (.cons (k := 5) rfl (.cons (k := 9) rfl (.cons (k := 12) rfl (.cons (k := 14) rfl .nil)))))) (.cons (k := 0) rfl (.cons (k := 1) rfl (.cons (k := 2) rfl (.cons (k := 105) rfl (.cons (k := 112) rfl (.cons (k := 113) rfl (.cons (k := 202) rfl .nil))))))) ?_
                  refine W.seq ?_
                  refine W.region ?_
                  refine RL.q (Yld.move rfl) rfl ?_
                  refine RL.q (Yld.move rfl) rfl ?_
                  refine RL.q (Yld.indexRow Try.underlying57 sz4 rfl rfl (by first | assumption | exact Own.sl (by assumption)) (by first | rfl | omega | (simp; done) | (simp; omega)) (by omega) (by first | omega | (simp; done) | (simp; omega))) rfl ?_
                  refine RL.e0 (Eff.storeRow (tc := 202) (j := 0) sz4 rfl rfl rfl hOa hlu rfl rfl rfl rfl rfl) ?_
                  rintro _ _ ⟨Hb, hOb, rfl⟩
                  have hUb : Own Hb pa ca 4 1 (us l.length (addB t j)) := by rw [← us_set]; exact hOb
                  refine RL.nil ?_
                  refine N.next ?_
                  refine W.seq ?_
                  refine W.region ?_
                  refine RL.q (Yld.move rfl) rfl ?_
                  refine RL.q (Yld.move rfl) rfl ?_
                  refine RL.q (Yld.loadW (c := 112) Try.underlying59 rfl sz59 rfl rfl (by first | exact single_self _ _ | exact pset_self _ _ _ | assumption) rfl) rfl ?_
                  refine RL.e (Eff.call ent31 [1, 202] [1, 202] (.cons rfl (.cons rfl (.cons rfl .nil))) (ih (addB t j) (doL c o).1 _ _ _ (by omega) (addB_lt ht (by omega)) hUb.sl) rfl rfl rfl rfl (by rintro _ _ ⟨_, rfl⟩; rfl)) rfl ?_
                  rintro _ _ ⟨_, ⟨rfl, rfl⟩, rfl⟩
                  refine RL.nil ?_
                  refine N.next ?_
                  refine W.keep (.cons (k := 0) rfl (.cons (k := 1) rfl (.cons (k := 5) rfl (.cons (k := 9) rfl (.cons (k := 111) rfl .nil))))) (.cons (k := 0) rfl (.cons (k := 1) rfl (.cons (k := 2) rfl (.cons (k := 105) rfl (.cons (k := 112) rfl (.cons (k := 113) rfl (.cons (k := 202) rfl .nil))))))) ?_
                  refine W.cond rfl (fun hc111 => ?_) (fun hc111 => ?_)
                  ·
                    have hlv := liveB_iff.1 hc111
                    refine W.seq ?_
                    refine W.region ?_
                    refine RL.q (Yld.assign rfl) rfl ?_
                    refine RL.nil ?_
                    refine N.next ?_
                    refine W.keep (.cons (k := 6) rfl .nil) (.cons (k := 0) rfl (.cons (k := 1) rfl (.cons (k := 2) rfl (.cons (k := 105) rfl (.cons (k := 112) rfl (.cons (k := 113) rfl (.cons (k := 202) rfl .nil))))))) ?_
                    refine W.ret ?_
                    refine N.block_ret ?_
                    refine N.then_ret ?_
                    refine N.then_ret ?_
                    refine N.block_ret ?_
                    refine N.then_ret ?_
                    exact N.retBy [1, 2] (.cons (.tmp rfl) .nil) rfl rfl rfl rfl ⟨by rw [liveB_iff.2 (Live.step ho hf hok hlv)]; rfl, rfl⟩
                  ·
                    have hnl : ¬ Live l (addB t j) (doL c o).1 := fun h => by rw [liveB_iff.2 h] at hc111; cases hc111
                    refine W.skip ?_
                    refine N.block_normal ?_
                    refine N.next ?_
                    refine W.region ?_
                    refine RL.q (Yld.move rfl) rfl ?_
                    refine RL.q (Yld.bin rfl rfl (by first | exact BinV.add (by omega) (by omega) | exact BinV.addW)) rfl ?_
                    refine RL.q (Yld.assign rfl) rfl ?_
                    refine RL.nil ?_
                    exact N.famK (j + 1) ⟨⟨by omega, upS hcy ho (fun h => hnl h.2.2)⟩, by omega⟩ (.as rfl (by first | rfl | (simp; done) | (congr 1; simp; done) | (congr 1; omega)) .nil) (.cons rfl (.cons rfl (.cons rfl .nil))) .nil (.cons rfl (.cons rfl (.cons rfl (.cons rfl .nil))))
              ·
                refine DL.one rfl (Eff.alloc 113 zc40) rfl (by rintro _ _ ⟨b13, rfl, rfl⟩; repeat (first | exact .nil | refine .cons rfl ?_)) ?_
                rintro _ _ ⟨b13, rfl, rfl⟩
                refine DL.one rfl (Eff.call ent33 [] [] (.cons rfl (.cons rfl .nil)) (rdo_ct c o) rfl rfl rfl rfl (by rintro _ _ ⟨_, rfl⟩; rfl)) rfl (by rintro _ _ ⟨_, ⟨rfl, rfl⟩, rfl⟩; repeat (first | exact .nil | refine .cons rfl ?_)) ?_
                rintro _ _ ⟨_, ⟨rfl, rfl⟩, rfl⟩
                refine DL.q rfl (Yld.move rfl) rfl ?_
                refine DL.q rfl (Yld.extract rfl rfl) rfl ?_
                refine DL.q rfl (Yld.extract rfl rfl) rfl ?_
                refine DL.one0 rfl (Eff.storeS (c := 112) _ sz59 rfl rfl rfl rfl rfl rfl rfl (by (try simp only [putAt, List.take, List.drop, List.nil_append, List.cons_append, List.append_nil, List.length_cons, List.length_nil, Nat.add_zero, Nat.zero_add, Nat.reduceAdd]); rfl)) (by rintro _ _ rfl; repeat (first | exact .nil | refine .cons rfl ?_)) ?_
                rintro _ _ rfl
                refine DL.one0 rfl (Eff.storeS (c := 113) _ sz40 rfl rfl rfl rfl rfl rfl rfl (by (try simp only [putAt, List.take, List.drop, List.nil_append, List.cons_append, List.append_nil, List.length_cons, List.length_nil, Nat.add_zero, Nat.zero_add, Nat.reduceAdd]); rfl)) (by rintro _ _ rfl; repeat (first | exact .nil | refine .cons rfl ?_)) ?_
                rintro _ _ rfl
                refine DL.done ?_
                refine N.next ?_
                refine W.keep (.cons (k := 0) rfl (.cons (k := 1) rfl (.cons (k := 5) rfl (.cons (k := 9) rfl (.cons (k := 12) rfl (.cons (k := 13) rfl .nil)))))) (.cons (k := 0) rfl (.cons (k := 1) rfl (.cons (k := 2) rfl (.cons (k := 105) rfl (.cons (k := 112) rfl (.cons (k := 113) rfl .nil)))))) ?_
                refine W.seq ?_
                refine W.seq ?_
                refine W.draw (.q 0 (.q 1 (.q 2 (.q 3 (.q 4 (.q 5 (.q 6 (.q 7 (.q 8 (.q 9 (.q 10 (.q 11 (.q 12 (.q 13 (.q 14 .done))))))))))))))) (.cons (k := 0) rfl (.cons (k := 1) rfl (.cons (k := 2) rfl (.cons (k := 105) rfl (.cons (k := 112) rfl (.cons (k := 113) rfl .nil)))))) mix (by kernel_rfl) (by kernel_rfl) ?_
                refine DL.q rfl (Yld.move rfl) rfl ?_
                refine DL.q rfl (Yld.move rfl) rfl ?_
                refine DL.q rfl (Yld.indexRow Try.underlying22 sz42 rfl rfl (by first | assumption | exact Own.sl (by assumption)) (by first | rfl | omega | (simp; done) | (simp; omega)) (by omega) (by first | omega | (simp; done) | (simp; omega))) rfl ?_
                refine DL.q rfl (Yld.fieldAddr fo42_6 rfl) rfl ?_
                refine DL.q rfl (by first | exact Yld.loadRowF (cl := 113) (j := 11) Try.underlying3 rfl rfl rfl (by first | assumption | exact Own.sl (by assumption)) (by assumption) rfl | exact Yld.loadRowF (cl := 112) (j := 11) Try.underlying3 rfl rfl rfl (by first | assumption | exact Own.sl (by assumption)) (by assumption) rfl | exact Yld.loadRowF (cl := 1) (j := 11) Try.underlying3 rfl rfl rfl (by first | assumption | exact Own.sl (by assumption)) (by assumption) rfl | exact Yld.loadRowF (cl := 2) (j := 11) Try.underlying3 rfl rfl rfl (by first | assumption | exact Own.sl (by assumption)) (by assumption) rfl | exact Yld.loadRowF (cl := 105) (j := 11) Try.underlying3 rfl rfl rfl (by first | assumption | exact Own.sl (by assumption)) (by assumption) rfl) rfl ?_
                refine DL.q rfl (Yld.bin rfl rfl BinV.geq) rfl ?_
                refine DL.q rfl (Yld.move rfl) rfl ?_
                refine' DL.and (t := 93) (d := 101) 8 rfl (.cons (k := 0) rfl (.cons (k := 1) rfl (.cons (k := 5) rfl (.cons (k := 9) rfl (.cons (k := 12) rfl (.cons (k := 13) rfl (.cons (k := 87) rfl (.cons (k := 88) rfl (.cons (k := 89) rfl (.cons (k := 90) rfl (.cons (k := 91) rfl (.cons (k := 92) rfl .nil)))))))))))) (.cons (k := 0) rfl (.cons (k := 1) rfl (.cons (k := 2) rfl (.cons (k := 105) rfl (.cons (k := 112) rfl (.cons (k := 113) rfl .nil)))))) ?_ ?_ ?_
                rotate_left 1
                ·
                  intro hg93
                  refine DL.gq rfl rfl rfl (Yld.loadW (c := 113) Try.underlying40 rfl sz40 rfl rfl (by first | exact single_self _ _ | exact pset_self _ _ _ | assumption) rfl) rfl ?_
                  refine DL.gq rfl rfl rfl (Yld.move rfl) rfl ?_
                  refine DL.gq rfl rfl rfl (Yld.move rfl) rfl ?_
                  refine DL.gq rfl rfl rfl (Yld.indexRow Try.underlying22 sz42 rfl rfl (by first | assumption | exact Own.sl (by assumption)) (by first | rfl | omega | (simp; done) | (simp; omega)) (by omega) (by first | omega | (simp; done) | (simp; omega))) rfl ?_
                  refine DL.gq rfl rfl rfl (Yld.fieldAddr fo42_4 rfl) rfl ?_
                  refine DL.gq rfl rfl rfl (by first | exact Yld.loadRowP (cl := 113) (j := 7) Try.underlying40 rfl sz40 rfl rfl (by first | assumption | exact Own.sl (by assumption)) (by assumption) rfl rfl | exact Yld.loadRowP (cl := 112) (j := 7) Try.underlying40 rfl sz40 rfl rfl (by first | assumption | exact Own.sl (by assumption)) (by assumption) rfl rfl | exact Yld.loadRowP (cl := 1) (j := 7) Try.underlying40 rfl sz40 rfl rfl (by first | assumption | exact Own.sl (by assumption)) (by assumption) rfl rfl | exact Yld.loadRowP (cl := 2) (j := 7) Try.underlying40 rfl sz40 rfl rfl (by first | assumption | exact Own.sl (by assumption)) (by assumption) rfl rfl | exact Yld.loadRowP (cl := 105) (j := 7) Try.underlying40 rfl sz40 rfl rfl (by first | assumption | exact Own.sl (by assumption)) (by assumption) rfl rfl) rfl ?_
                  refine DL.gq rfl rfl rfl (Yld.bin rfl rfl (BinV.neqT eqg40 (EqV.struct Try.underlying40 sih40 (EqF.cons rfl (PartV.one Try.underlying26 rfl rfl) (PartV.one Try.underlying26 rfl rfl) (EqV.int Try.underlying26) (EqF.cons rfl (PartV.one Try.underlying4 rfl rfl) (PartV.one Try.underlying4 rfl rfl) (EqV.bool Try.underlying4) (EqF.cons rfl (PartV.one Try.underlying2 rfl rfl) (PartV.one Try.underlying2 rfl rfl) (EqV.int Try.underlying2) EqF.nil)))))) rfl ?_
                  refine DL.q rfl (by first | exact Yld.pickT rfl rfl | exact Yld.pickF rfl rfl) rfl ?_
                  exact DL.meet (.cons rfl (.cons rfl (.cons rfl (.cons rfl (.cons rfl (.cons rfl (.cons rfl (.cons rfl (.cons rfl (.cons rfl (.cons rfl (.cons rfl (.cons rfl .nil))))))))))))) (.cons rfl (.cons rfl (.cons rfl (.cons rfl (.cons rfl (.cons rfl .nil))))))
                ·
                  intro hg93
                  refine DL.gskip rfl rfl rfl rfl rfl ?_
                  refine DL.gskip rfl rfl rfl rfl rfl ?_
                  refine DL.gskip rfl rfl rfl rfl rfl ?_
                  refine DL.gskip rfl rfl rfl rfl rfl ?_
                  refine DL.gskip rfl rfl rfl rfl rfl ?_
                  refine DL.gskip rfl rfl rfl rfl rfl ?_
                  refine DL.gskip rfl rfl rfl rfl rfl ?_
                  refine DL.q rfl (by first | exact Yld.pickT rfl rfl | exact Yld.pickF rfl rfl) rfl ?_
                  exact DL.meet (.cons rfl (.cons rfl (.cons rfl (.cons rfl (.cons rfl (.cons rfl (.cons rfl (.cons rfl (.cons rfl (.cons rfl (.cons rfl (.cons rfl (.cons rfl .nil))))))))))))) (.cons rfl (.cons rfl (.cons rfl (.cons rfl (.cons rfl (.cons rfl .nil))))))
                refine DL.done ?_
                refine N.next ?_
                refine W.keep (.cons (k := 0) rfl (.cons (k := 1) rfl (.cons (k := 5) rfl (.cons (k := 9) rfl (.cons (k := 12) rfl (.cons (k := 101) rfl .nil)))))) (.cons (k := 0) rfl (.cons (k := 1) rfl (.cons (k := 2) rfl (.cons (k := 105) rfl (.cons (k := 112) rfl (.cons (k := 113) rfl .nil)))))) ?_
                refine W.cond rfl (fun hc101 => ?_) (fun hc101 => ?_)
                ·
                  have hno : ¬ okR o (doL c o).2 := fun h => by rw [okR_b.2 h] at hc101; cases hc101
                  refine W.exit ?_
                  refine N.then_exit ?_
                  refine N.block_eq ?_
                  refine N.next ?_
                  refine W.region ?_
                  refine RL.q (Yld.move rfl) rfl ?_
                  refine RL.q (Yld.bin rfl rfl (by first | exact BinV.add (by omega) (by omega) | exact BinV.addW)) rfl ?_
                  refine RL.q (Yld.assign rfl) rfl ?_
                  refine RL.nil ?_
                  exact N.famK (j + 1) ⟨⟨by omega, upS hcy ho (fun h => hno h.2.1)⟩, by omega⟩ (.as rfl (by first | rfl | (simp; done) | (congr 1; simp; done) | (congr 1; omega)) .nil) (.cons rfl (.cons rfl (.cons rfl .nil))) .nil (.cons rfl (.cons rfl (.cons rfl (.cons rfl .nil))))
                ·
                  have hok : okR o (doL c o).2 := okR_b.1 hc101
                  refine W.skip ?_
                  refine N.next ?_
                  refine W.seq ?_
                  refine W.region ?_
                  refine RL.e (Eff.buildSlice 202 Try.underlying57 sz4 zc4 rfl rfl .nil rfl) rfl ?_
                  rintro _ _ ⟨b102, rfl, rfl⟩
                  refine RL.q (Yld.move rfl) rfl ?_
                  refine RL.e (Eff.appendE (tc := 202) (sc := 2) (ms := (usl l.length t)) (fun b : Bool => [Value.bool b]) Try.underlying57 el4 rfl rfl rfl rfl (bl_none rfl) rfl hU (by simp) (by simp [Value.oneCell']) (by decide) (by simp; omega) (by simp [maxLen]; omega)) rfl ?_
                  rintro _ _ ⟨Ha, pa, ca, rfl, hOa0, rfl⟩
                  have hOa : Own Ha pa ca 4 1 (us l.length t) := hOa0
                  rw [show (([] : List Bool) ++ usl l.length t).length = l.length by simp]
                  refine RL.q (Yld.assign rfl) rfl ?_
                  refine RL.nil ?_
                  refine N.next ?_
                  refine W.keep (.cons (k := 0) rfl (.cons (k := 1) rfl (.cons (k := 5) rfl (.cons (k := 9) rfl (.cons (k := 12) rfl (.cons (k := 14) rfl .nil)))))) (.cons (k := 0) rfl (.cons (k := 1) rfl (.cons (k := 2) rfl (.cons (k := 105) rfl (.cons (k := 112) rfl (.cons (k := 113) rfl (.cons (k := 202) rfl .nil))))))) ?_
                  refine W.seq ?_
                  refine W.region ?_
                  refine RL.q (Yld.move rfl) rfl ?_
                  refine RL.q (Yld.move rfl) rfl ?_
                  refine RL.q (Yld.indexRow Try.underlying57 sz4 rfl rfl (by first | assumption | exact Own.sl (by assumption)) (by first | rfl | omega | (simp; done) | (simp; omega)) (by omega) (by first | omega | (simp; done) | (simp; omega))) rfl ?_
                  refine RL.e0 (Eff.storeRow (tc := 202) (j := 0) sz4 rfl rfl rfl hOa hlu rfl rfl rfl rfl rfl) ?_
                  rintro _ _ ⟨Hb, hOb, rfl⟩
                  have hUb : Own Hb pa ca 4 1 (us l.length (addB t j)) := by rw [← us_set]; exact hOb
                  refine RL.nil ?_
                  refine N.next ?_
                  refine W.seq ?_
                  refine W.region ?_
                  refine RL.q (Yld.move rfl) rfl ?_
                  refine RL.q (Yld.move rfl) rfl ?_
                  refine RL.q (Yld.loadW (c := 112) Try.underlying59 rfl sz59 rfl rfl (by first | exact single_self _ _ | exact pset_self _ _ _ | assumption) rfl) rfl ?_
                  refine RL.e (Eff.call ent31 [1, 202] [1, 202] (.cons rfl (.cons rfl (.cons rfl .nil))) (ih (addB t j) (doL c o).1 _ _ _ (by omega) (addB_lt ht (by omega)) hUb.sl) rfl rfl rfl rfl (by rintro _ _ ⟨_, rfl⟩; rfl)) rfl ?_
                  rintro _ _ ⟨_, ⟨rfl, rfl⟩, rfl⟩
                  refine RL.nil ?_
                  refine N.next ?_
                  refine W.keep (.cons (k := 0) rfl (.cons (k := 1) rfl (.cons (k := 5) rfl (.cons (k := 9) rfl (.cons (k := 111) rfl .nil))))) (.cons (k := 0) rfl (.cons (k := 1) rfl (.cons (k := 2) rfl (.cons (k := 105) rfl (.cons (k := 112) rfl (.cons (k := 113) rfl (.cons (k := 202) rfl .nil))))))) ?_
                  refine W.cond rfl (fun hc111 => ?_) (fun hc111 => ?_)
                  ·
                    have hlv := liveB_iff.1 hc111
                    refine W.seq ?_
                    refine W.region ?_
                    refine RL.q (Yld.assign rfl) rfl ?_
                    refine RL.nil ?_
                    refine N.next ?_
                    refine W.keep (.cons (k := 6) rfl .nil) (.cons (k := 0) rfl (.cons (k := 1) rfl (.cons (k := 2) rfl (.cons (k := 105) rfl (.cons (k := 112) rfl (.cons (k := 113) rfl (.cons (k := 202) rfl .nil))))))) ?_
                    refine W.ret ?_
                    refine N.block_ret ?_
                    refine N.then_ret ?_
                    refine N.then_ret ?_
                    refine N.block_ret ?_
                    refine N.then_ret ?_
                    exact N.retBy [1, 2] (.cons (.tmp rfl) .nil) rfl rfl rfl rfl ⟨by rw [liveB_iff.2 (Live.step ho hf hok hlv)]; rfl, rfl⟩
                  ·
                    have hnl : ¬ Live l (addB t j) (doL c o).1 := fun h => by rw [liveB_iff.2 h] at hc111; cases hc111
                    refine W.skip ?_
                    refine N.block_normal ?_
                    refine N.next ?_
                    refine W.region ?_
                    refine RL.q (Yld.move rfl) rfl ?_
                    refine RL.q (Yld.bin rfl rfl (by first | exact BinV.add (by omega) (by omega) | exact BinV.addW)) rfl ?_
                    refine RL.q (Yld.assign rfl) rfl ?_
                    refine RL.nil ?_
                    exact N.famK (j + 1) ⟨⟨by omega, upS hcy ho (fun h => hnl h.2.2)⟩, by omega⟩ (.as rfl (by first | rfl | (simp; done) | (congr 1; simp; done) | (congr 1; omega)) .nil) (.cons rfl (.cons rfl (.cons rfl .nil))) .nil (.cons rfl (.cons rfl (.cons rfl (.cons rfl .nil))))
            ·
              refine DL.one rfl (Eff.alloc 113 zc40) rfl (by rintro _ _ ⟨b13, rfl, rfl⟩; repeat (first | exact .nil | refine .cons rfl ?_)) ?_
              rintro _ _ ⟨b13, rfl, rfl⟩
              refine DL.two ?_ ?_
              ·
                refine DL.one rfl (Eff.call ent33 [] [] (.cons rfl (.cons rfl .nil)) (rdo_ct c o) rfl rfl rfl rfl (by rintro _ _ ⟨_, rfl⟩; rfl)) rfl (by rintro _ _ ⟨_, ⟨rfl, rfl⟩, rfl⟩; repeat (first | exact .nil | refine .cons rfl ?_)) ?_
                rintro _ _ ⟨_, ⟨rfl, rfl⟩, rfl⟩
                refine DL.q rfl (Yld.move rfl) rfl ?_
                refine DL.q rfl (Yld.extract rfl rfl) rfl ?_
                refine DL.q rfl (Yld.extract rfl rfl) rfl ?_
                refine DL.one rfl (Eff.alloc 112 zc59) rfl (by rintro _ _ ⟨b12, rfl, rfl⟩; repeat (first | exact .nil | refine .cons rfl ?_)) ?_
                rintro _ _ ⟨b12, rfl, rfl⟩
                refine DL.one0 rfl (Eff.storeS (c := 112) _ sz59 rfl rfl rfl rfl rfl rfl rfl (by (try simp only [putAt, List.take, List.drop, List.nil_append, List.cons_append, List.append_nil, List.length_cons, List.length_nil, Nat.add_zero, Nat.zero_add, Nat.reduceAdd]); rfl)) (by rintro _ _ rfl; repeat (first | exact .nil | refine .cons rfl ?_)) ?_
                rintro _ _ rfl
                refine DL.one0 rfl (Eff.storeS (c := 113) _ sz40 rfl rfl rfl rfl rfl rfl rfl (by (try simp only [putAt, List.take, List.drop, List.nil_append, List.cons_append, List.append_nil, List.length_cons, List.length_nil, Nat.add_zero, Nat.zero_add, Nat.reduceAdd]); rfl)) (by rintro _ _ rfl; repeat (first | exact .nil | refine .cons rfl ?_)) ?_
                rintro _ _ rfl
                refine DL.done ?_
                refine N.next ?_
                refine W.keep (.cons (k := 0) rfl (.cons (k := 1) rfl (.cons (k := 5) rfl (.cons (k := 9) rfl (.cons (k := 12) rfl (.cons (k := 13) rfl .nil)))))) (.cons (k := 0) rfl (.cons (k := 1) rfl (.cons (k := 2) rfl (.cons (k := 105) rfl (.cons (k := 112) rfl (.cons (k := 113) rfl .nil)))))) ?_
                refine W.seq ?_
                refine W.seq ?_
                refine W.draw (.q 0 (.q 1 (.q 2 (.q 3 (.q 4 (.q 5 (.q 6 (.q 7 (.q 8 (.q 9 (.q 10 (.q 11 (.q 12 (.q 13 (.q 14 .done))))))))))))))) (.cons (k := 0) rfl (.cons (k := 1) rfl (.cons (k := 2) rfl (.cons (k := 105) rfl (.cons (k := 112) rfl (.cons (k := 113) rfl .nil)))))) mix (by kernel_rfl) (by kernel_rfl) ?_
                refine DL.q rfl (Yld.move rfl) rfl ?_
                refine DL.q rfl (Yld.move rfl) rfl ?_
                refine DL.q rfl (Yld.indexRow Try.underlying22 sz42 rfl rfl (by first | assumption | exact Own.sl (by assumption)) (by first | rfl | omega | (simp; done) | (simp; omega)) (by omega) (by first | omega | (simp; done) | (simp; omega))) rfl ?_
                refine DL.q rfl (Yld.fieldAddr fo42_6 rfl) rfl ?_
                refine DL.q rfl (by first | exact Yld.loadRowF (cl := 112) (j := 11) Try.underlying3 rfl rfl rfl (by first | assumption | exact Own.sl (by assumption)) (by assumption) rfl | exact Yld.loadRowF (cl := 113) (j := 11) Try.underlying3 rfl rfl rfl (by first | assumption | exact Own.sl (by assumption)) (by assumption) rfl | exact Yld.loadRowF (cl := 1) (j := 11) Try.underlying3 rfl rfl rfl (by first | assumption | exact Own.sl (by assumption)) (by assumption) rfl | exact Yld.loadRowF (cl := 2) (j := 11) Try.underlying3 rfl rfl rfl (by first | assumption | exact Own.sl (by assumption)) (by assumption) rfl | exact Yld.loadRowF (cl := 105) (j := 11) Try.underlying3 rfl rfl rfl (by first | assumption | exact Own.sl (by assumption)) (by assumption) rfl) rfl ?_
                refine DL.q rfl (Yld.bin rfl rfl BinV.geq) rfl ?_
                refine DL.q rfl (Yld.move rfl) rfl ?_
                refine' DL.and (t := 93) (d := 101) 8 rfl (.cons (k := 0) rfl (.cons (k := 1) rfl (.cons (k := 5) rfl (.cons (k := 9) rfl (.cons (k := 12) rfl (.cons (k := 13) rfl (.cons (k := 87) rfl (.cons (k := 88) rfl (.cons (k := 89) rfl (.cons (k := 90) rfl (.cons (k := 91) rfl (.cons (k := 92) rfl .nil)))))))))))) (.cons (k := 0) rfl (.cons (k := 1) rfl (.cons (k := 2) rfl (.cons (k := 105) rfl (.cons (k := 112) rfl (.cons (k := 113) rfl .nil)))))) ?_ ?_ ?_
                rotate_left 1
                ·
                  intro hg93
                  refine DL.gq rfl rfl rfl (Yld.loadW (c := 113) Try.underlying40 rfl sz40 rfl rfl (by first | exact single_self _ _ | exact pset_self _ _ _ | assumption) rfl) rfl ?_
                  refine DL.gq rfl rfl rfl (Yld.move rfl) rfl ?_
                  refine DL.gq rfl rfl rfl (Yld.move rfl) rfl ?_
                  refine DL.gq rfl rfl rfl (Yld.indexRow Try.underlying22 sz42 rfl rfl (by first | assumption | exact Own.sl (by assumption)) (by first | rfl | omega | (simp; done) | (simp; omega)) (by omega) (by first | omega | (simp; done) | (simp; omega))) rfl ?_
                  refine DL.gq rfl rfl rfl (Yld.fieldAddr fo42_4 rfl) rfl ?_
                  refine DL.gq rfl rfl rfl (by first | exact Yld.loadRowP (cl := 112) (j := 7) Try.underlying40 rfl sz40 rfl rfl (by first | assumption | exact Own.sl (by assumption)) (by assumption) rfl rfl | exact Yld.loadRowP (cl := 113) (j := 7) Try.underlying40 rfl sz40 rfl rfl (by first | assumption | exact Own.sl (by assumption)) (by assumption) rfl rfl | exact Yld.loadRowP (cl := 1) (j := 7) Try.underlying40 rfl sz40 rfl rfl (by first | assumption | exact Own.sl (by assumption)) (by assumption) rfl rfl | exact Yld.loadRowP (cl := 2) (j := 7) Try.underlying40 rfl sz40 rfl rfl (by first | assumption | exact Own.sl (by assumption)) (by assumption) rfl rfl | exact Yld.loadRowP (cl := 105) (j := 7) Try.underlying40 rfl sz40 rfl rfl (by first | assumption | exact Own.sl (by assumption)) (by assumption) rfl rfl) rfl ?_
                  refine DL.gq rfl rfl rfl (Yld.bin rfl rfl (BinV.neqT eqg40 (EqV.struct Try.underlying40 sih40 (EqF.cons rfl (PartV.one Try.underlying26 rfl rfl) (PartV.one Try.underlying26 rfl rfl) (EqV.int Try.underlying26) (EqF.cons rfl (PartV.one Try.underlying4 rfl rfl) (PartV.one Try.underlying4 rfl rfl) (EqV.bool Try.underlying4) (EqF.cons rfl (PartV.one Try.underlying2 rfl rfl) (PartV.one Try.underlying2 rfl rfl) (EqV.int Try.underlying2) EqF.nil)))))) rfl ?_
                  refine DL.q rfl (by first | exact Yld.pickT rfl rfl | exact Yld.pickF rfl rfl) rfl ?_
                  exact DL.meet (.cons rfl (.cons rfl (.cons rfl (.cons rfl (.cons rfl (.cons rfl (.cons rfl (.cons rfl (.cons rfl (.cons rfl (.cons rfl (.cons rfl (.cons rfl .nil))))))))))))) (.cons rfl (.cons rfl (.cons rfl (.cons rfl (.cons rfl (.cons rfl .nil))))))
                ·
                  intro hg93
                  refine DL.gskip rfl rfl rfl rfl rfl ?_
                  refine DL.gskip rfl rfl rfl rfl rfl ?_
                  refine DL.gskip rfl rfl rfl rfl rfl ?_
                  refine DL.gskip rfl rfl rfl rfl rfl ?_
                  refine DL.gskip rfl rfl rfl rfl rfl ?_
                  refine DL.gskip rfl rfl rfl rfl rfl ?_
                  refine DL.gskip rfl rfl rfl rfl rfl ?_
                  refine DL.q rfl (by first | exact Yld.pickT rfl rfl | exact Yld.pickF rfl rfl) rfl ?_
                  exact DL.meet (.cons rfl (.cons rfl (.cons rfl (.cons rfl (.cons rfl (.cons rfl (.cons rfl (.cons rfl (.cons rfl (.cons rfl (.cons rfl (.cons rfl (.cons rfl .nil))))))))))))) (.cons rfl (.cons rfl (.cons rfl (.cons rfl (.cons rfl (.cons rfl .nil))))))
                refine DL.done ?_
                refine N.next ?_
                refine W.keep (.cons (k := 0) rfl (.cons (k := 1) rfl (.cons (k := 5) rfl (.cons (k := 9) rfl (.cons (k := 12) rfl (.cons (k := 101) rfl .nil)))))) (.cons (k := 0) rfl (.cons (k := 1) rfl (.cons (k := 2) rfl (.cons (k := 105) rfl (.cons (k := 112) rfl (.cons (k := 113) rfl .nil)))))) ?_
                refine W.cond rfl (fun hc101 => ?_) (fun hc101 => ?_)
                ·
                  have hno : ¬ okR o (doL c o).2 := fun h => by rw [okR_b.2 h] at hc101; cases hc101
                  refine W.exit ?_
                  refine N.then_exit ?_
                  refine N.block_eq ?_
                  refine N.next ?_
                  refine W.region ?_
                  refine RL.q (Yld.move rfl) rfl ?_
                  refine RL.q (Yld.bin rfl rfl (by first | exact BinV.add (by omega) (by omega) | exact BinV.addW)) rfl ?_
                  refine RL.q (Yld.assign rfl) rfl ?_
                  refine RL.nil ?_
                  exact N.famK (j + 1) ⟨⟨by omega, upS hcy ho (fun h => hno h.2.1)⟩, by omega⟩ (.as rfl (by first | rfl | (simp; done) | (congr 1; simp; done) | (congr 1; omega)) .nil) (.cons rfl (.cons rfl (.cons rfl .nil))) .nil (.cons rfl (.cons rfl (.cons rfl (.cons rfl .nil))))
                ·
                  have hok : okR o (doL c o).2 := okR_b.1 hc101
                  refine W.skip ?_
                  refine N.next ?_
                  refine W.seq ?_
                  refine W.region ?_
                  refine RL.e (Eff.buildSlice 202 Try.underlying57 sz4 zc4 rfl rfl .nil rfl) rfl ?_
                  rintro _ _ ⟨b102, rfl, rfl⟩
                  refine RL.q (Yld.move rfl) rfl ?_
                  refine RL.e (Eff.appendE (tc := 202) (sc := 2) (ms := (usl l.length t)) (fun b : Bool => [Value.bool b]) Try.underlying57 el4 rfl rfl rfl rfl (bl_none rfl) rfl hU (by simp) (by simp [Value.oneCell']) (by decide) (by simp; omega) (by simp [maxLen]; omega)) rfl ?_
                  rintro _ _ ⟨Ha, pa, ca, rfl, hOa0, rfl⟩
                  have hOa : Own Ha pa ca 4 1 (us l.length t) := hOa0
                  rw [show (([] : List Bool) ++ usl l.length t).length = l.length by simp]
                  refine RL.q (Yld.assign rfl) rfl ?_
                  refine RL.nil ?_
                  refine N.next ?_
                  refine W.keep (.cons (k := 0) rfl (.cons (k := 1) rfl (.cons (k := 5) rfl (.cons (k := 9) rfl (.cons (k := 12) rfl (.cons (k := 14) rfl .nil)))))) (.cons (k := 0) rfl (.cons (k := 1) rfl (.cons (k := 2) rfl (.cons (k := 105) rfl (.cons (k := 112) rfl (.cons (k := 113) rfl (.cons (k := 202) rfl .nil))))))) ?_
                  refine W.seq ?_
                  refine W.region ?_
                  refine RL.q (Yld.move rfl) rfl ?_
                  refine RL.q (Yld.move rfl) rfl ?_
                  refine RL.q (Yld.indexRow Try.underlying57 sz4 rfl rfl (by first | assumption | exact Own.sl (by assumption)) (by first | rfl | omega | (simp; done) | (simp; omega)) (by omega) (by first | omega | (simp; done) | (simp; omega))) rfl ?_
                  refine RL.e0 (Eff.storeRow (tc := 202) (j := 0) sz4 rfl rfl rfl hOa hlu rfl rfl rfl rfl rfl) ?_
                  rintro _ _ ⟨Hb, hOb, rfl⟩
                  have hUb : Own Hb pa ca 4 1 (us l.length (addB t j)) := by rw [← us_set]; exact hOb
                  refine RL.nil ?_
                  refine N.next ?_
                  refine W.seq ?_
                  refine W.region ?_
                  refine RL.q (Yld.move rfl) rfl ?_
                  refine RL.q (Yld.move rfl) rfl ?_
                  refine RL.q (Yld.loadW (c := 112) Try.underlying59 rfl sz59 rfl rfl (by first | exact single_self _ _ | exact pset_self _ _ _ | assumption) rfl) rfl ?_
                  refine RL.e (Eff.call ent31 [1, 202] [1, 202] (.cons rfl (.cons rfl (.cons rfl .nil))) (ih (addB t j) (doL c o).1 _ _ _ (by omega) (addB_lt ht (by omega)) hUb.sl) rfl rfl rfl rfl (by rintro _ _ ⟨_, rfl⟩; rfl)) rfl ?_
                  rintro _ _ ⟨_, ⟨rfl, rfl⟩, rfl⟩
                  refine RL.nil ?_
                  refine N.next ?_
                  refine W.keep (.cons (k := 0) rfl (.cons (k := 1) rfl (.cons (k := 5) rfl (.cons (k := 9) rfl (.cons (k := 111) rfl .nil))))) (.cons (k := 0) rfl (.cons (k := 1) rfl (.cons (k := 2) rfl (.cons (k := 105) rfl (.cons (k := 112) rfl (.cons (k := 113) rfl (.cons (k := 202) rfl .nil))))))) ?_
                  refine W.cond rfl (fun hc111 => ?_) (fun hc111 => ?_)
                  ·
                    have hlv := liveB_iff.1 hc111
                    refine W.seq ?_
                    refine W.region ?_
                    refine RL.q (Yld.assign rfl) rfl ?_
                    refine RL.nil ?_
                    refine N.next ?_
                    refine W.keep (.cons (k := 6) rfl .nil) (.cons (k := 0) rfl (.cons (k := 1) rfl (.cons (k := 2) rfl (.cons (k := 105) rfl (.cons (k := 112) rfl (.cons (k := 113) rfl (.cons (k := 202) rfl .nil))))))) ?_
                    refine W.ret ?_
                    refine N.block_ret ?_
                    refine N.then_ret ?_
                    refine N.then_ret ?_
                    refine N.block_ret ?_
                    refine N.then_ret ?_
                    exact N.retBy [1, 2] (.cons (.tmp rfl) .nil) rfl rfl rfl rfl ⟨by rw [liveB_iff.2 (Live.step ho hf hok hlv)]; rfl, rfl⟩
                  ·
                    have hnl : ¬ Live l (addB t j) (doL c o).1 := fun h => by rw [liveB_iff.2 h] at hc111; cases hc111
                    refine W.skip ?_
                    refine N.block_normal ?_
                    refine N.next ?_
                    refine W.region ?_
                    refine RL.q (Yld.move rfl) rfl ?_
                    refine RL.q (Yld.bin rfl rfl (by first | exact BinV.add (by omega) (by omega) | exact BinV.addW)) rfl ?_
                    refine RL.q (Yld.assign rfl) rfl ?_
                    refine RL.nil ?_
                    exact N.famK (j + 1) ⟨⟨by omega, upS hcy ho (fun h => hnl h.2.2)⟩, by omega⟩ (.as rfl (by first | rfl | (simp; done) | (congr 1; simp; done) | (congr 1; omega)) .nil) (.cons rfl (.cons rfl (.cons rfl .nil))) .nil (.cons rfl (.cons rfl (.cons rfl (.cons rfl .nil))))
              ·
                refine DL.one rfl (Eff.alloc 112 zc59) rfl (by rintro _ _ ⟨b12, rfl, rfl⟩; repeat (first | exact .nil | refine .cons rfl ?_)) ?_
                rintro _ _ ⟨b12, rfl, rfl⟩
                refine DL.one rfl (Eff.call ent33 [] [] (.cons rfl (.cons rfl .nil)) (rdo_ct c o) rfl rfl rfl rfl (by rintro _ _ ⟨_, rfl⟩; rfl)) rfl (by rintro _ _ ⟨_, ⟨rfl, rfl⟩, rfl⟩; repeat (first | exact .nil | refine .cons rfl ?_)) ?_
                rintro _ _ ⟨_, ⟨rfl, rfl⟩, rfl⟩
                refine DL.q rfl (Yld.move rfl) rfl ?_
                refine DL.q rfl (Yld.extract rfl rfl) rfl ?_
                refine DL.q rfl (Yld.extract rfl rfl) rfl ?_
                refine DL.one0 rfl (Eff.storeS (c := 112) _ sz59 rfl rfl rfl rfl rfl rfl rfl (by (try simp only [putAt, List.take, List.drop, List.nil_append, List.cons_append, List.append_nil, List.length_cons, List.length_nil, Nat.add_zero, Nat.zero_add, Nat.reduceAdd]); rfl)) (by rintro _ _ rfl; repeat (first | exact .nil | refine .cons rfl ?_)) ?_
                rintro _ _ rfl
                refine DL.one0 rfl (Eff.storeS (c := 113) _ sz40 rfl rfl rfl rfl rfl rfl rfl (by (try simp only [putAt, List.take, List.drop, List.nil_append, List.cons_append, List.append_nil, List.length_cons, List.length_nil, Nat.add_zero, Nat.zero_add, Nat.reduceAdd]); rfl)) (by rintro _ _ rfl; repeat (first | exact .nil | refine .cons rfl ?_)) ?_
                rintro _ _ rfl
                refine DL.done ?_
                refine N.next ?_
                refine W.keep (.cons (k := 0) rfl (.cons (k := 1) rfl (.cons (k := 5) rfl (.cons (k := 9) rfl (.cons (k := 12) rfl (.cons (k := 13) rfl .nil)))))) (.cons (k := 0) rfl (.cons (k := 1) rfl (.cons (k := 2) rfl (.cons (k := 105) rfl (.cons (k := 112) rfl (.cons (k := 113) rfl .nil)))))) ?_
                refine W.seq ?_
                refine W.seq ?_
                refine W.draw (.q 0 (.q 1 (.q 2 (.q 3 (.q 4 (.q 5 (.q 6 (.q 7 (.q 8 (.q 9 (.q 10 (.q 11 (.q 12 (.q 13 (.q 14 .done))))))))))))))) (.cons (k := 0) rfl (.cons (k := 1) rfl (.cons (k := 2) rfl (.cons (k := 105) rfl (.cons (k := 112) rfl (.cons (k := 113) rfl .nil)))))) mix (by kernel_rfl) (by kernel_rfl) ?_
                refine DL.q rfl (Yld.move rfl) rfl ?_
                refine DL.q rfl (Yld.move rfl) rfl ?_
                refine DL.q rfl (Yld.indexRow Try.underlying22 sz42 rfl rfl (by first | assumption | exact Own.sl (by assumption)) (by first | rfl | omega | (simp; done) | (simp; omega)) (by omega) (by first | omega | (simp; done) | (simp; omega))) rfl ?_
                refine DL.q rfl (Yld.fieldAddr fo42_6 rfl) rfl ?_
                refine DL.q rfl (by first | exact Yld.loadRowF (cl := 112) (j := 11) Try.underlying3 rfl rfl rfl (by first | assumption | exact Own.sl (by assumption)) (by assumption) rfl | exact Yld.loadRowF (cl := 113) (j := 11) Try.underlying3 rfl rfl rfl (by first | assumption | exact Own.sl (by assumption)) (by assumption) rfl | exact Yld.loadRowF (cl := 1) (j := 11) Try.underlying3 rfl rfl rfl (by first | assumption | exact Own.sl (by assumption)) (by assumption) rfl | exact Yld.loadRowF (cl := 2) (j := 11) Try.underlying3 rfl rfl rfl (by first | assumption | exact Own.sl (by assumption)) (by assumption) rfl | exact Yld.loadRowF (cl := 105) (j := 11) Try.underlying3 rfl rfl rfl (by first | assumption | exact Own.sl (by assumption)) (by assumption) rfl) rfl ?_
                refine DL.q rfl (Yld.bin rfl rfl BinV.geq) rfl ?_
                refine DL.q rfl (Yld.move rfl) rfl ?_
                refine' DL.and (t := 93) (d := 101) 8 rfl (.cons (k := 0) rfl (.cons (k := 1) rfl (.cons (k := 5) rfl (.cons (k := 9) rfl (.cons (k := 12) rfl (.cons (k := 13) rfl (.cons (k := 87) rfl (.cons (k := 88) rfl (.cons (k := 89) rfl (.cons (k := 90) rfl (.cons (k := 91) rfl (.cons (k := 92) rfl .nil)))))))))))) (.cons (k := 0) rfl (.cons (k := 1) rfl (.cons (k := 2) rfl (.cons (k := 105) rfl (.cons (k := 112) rfl (.cons (k := 113) rfl .nil)))))) ?_ ?_ ?_
                rotate_left 1
                ·
                  intro hg93
                  refine DL.gq rfl rfl rfl (Yld.loadW (c := 113) Try.underlying40 rfl sz40 rfl rfl (by first | exact single_self _ _ | exact pset_self _ _ _ | assumption) rfl) rfl ?_
                  refine DL.gq rfl rfl rfl (Yld.move rfl) rfl ?_
                  refine DL.gq rfl rfl rfl (Yld.move rfl) rfl ?_
                  refine DL.gq rfl rfl rfl (Yld.indexRow Try.underlying22 sz42 rfl rfl (by first | assumption | exact Own.sl (by assumption)) (by first | rfl | omega | (simp; done) | (simp; omega)) (by omega) (by first | omega | (simp; done) | (simp; omega))) rfl ?_
                  refine DL.gq rfl rfl rfl (Yld.fieldAddr fo42_4 rfl) rfl ?_
                  refine DL.gq rfl rfl rfl (by first | exact Yld.loadRowP (cl := 112) (j := 7) Try.underlying40 rfl sz40 rfl rfl (by first | assumption | exact Own.sl (by assumption)) (by assumption) rfl rfl | exact Yld.loadRowP (cl := 113) (j := 7) Try.underlying40 rfl sz40 rfl rfl (by first | assumption | exact Own.sl (by assumption)) (by assumption) rfl rfl | exact Yld.loadRowP (cl := 1) (j := 7) Try.underlying40 rfl sz40 rfl rfl (by first | assumption | exact Own.sl (by assumption)) (by assumption) rfl rfl | exact Yld.loadRowP (cl := 2) (j := 7) Try.underlying40 rfl sz40 rfl rfl (by first | assumption | exact Own.sl (by assumption)) (by assumption) rfl rfl | exact Yld.loadRowP (cl := 105) (j := 7) Try.underlying40 rfl sz40 rfl rfl (by first | assumption | exact Own.sl (by assumption)) (by assumption) rfl rfl) rfl ?_
                  refine DL.gq rfl rfl rfl (Yld.bin rfl rfl (BinV.neqT eqg40 (EqV.struct Try.underlying40 sih40 (EqF.cons rfl (PartV.one Try.underlying26 rfl rfl) (PartV.one Try.underlying26 rfl rfl) (EqV.int Try.underlying26) (EqF.cons rfl (PartV.one Try.underlying4 rfl rfl) (PartV.one Try.underlying4 rfl rfl) (EqV.bool Try.underlying4) (EqF.cons rfl (PartV.one Try.underlying2 rfl rfl) (PartV.one Try.underlying2 rfl rfl) (EqV.int Try.underlying2) EqF.nil)))))) rfl ?_
                  refine DL.q rfl (by first | exact Yld.pickT rfl rfl | exact Yld.pickF rfl rfl) rfl ?_
                  exact DL.meet (.cons rfl (.cons rfl (.cons rfl (.cons rfl (.cons rfl (.cons rfl (.cons rfl (.cons rfl (.cons rfl (.cons rfl (.cons rfl (.cons rfl (.cons rfl .nil))))))))))))) (.cons rfl (.cons rfl (.cons rfl (.cons rfl (.cons rfl (.cons rfl .nil))))))
                ·
                  intro hg93
                  refine DL.gskip rfl rfl rfl rfl rfl ?_
                  refine DL.gskip rfl rfl rfl rfl rfl ?_
                  refine DL.gskip rfl rfl rfl rfl rfl ?_
                  refine DL.gskip rfl rfl rfl rfl rfl ?_
                  refine DL.gskip rfl rfl rfl rfl rfl ?_
                  refine DL.gskip rfl rfl rfl rfl rfl ?_
                  refine DL.gskip rfl rfl rfl rfl rfl ?_
                  refine DL.q rfl (by first | exact Yld.pickT rfl rfl | exact Yld.pickF rfl rfl) rfl ?_
                  exact DL.meet (.cons rfl (.cons rfl (.cons rfl (.cons rfl (.cons rfl (.cons rfl (.cons rfl (.cons rfl (.cons rfl (.cons rfl (.cons rfl (.cons rfl (.cons rfl .nil))))))))))))) (.cons rfl (.cons rfl (.cons rfl (.cons rfl (.cons rfl (.cons rfl .nil))))))
                refine DL.done ?_
                refine N.next ?_
                refine W.keep (.cons (k := 0) rfl (.cons (k := 1) rfl (.cons (k := 5) rfl (.cons (k := 9) rfl (.cons (k := 12) rfl (.cons (k := 101) rfl .nil)))))) (.cons (k := 0) rfl (.cons (k := 1) rfl (.cons (k := 2) rfl (.cons (k := 105) rfl (.cons (k := 112) rfl (.cons (k := 113) rfl .nil)))))) ?_
                refine W.cond rfl (fun hc101 => ?_) (fun hc101 => ?_)
                ·
                  have hno : ¬ okR o (doL c o).2 := fun h => by rw [okR_b.2 h] at hc101; cases hc101
                  refine W.exit ?_
                  refine N.then_exit ?_
                  refine N.block_eq ?_
                  refine N.next ?_
                  refine W.region ?_
                  refine RL.q (Yld.move rfl) rfl ?_
                  refine RL.q (Yld.bin rfl rfl (by first | exact BinV.add (by omega) (by omega) | exact BinV.addW)) rfl ?_
                  refine RL.q (Yld.assign rfl) rfl ?_
                  refine RL.nil ?_
                  exact N.famK (j + 1) ⟨⟨by omega, upS hcy ho (fun h => hno h.2.1)⟩, by omega⟩ (.as rfl (by first | rfl | (simp; done) | (congr 1; simp; done) | (congr 1; omega)) .nil) (.cons rfl (.cons rfl (.cons rfl .nil))) .nil (.cons rfl (.cons rfl (.cons rfl (.cons rfl .nil))))
                ·
                  have hok : okR o (doL c o).2 := okR_b.1 hc101
                  refine W.skip ?_
                  refine N.next ?_
                  refine W.seq ?_
                  refine W.region ?_
                  refine RL.e (Eff.buildSlice 202 Try.underlying57 sz4 zc4 rfl rfl .nil rfl) rfl ?_
                  rintro _ _ ⟨b102, rfl, rfl⟩
                  refine RL.q (Yld.move rfl) rfl ?_
                  refine RL.e (Eff.appendE (tc := 202) (sc := 2) (ms := (usl l.length t)) (fun b : Bool => [Value.bool b]) Try.underlying57 el4 rfl rfl rfl rfl (bl_none rfl) rfl hU (by simp) (by simp [Value.oneCell']) (by decide) (by simp; omega) (by simp [maxLen]; omega)) rfl ?_
                  rintro _ _ ⟨Ha, pa, ca, rfl, hOa0, rfl⟩
                  have hOa : Own Ha pa ca 4 1 (us l.length t) := hOa0
                  rw [show (([] : List Bool) ++ usl l.length t).length = l.length by simp]
                  refine RL.q (Yld.assign rfl) rfl ?_
                  refine RL.nil ?_
                  refine N.next ?_
                  refine W.keep (.cons (k := 0) rfl (.cons (k := 1) rfl (.cons (k := 5) rfl (.cons (k := 9) rfl (.cons (k := 12) rfl (.cons (k := 14) rfl .nil)))))) (.cons (k := 0) rfl (.cons (k := 1) rfl (.cons (k := 2) rfl (.cons (k := 105) rfl (.cons (k := 112) rfl (.cons (k := 113) rfl (.cons (k := 202) rfl .nil))))))) ?_
                  refine W.seq ?_
                  refine W.region ?_
                  refine RL.q (Yld.move rfl) rfl ?_
                  refine RL.q (Yld.move rfl) rfl ?_
                  refine RL.q (Yld.indexRow Try.underlying57 sz4 rfl rfl (by first | assumption | exact Own.sl (by assumption)) (by first | rfl | omega | (simp; done) | (simp; omega)) (by omega) (by first | omega | (simp; done) | (simp; omega))) rfl ?_
                  refine RL.e0 (Eff.storeRow (tc := 202) (j := 0) sz4 rfl rfl rfl hOa hlu rfl rfl rfl rfl rfl) ?_
                  rintro _ _ ⟨Hb, hOb, rfl⟩
                  have hUb : Own Hb pa ca 4 1 (us l.length (addB t j)) := by rw [← us_set]; exact hOb
                  refine RL.nil ?_
                  refine N.next ?_
                  refine W.seq ?_
                  refine W.region ?_
                  refine RL.q (Yld.move rfl) rfl ?_
                  refine RL.q (Yld.move rfl) rfl ?_
                  refine RL.q (Yld.loadW (c := 112) Try.underlying59 rfl sz59 rfl rfl (by first | exact single_self _ _ | exact pset_self _ _ _ | assumption) rfl) rfl ?_
                  refine RL.e (Eff.call ent31 [1, 202] [1, 202] (.cons rfl (.cons rfl (.cons rfl .nil))) (ih (addB t j) (doL c o).1 _ _ _ (by omega) (addB_lt ht (by omega)) hUb.sl) rfl rfl rfl rfl (by rintro _ _ ⟨_, rfl⟩; rfl)) rfl ?_
                  rintro _ _ ⟨_, ⟨rfl, rfl⟩, rfl⟩
                  refine RL.nil ?_
                  refine N.next ?_
                  refine W.keep (.cons (k := 0) rfl (.cons (k := 1) rfl (.cons (k := 5) rfl (.cons (k := 9) rfl (.cons (k := 111) rfl .nil))))) (.cons (k := 0) rfl (.cons (k := 1) rfl (.cons (k := 2) rfl (.cons (k := 105) rfl (.cons (k := 112) rfl (.cons (k := 113) rfl (.cons (k := 202) rfl .nil))))))) ?_
                  refine W.cond rfl (fun hc111 => ?_) (fun hc111 => ?_)
                  ·
                    have hlv := liveB_iff.1 hc111
                    refine W.seq ?_
                    refine W.region ?_
                    refine RL.q (Yld.assign rfl) rfl ?_
                    refine RL.nil ?_
                    refine N.next ?_
                    refine W.keep (.cons (k := 6) rfl .nil) (.cons (k := 0) rfl (.cons (k := 1) rfl (.cons (k := 2) rfl (.cons (k := 105) rfl (.cons (k := 112) rfl (.cons (k := 113) rfl (.cons (k := 202) rfl .nil))))))) ?_
                    refine W.ret ?_
                    refine N.block_ret ?_
                    refine N.then_ret ?_
                    refine N.then_ret ?_
                    refine N.block_ret ?_
                    refine N.then_ret ?_
                    exact N.retBy [1, 2] (.cons (.tmp rfl) .nil) rfl rfl rfl rfl ⟨by rw [liveB_iff.2 (Live.step ho hf hok hlv)]; rfl, rfl⟩
                  ·
                    have hnl : ¬ Live l (addB t j) (doL c o).1 := fun h => by rw [liveB_iff.2 h] at hc111; cases hc111
                    refine W.skip ?_
                    refine N.block_normal ?_
                    refine N.next ?_
                    refine W.region ?_
                    refine RL.q (Yld.move rfl) rfl ?_
                    refine RL.q (Yld.bin rfl rfl (by first | exact BinV.add (by omega) (by omega) | exact BinV.addW)) rfl ?_
                    refine RL.q (Yld.assign rfl) rfl ?_
                    refine RL.nil ?_
                    exact N.famK (j + 1) ⟨⟨by omega, upS hcy ho (fun h => hnl h.2.2)⟩, by omega⟩ (.as rfl (by first | rfl | (simp; done) | (congr 1; simp; done) | (congr 1; omega)) .nil) (.cons rfl (.cons rfl (.cons rfl .nil))) .nil (.cons rfl (.cons rfl (.cons rfl (.cons rfl .nil))))
      ·
        have hdead : ¬ Live l t c := fun h => (live_iff.1 h).elim hdn (fun ⟨k, a, ha, h2⟩ => hcy k a (by have := (List.getElem?_eq_some_iff.1 ha).1; omega) ha h2)
        refine W.exit ?_
        refine N.then_exit ?_
        refine N.then_exit ?_
        refine N.block_eq ?_
        refine N.next ?_
        refine W.keep .nil (.cons (k := 0) rfl (.cons (k := 1) rfl (.cons (k := 2) rfl (.cons (k := 105) rfl .nil)))) ?_
        refine W.seq ?_
        refine W.region ?_
        refine RL.q (Yld.assign rfl) rfl ?_
        refine RL.nil ?_
        refine N.next ?_
        refine W.ret ?_
        exact N.retBy [1, 2] (.cons (.tmp rfl) .nil) rfl rfl rfl rfl ⟨by rw [liveB_not hdead]; rfl, rfl⟩

theorem rsearch_all (l : List O) (hn60 : l.length ≤ 60) (H1 : PH) (p : Option Addr) (c0 : Nat) (hS : Sl H1 p c0 12 (l.map O.c)) : ∀ (k : Nat) (t : Nat) (c : Cell) (HU : PH) (q : Option Addr) (d : Nat), cnt l.length t < k → t < 2 ^ 60 → Sl HU q d 1 (us l.length t) → Ct Try.prog 31 [.slice p (l.map O.c).length c0, .slice q l.length d, .agg [.bool c.1, .int .i64 c.2].toArray] [H1, HU] (fun v Hs => v = .bool (liveB l t c) ∧ Hs = [H1, HU]) := by
  intro k
  induction k with
  | zero => intro t c HU q d h; exact absurd h (Nat.not_lt_zero _)
  | succ k ih =>
    intro t c HU q d hk ht hU
    exact rsearch_step l hn60 H1 p c0 hS t ht c HU q d hU fun t' c' HU' q' d' h1 h2 h3 => ih t' c' HU' q' d' (by omega) h2 h3
theorem rsearch_ct (l : List O) (hn60 : l.length ≤ 60) (H1 : PH) (p : Option Addr) (c0 : Nat) (hS : Sl H1 p c0 12 (l.map O.c)) (t : Nat) (ht : t < 2 ^ 60) (c : Cell) (HU : PH) (q : Option Addr) (d : Nat) (hU : Sl HU q d 1 (us l.length t)) : Ct Try.prog 31 [.slice p (l.map O.c).length c0, .slice q l.length d, .agg [.bool c.1, .int .i64 c.2].toArray] [H1, HU] (fun v Hs => v = .bool (liveB l t c) ∧ Hs = [H1, HU]) :=
  rsearch_all l hn60 H1 p c0 hS (cnt l.length t + 1) t c HU q d (Nat.lt_succ_self _) ht hU
theorem rsearchM_ct (l : List O) (hn60 : l.length ≤ 60) (H1 : PH) (p : Option Addr) (c0 : Nat) (hS : Sl H1 p c0 12 (l.map O.c)) (t : Nat) (ht : t < 2 ^ 60) (c : Cell) (m : Nat) (hm : m = l.length) (HU : PH) (q : Option Addr) (d : Nat) (hU : Sl HU q d 1 (us m t)) : Ct Try.prog 31 [.slice p (l.map O.c).length c0, .slice q m d, .agg [.bool c.1, .int .i64 c.2].toArray] [H1, HU] (fun v Hs => v = .bool (liveB l t c) ∧ Hs = [H1, HU]) := by
  subst hm
  exact rsearch_ct l hn60 H1 p c0 hS t ht c HU q d hU

end Go.Proofs.Ytbgppnkccbhbpaa
