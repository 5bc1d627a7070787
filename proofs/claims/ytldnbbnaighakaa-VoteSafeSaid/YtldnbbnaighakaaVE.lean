/- Elections. Written by program (walk2.py). -/
import Derived.Test.YtldnbbnaighakaaVF
import Derived.Test.YtldnbbnaighakaaVPureS
namespace Go.Proofs.Ytldnbbnaighakaa
open SL Cfg Vote
set_option linter.unusedVariables false
set_option linter.unusedSimpArgs false
theorem sz35 : sz Try.prog 35 1 := (by kernel_rfl : (Try.prog.info? 35).map (·.size) = some 1)
theorem zc35 : zc Try.prog 35 [.pointer none] := (by kernel_rfl : ((Try.prog.info? 35).bind (·.zero)).map (fun v => v.cells.toList) = some [.pointer none])
theorem el35 : el Try.prog 35 1 8 := .mk (by kernel_rfl)
theorem zc39 : zc Try.prog 39 [.int .i64 0, .int .i64 0, .int .i64 0, .bool false, .bool false] := (by kernel_rfl : ((Try.prog.info? 39).bind (·.zero)).map (fun v => v.cells.toList) = some [.int .i64 0, .int .i64 0, .int .i64 0, .bool false, .bool false])
theorem zv30 : zv Try.prog 30 (.map none) := (by kernel_rfl : (Try.prog.info? 30).bind (·.zero) = some (.map none))
def Vote.aI (z : Int) : Nat := (z % 5).toNat
theorem Vote.aI_lt (z : Int) : aI z < 5 := by unfold aI; have := Int.emod_nonneg z (show (5 : Int) ≠ 0 by decide); have := Int.emod_lt_of_pos z (show (0 : Int) < 5 by decide); omega
theorem Vote.aI_eq (z : Int) : (z.tmod 5 + 5) % 5 = ((aI z : Nat) : Int) := by
  have h1 := Int.emod_nonneg z (show (5 : Int) ≠ 0 by decide)
  unfold aI
  rw [Int.toNat_of_nonneg h1]
  exact tmod_fix z 5
def Vote.rows (bp : Nat → Nat) (n : Nat) : List (List Value) := (List.range n).map fun i => [Value.pointer (some ⟨bp i, 0, none⟩)]
theorem Vote.rows_len (bp : Nat → Nat) (n : Nat) : (rows bp n).length = n := by simp [rows]
theorem Vote.rows_get (bp : Nat → Nat) {n i : Nat} (h : i < n) : (rows bp n)[i]? = some [Value.pointer (some ⟨bp i, 0, none⟩)] := by simp [rows, h]
theorem Vote.rows_succ (bp : Nat → Nat) (n : Nat) : rows bp (n + 1) = rows bp n ++ [[Value.pointer (some ⟨bp n, 0, none⟩)]] := by unfold rows; rw [List.range_succ, List.map_append]; rfl
theorem Vote.rows_congr {bp bq : Nat → Nat} {n : Nat} (h : ∀ i, i < n → bp i = bq i) : rows bp n = rows bq n := by
  unfold rows; apply List.map_congr_left; intro i hi; rw [h i (List.mem_range.1 hi)]
theorem Vote.rows_set (bp : Nat → Nat) {n i b : Nat} (h : i < n) : (rows bp n).set i [Value.pointer (some ⟨b, 0, none⟩)] = rows (fun j => if j = i then b else bp j) n := by
  apply List.ext_getElem?
  intro j
  rw [List.getElem?_set]
  by_cases e : i = j
  · subst e
    rw [if_pos rfl, rows_len, if_pos h, rows_get _ h, if_pos rfl]
  · rw [if_neg e]
    by_cases hj : j < n
    · rw [rows_get _ hj, rows_get _ hj, if_neg (Ne.symm e)]
    · rw [List.getElem?_eq_none (by rw [rows_len]; omega), List.getElem?_eq_none (by rw [rows_len]; omega)]
/-- who has won, as maps by terms -/
structure Vote.Wn (W : Int → Int → Prop) (wr : Int → Option Nat) (m : List (Int × Value)) (IW : PH) : Prop where
  out : ∀ t, mget m t = (wr t).map fun b => Value.map (some b)
  inn : ∀ t b, wr t = some b → ∃ es ck q, IW b = some (.map es ck) ∧ MapP (fun a : Int => Value.int .i64 a) es ck q ∧ ∀ c, (mget q c).isSome = true ↔ W t c
  inj : ∀ t t' b, wr t = some b → wr t' = some b → t = t'
  non : ∀ t, wr t = none → ∀ c, ¬ W t c
theorem Vote.Wn.start : Wn (fun _ _ => False) (fun _ => none) [] emp := ⟨fun t => rfl, fun t b h => (by cases h), fun t t' b h => (by cases h), fun t _ c h => h⟩
theorem Vote.Wn.add {W : Int → Int → Prop} {wr : Int → Option Nat} {m : List (Int × Value)} {IW : PH} (h : Wn W wr m IW) {t : Int} (ht : wr t = none) {b : Nat} (hd : IW.disj (single b (.map #[] 0))) :
    Wn W (fun t' => if t' = t then some b else wr t') (mset m t (.map (some b))) (hjoin IW (single b (.map #[] 0))) := by
  have hnew : ∀ t' b', wr t' = some b' → b' ≠ b := fun t' b' h1 e => by
    obtain ⟨es, ck, q, h2, _⟩ := h.inn t' b' h1
    subst e; exact hd b' _ _ h2 (single_self _ _)
  refine ⟨fun t' => ?_, fun t' b' h1 => ?_, fun t1 t2 b' h1 h2 => ?_, fun t' h1 => ?_⟩
  · rw [mget_mset]
    by_cases e : t = t'
    · subst e; rw [if_pos rfl, if_pos rfl]; rfl
    · rw [if_neg e, if_neg (Ne.symm e)]; exact h.out t'
  · by_cases e : t' = t
    · subst e
      rw [if_pos rfl] at h1
      have hb : b = b' := Option.some.inj h1
      refine ⟨#[], 0, [], ?_, MapP.empty _, fun c => ⟨fun hc => by simp [mget] at hc, fun hc => absurd hc (h.non t' ht c)⟩⟩
      rw [← hb]
      unfold hjoin
      cases hI : IW b with
      | none => exact single_self _ _
      | some o => exact (hd b o _ hI (single_self _ _)).elim
    · rw [if_neg e] at h1
      obtain ⟨es, ck, q, h2, h3⟩ := h.inn t' b' h1
      exact ⟨es, ck, q, hjoin_l _ _ h2, h3⟩
  · by_cases e1 : t1 = t <;> by_cases e2 : t2 = t
    · omega
    · rw [if_pos e1] at h1; rw [if_neg e2] at h2; cases h1; exact absurd rfl (hnew t2 _ h2)
    · rw [if_neg e1] at h1; rw [if_pos e2] at h2; cases h2; exact absurd rfl (hnew t1 _ h1)
    · rw [if_neg e1] at h1; rw [if_neg e2] at h2; exact h.inj t1 t2 b' h1 h2
  · by_cases e : t' = t
    · rw [if_pos e] at h1; cases h1
    · rw [if_neg e] at h1; exact h.non t' h1
theorem Vote.Wn.put {W : Int → Int → Prop} {wr : Int → Option Nat} {m : List (Int × Value)} {IW : PH} (h : Wn W wr m IW) {t c : Int} {b : Nat} (ht : wr t = some b) {es : Array MapEntry} {ck : Nat} {q : List (Int × Value)} {u : Value}
    (hq : ∀ d, (mget q d).isSome = true ↔ W t d) (hM : MapP (fun a : Int => Value.int .i64 a) es ck (mset q c u)) : Wn (wput W t c) wr m (pset IW b (.map es ck)) := by
  refine ⟨h.out, fun t' b' h1 => ?_, h.inj, fun t' h1 d hd => ?_⟩
  · by_cases e : t' = t
    · subst e
      rw [ht] at h1; cases h1
      refine ⟨es, ck, _, pset_self _ _ _, hM, fun d => ?_⟩
      rw [mget_mset]
      by_cases ed : c = d
      · subst ed; simp [wput]
      · rw [if_neg ed, hq d]
        exact ⟨.inl, fun hh => hh.elim id fun hh => absurd hh.2.symm ed⟩
    · obtain ⟨es', ck', q', h2, h3, h4⟩ := h.inn t' b' h1
      refine ⟨es', ck', q', ?_, h3, fun d => (h4 d).trans ⟨.inl, fun hh => hh.elim id fun hh => absurd hh.1 e⟩⟩
      unfold pset
      rw [if_neg (fun eb => e (h.inj t' t b' h1 (by rw [eb]; exact ht)))]; exact h2
  · rcases hd with hd | ⟨rfl, _⟩
    · exact h.non t' h1 d hd
    · rw [ht] at h1; cases h1
theorem Vote.one_key {q : List (Int × Value)} (hn : (q.map (·.1)).Nodup) (h : ∀ a b, (mget q a).isSome = true → (mget q b).isSome = true → a = b) : q.length ≤ 1 := by
  match q, hn, h with
  | [], _, _ => simp
  | [_], _, _ => simp
  | x :: y :: r, hn, h =>
    exfalso
    have hx : (mget (x :: y :: r) x.1).isSome = true := by simp [mget]
    have hxy : x.1 ≠ y.1 := by
      simp only [List.map_cons, List.nodup_cons, List.mem_cons, not_or] at hn
      exact hn.1.1
    have hy : (mget (x :: y :: r) y.1).isSome = true := by simp [mget, hxy]
    exact hxy (h _ _ hx hy)
structure Vote.NS where
  i : Nat
  bp : Nat → Nat
  VP : PH
  R : PH
  p : Option Addr
  c : Nat
structure Vote.EI where
  j : Nat
  V : Nat → Vt
  g : Int → Nat → Int
  W : Int → Int → Prop
  bp : Nat → Nat
  VP : PH
  MP : PH
  R : PH
  wr : Int → Option Nat
  es : Array MapEntry
  ck : Nat
  m : List (Int × Value)
  IW : PH
structure Vote.FI where
  V : Nat → Vt
  g : Int → Nat → Int
  VP : PH
  MP : PH
structure Vote.GI where
  wr : Int → Option Nat
  es : Array MapEntry
  ck : Nat
  m : List (Int × Value)
  IW : PH
  b : Nat
/-- the first voters, none of them a candidate -/
structure Vote.First (n : Nat) (bp : Nat → Nat) (VP : PH) : Prop where
  inj : ∀ i j, i < n → j < n → bp i = bp j → i = j
  blk : ∀ i, i < n → VP (bp i) = some (VB (nw ((i : Int) + 1) 0 0) none)
theorem Vote.First.add {n : Nat} {bp : Nat → Nat} {VP : PH} (h : First n bp VP) {b : Nat} (hd : VP.disj (single b (VB (nw ((n : Int) + 1) 0 0) none))) : First (n + 1) (fun j => if j = n then b else bp j) (hjoin VP (single b (VB (nw ((n : Int) + 1) 0 0) none))) := by
  have hne : ∀ i, i < n → bp i ≠ b := fun i hi e => hd b _ _ (e ▸ h.blk i hi) (single_self _ _)
  refine ⟨fun i j hi hj e => ?_, fun i hi => ?_⟩
  · by_cases ei : i = n <;> by_cases ej : j = n
    · omega
    · rw [if_pos ei, if_neg ej] at e; exact absurd e.symm (hne j (by omega))
    · rw [if_neg ei, if_pos ej] at e; exact absurd e (hne i (by omega))
    · rw [if_neg ei, if_neg ej] at e; exact h.inj i j (by omega) (by omega) e
  · by_cases ei : i = n
    · subst ei
      rw [if_pos rfl]
      unfold hjoin
      cases hV : VP b with
      | none => exact single_self _ _
      | some o => exact (hd b o _ hV (single_self _ _)).elim
    · rw [if_neg ei]; exact hjoin_l _ _ (h.blk i (by omega))
theorem Vote.First.fam {bp : Nat → Nat} {VP : PH} (h : First 5 bp VP) (MP : PH) : FamE (fun i => nw ((i : Int) + 1) 0 0) bp VP MP :=
  ⟨fun _ => none, h.inj, h.blk, fun i hi => ⟨emp, fun b o h => (by cases h), trivial, fun b o h => (by cases h)⟩, fun i j b _ _ e => by cases e⟩
theorem Vote.FamE.anew {V : Nat → Vt} {bp : Nat → Nat} {VP MP : PH} (h : FamE V bp VP MP) {i : Nat} (hi : i < 5) {v : Vt} (hv : v.vs = none) {b : Nat} (hd : VP.disj (single b (VB v none))) : FamE (updV V i v) (fun j => if j = i then b else bp j) (hjoin VP (single b (VB v none))) MP := by
  obtain ⟨os, h⟩ := h
  have hne : ∀ j, j < 5 → bp j ≠ b := fun j hj e => hd b _ _ (e ▸ h.blk j hj) (single_self _ _)
  refine ⟨fun j => if j = i then none else os j, fun j k hj hk e => ?_, fun j hj => ?_, fun j hj => ?_, fun j k q hj hk e1 e2 => ?_⟩
  · by_cases ej : j = i <;> by_cases ek : k = i
    · omega
    · rw [if_pos ej, if_neg ek] at e; exact absurd e.symm (hne k hk)
    · rw [if_neg ej, if_pos ek] at e; exact absurd e (hne j hj)
    · rw [if_neg ej, if_neg ek] at e; exact h.inj j k hj hk e
  · by_cases e : j = i
    · subst e; rw [updV_self, if_pos rfl, if_pos rfl]
      unfold hjoin
      cases hV : VP b with
      | none => exact single_self _ _
      | some o => exact (hd b o _ hV (single_self _ _)).elim
    · rw [updV_ne V v e, if_neg e, if_neg e]; exact hjoin_l _ _ (h.blk j hj)
  · by_cases e : j = i
    · subst e; rw [updV_self, if_pos rfl, hv]; exact ⟨emp, fun b o h => (by cases h), trivial, fun b o h => (by cases h)⟩
    · rw [updV_ne V v e, if_neg e]; exact h.maps j hj
  · by_cases ej : j = i
    · rw [if_pos ej] at e1; cases e1
    · by_cases ek : k = i
      · rw [if_pos ek] at e2; cases e2
      · rw [if_neg ej] at e1; rw [if_neg ek] at e2; exact h.minj j k q hj hk e1 e2

set_option maxRecDepth 100000 in
set_option maxHeartbeats 6400000 in
theorem election_ct (x : Cf) (H1 : PH) (hx : x.In H1) (hbo : x.o.length ≤ 400000) (hbn : x.n.length ≤ 400000) (ops : List OpV) (p : Option Addr) (c : Nat) (hS : Sl H1 p c 5 (ops.map OpV.cells)) (hl : ops.length ≤ 60) : Ct Try.prog 23 [.agg [.slice x.po x.o.length x.co, .slice x.pn x.n.length x.cn, .slice x.pl x.l.length x.cl].toArray, .slice p ops.length c] [H1] (fun r Hs => ∃ (b : Nat) (es : Array MapEntry) (ck : Nat) (m : List (Int × Value)) (IW : PH) (wr : Int → Option Nat) (W : Int → Int → Prop), r = .map (some b) ∧ MapP (fun a : Int => Value.int .i64 a) es ck m ∧ Wn W wr m IW ∧ (∀ t c d, W t c → W t d → c = d) ∧ Hs = [H1, single b (.map es ck), IW]) := by
  refine Ct.body Try.func23 rfl Try.ntmps23 rfl ?_
  intro E F
  have hmx := hS.len_le
  simp only [List.length_map, maxLen] at hmx
  refine W.seq ?_
  refine W.region ?_
  refine RL.e (Eff.box 102 _ rfl rfl) rfl ?_
  rintro _ _ ⟨b2, rfl, rfl⟩
  refine RL.q (Yld.assign rfl) rfl ?_
  refine RL.nil ?_
  refine N.next ?_
  refine W.seq ?_
  refine W.region ?_
  refine RL.e (Eff.buildSlice 113 Try.underlying65 sz35 zc35 rfl rfl .nil rfl) rfl ?_
  rintro _ _ ⟨b13, rfl, rfl⟩
  refine RL.q (Yld.assign rfl) rfl ?_
  refine RL.nil ?_
  refine N.next ?_
  refine W.seq ?_
  refine W.seq ?_
  refine W.imp (Imp.empty _ 150) ?_
  refine W.region ?_
  refine RL.q (Yld.assign rfl) rfl ?_
  refine RL.nil ?_
  refine N.next ?_
  refine W.block ?_
  refine W.loopK (ι := NS) (fun n => (n.i ≤ 5 ∧ First n.i n.bp n.VP ∧ Own n.R n.p n.c 35 1 (rows n.bp n.i))) (fun n => [(5, .slice n.p n.i n.c), (6, .int .i64 ((n.i : Int) + 1))]) (fun n => [(113, n.R), (150, n.VP)]) (fun n => 5 - n.i) (.cons (k := 1) rfl (.cons (k := 2) rfl .nil)) (.cons (k := 0) rfl (.cons (k := 1) rfl (.cons (k := 102) rfl .nil))) ⟨0, fun _ => 0, emp, single b13 (.cells [].toArray 35 (0, 0)), some ⟨b13, 0, none⟩, 0⟩ ?_ ?_ ?_ ?_
  · exact ⟨Nat.zero_le _, ⟨fun i j hi => absurd hi (Nat.not_lt_zero _), fun i hi => absurd hi (Nat.not_lt_zero _)⟩, Own.none0 rfl⟩
  · exact (.as rfl (by first | rfl | (simp; done) | (congr 1; simp; done) | (congr 1; omega)) (.as rfl (by first | rfl | (simp; done) | (congr 1; simp; done) | (congr 1; omega)) .nil))
  · exact (.cons rfl (.cons rfl .nil))
  rintro n ⟨hn5, hfst, hO⟩
  refine W.keep (.cons (k := 5) rfl (.cons (k := 6) rfl (.cons (k := 1) rfl (.cons (k := 2) rfl .nil)))) (.cons (k := 113) rfl (.cons (k := 150) rfl (.cons (k := 0) rfl (.cons (k := 1) rfl (.cons (k := 102) rfl .nil))))) ?_
  refine W.seq ?_
  refine W.seq ?_
  refine W.region ?_
  refine RL.q (Yld.move rfl) rfl ?_
  refine RL.q (Yld.bin rfl rfl BinV.leq) rfl ?_
  refine RL.nil ?_
  refine N.next ?_
  first | refine W.condD rfl (fun hc15 => ?_) (fun hc15 => ?_) | (refine W.cond rfl (fun hc15 => ?_) (fun hc15 => ?_) <;> try simp only [Bool.or_eq_true, Bool.and_eq_true, Bool.not_eq_true', Bool.not_eq_false', decide_eq_true_eq, Bool.or_eq_false_iff, Bool.and_eq_false_iff, decide_eq_false_iff_not, beq_iff_eq, beq_eq_false_iff_ne, ne_eq, Decidable.not_not] at hc15)
  ·
    refine W.skip ?_
    refine N.next ?_
    refine W.seq ?_
    refine W.block ?_
    refine W.region ?_
    refine RL.q (Yld.move rfl) rfl ?_
    refine RL.q (Yld.move rfl) rfl ?_
    refine RL.e (Eff.call ent16 [] [160] (.cons rfl (.cons rfl (.cons rfl .nil))) (vnew_ct ((n.i : Int) + 1) 0 0) rfl rfl rfl rfl (by rintro _ _ ⟨_, _, rfl⟩; rfl)) rfl ?_
    rintro _ _ ⟨_, ⟨bq, rfl, rfl⟩, rfl⟩
    refine RL.fact (p := n.VP.disj (single bq (VB (nw ((n.i : Int) + 1) 0 0) none))) (fun E w hm => hm.dis 150 160 _ _ (by decide) rfl rfl) fun hdj => ?_
    refine RL.e (Eff.buildSlice 121 Try.underlying65 sz35 zc35 rfl rfl (.cons rfl rfl .nil) rfl) rfl ?_
    rintro _ _ ⟨b21, rfl, rfl⟩
    refine RL.e (Eff.append (tc := 113) (sc := 121) Try.underlying65 el35 rfl rfl rfl rfl hO (rows_len _ _).symm (Own.one (l := [Value.pointer (some ⟨bq, 0, none⟩)]) rfl (by simp [Value.oneCell']) rfl).sl rfl (by simp [Value.oneCell']) (by decide) (by simp [rows_len]; omega) (by simp [rows_len, maxLen]; omega)) rfl ?_
    rintro _ _ ⟨Ha, pa, ca, rfl, hOa, rfl⟩
    refine RL.q (Yld.assign rfl) rfl ?_
    refine RL.nil ?_
    refine N.block_normal ?_
    refine N.next ?_
    refine W.keep (.cons (k := 1) rfl (.cons (k := 2) rfl (.cons (k := 5) rfl (.cons (k := 6) rfl .nil)))) (.cons (k := 0) rfl (.cons (k := 1) rfl (.cons (k := 102) rfl (.cons (k := 113) rfl (.cons (k := 121) rfl (.cons (k := 150) rfl (.cons (k := 160) rfl .nil))))))) ?_
    refine W.region ?_
    refine RL.q (Yld.move rfl) rfl ?_
    refine RL.q (Yld.bin rfl rfl (by first | exact BinV.add (by omega) (by omega) | exact BinV.addW)) rfl ?_
    refine RL.q (Yld.assign rfl) rfl ?_
    refine RL.nil ?_
    refine N.merge 150 160 rfl rfl rfl fun ha => ?_
    have hrw : rows (fun j => if j = n.i then bq else n.bp j) (n.i + 1) = rows n.bp n.i ++ [[Value.pointer (some ⟨bq, 0, none⟩)]] := by
      rw [rows_succ, rows_congr (bq := n.bp) (fun i hi => if_neg (by omega)), if_pos rfl]
    exact N.famK ⟨n.i + 1, fun j => if j = n.i then bq else n.bp j, _, Ha, pa, ca⟩ ⟨⟨by dsimp only; omega, hfst.add hdj, by dsimp only; rw [hrw]; exact hOa⟩, by dsimp only; omega⟩ (.as rfl (by simp [rows_len]) (.as rfl (by first | rfl | (simp; done) | (congr 1; simp; done) | (congr 1; omega)) .nil)) (.cons rfl (.cons rfl .nil)) (.cons rfl (.cons rfl .nil)) (.cons rfl (.cons rfl (.cons rfl .nil)))
  ·
    have hi5 : n.i = 5 := by omega
    refine W.exit ?_
    refine N.then_exit ?_
    refine N.then_exit ?_
    refine N.block_eq ?_
    refine N.next ?_
    refine W.seq ?_
    refine W.region ?_
    refine RL.e (Eff.makeMap 123) rfl ?_
    rintro _ _ ⟨b23, rfl, rfl⟩
    refine RL.q (Yld.assign rfl) rfl ?_
    refine RL.nil ?_
    refine N.next ?_
    refine W.keep (.cons (k := 1) rfl (.cons (k := 2) rfl (.cons (k := 5) rfl (.cons (k := 7) rfl .nil)))) (.cons (k := 0) rfl (.cons (k := 1) rfl (.cons (k := 102) rfl (.cons (k := 113) rfl (.cons (k := 123) rfl (.cons (k := 150) rfl .nil)))))) ?_
    refine W.seq ?_
    refine W.seq ?_
    refine W.imp (Imp.empty _ 151) ?_
    refine W.imp (Imp.empty _ 180) ?_
    refine W.region ?_
    refine RL.q (Yld.move rfl) rfl ?_
    refine RL.q (Yld.lenSl Try.underlying33 rfl) rfl ?_
    refine RL.q (Yld.move rfl) rfl ?_
    refine RL.nil ?_
    refine N.next ?_
    refine W.block ?_
    refine W.loopK (ι := EI) (fun y => (y.j ≤ ops.length ∧ FamE y.V y.bp y.VP y.MP ∧ EOK x.o x.n y.j y.V y.g y.W ∧ Own y.R n.p n.c 35 1 (rows y.bp 5) ∧ MapP (fun a : Int => Value.int .i64 a) y.es y.ck y.m ∧ Wn y.W y.wr y.m y.IW)) (fun y => [(26, .int .i64 (y.j : Nat))]) (fun y => [(113, y.R), (123, single b23 (.map y.es y.ck)), (150, y.VP), (151, y.MP), (180, y.IW)]) (fun y => ops.length - y.j) (.cons (k := 2) rfl (.cons (k := 5) rfl (.cons (k := 7) rfl (.cons (k := 24) rfl (.cons (k := 25) rfl .nil))))) (.cons (k := 0) rfl (.cons (k := 1) rfl (.cons (k := 102) rfl .nil))) ⟨0, fun i => nw ((i : Int) + 1) 0 0, fun _ _ => 0, fun _ _ => False, n.bp, n.VP, emp, n.R, fun _ => none, #[], 0, [], emp⟩ ?_ ?_ ?_ ?_
    · exact ⟨Nat.zero_le _, (hi5 ▸ hfst : First 5 n.bp n.VP).fam emp, EOK.start _ _, hi5 ▸ hO, MapP.empty _, Wn.start⟩
    · exact (.as rfl (by first | rfl | (simp; done) | (congr 1; simp; done) | (congr 1; omega)) .nil)
    · exact (.cons rfl (.cons rfl (.cons rfl (.cons rfl (.cons rfl .nil)))))
    rintro y ⟨hyj, hyF, hyE, hyO, hyM, hyW⟩
    refine W.keep (.cons (k := 26) rfl (.cons (k := 2) rfl (.cons (k := 5) rfl (.cons (k := 7) rfl (.cons (k := 24) rfl (.cons (k := 25) rfl .nil)))))) (.cons (k := 113) rfl (.cons (k := 123) rfl (.cons (k := 150) rfl (.cons (k := 151) rfl (.cons (k := 180) rfl (.cons (k := 0) rfl (.cons (k := 1) rfl (.cons (k := 102) rfl .nil)))))))) ?_
    refine W.seq ?_
    refine W.region ?_
    refine RL.q (Yld.bin rfl rfl BinV.lss) rfl ?_
    refine RL.nil ?_
    refine N.next ?_
    refine W.seq ?_
    first | refine W.condD rfl (fun hc27 => ?_) (fun hc27 => ?_) | (refine W.cond rfl (fun hc27 => ?_) (fun hc27 => ?_) <;> try simp only [Bool.or_eq_true, Bool.and_eq_true, Bool.not_eq_true', Bool.not_eq_false', decide_eq_true_eq, Bool.or_eq_false_iff, Bool.and_eq_false_iff, decide_eq_false_iff_not, beq_iff_eq, beq_eq_false_iff_ne, ne_eq, Decidable.not_not] at hc27)
    ·
      obtain ⟨q, hq⟩ : ∃ q, ops[y.j]? = some q := ⟨_, List.getElem?_eq_getElem (show y.j < ops.length by omega)⟩
      have hlq : (ops.map OpV.cells)[y.j]? = some [.int .i64 q.kd, .int .i64 q.a, .int .i64 q.b, .bool q.y, .bool q.n] := by simp [hq, OpV.cells]
      have m1 := Int.lt_tmod_of_pos q.a (show (0 : Int) < 5 by decide)
      have m2 := Int.tmod_lt_of_pos q.a (show (0 : Int) < 5 by decide)
      have m3 := Int.lt_tmod_of_pos q.b (show (0 : Int) < 5 by decide)
      have m4 := Int.tmod_lt_of_pos q.b (show (0 : Int) < 5 by decide)
      have hA5 := aI_lt q.a
      have hB5 := aI_lt q.b
      have hra : (rows y.bp 5)[((aI q.a : Nat) : Int).toNat]? = some [Value.pointer (some ⟨y.bp (aI q.a), 0, none⟩)] := rows_get _ hA5
      have hrb : (rows y.bp 5)[((aI q.b : Nat) : Int).toNat]? = some [Value.pointer (some ⟨y.bp (aI q.b), 0, none⟩)] := rows_get _ hB5
      have hpa : ∃ ca, y.VP (y.bp (aI q.a)) = some (.cells ca 64 (0, 0)) := by obtain ⟨os, h⟩ := hyF; exact ⟨_, h.blk _ hA5⟩
      have hpb : ∃ ca, y.VP (y.bp (aI q.b)) = some (.cells ca 64 (0, 0)) := by obtain ⟨os, h⟩ := hyF; exact ⟨_, h.blk _ hB5⟩
      have hinj : y.bp (aI q.a) = y.bp (aI q.b) → aI q.a = aI q.b := by obtain ⟨os, h⟩ := hyF; exact h.inj _ _ hA5 hB5
      obtain ⟨ca1, hpa⟩ := hpa
      obtain ⟨ca2, hpb⟩ := hpb
      refine W.skip ?_
      refine N.next ?_
      refine W.seq ?_
      refine W.block ?_
      refine W.seq ?_
      refine W.region ?_
      refine RL.q (Yld.indexRow Try.underlying33 sz39 rfl rfl (by first | assumption | exact Own.sl (by assumption)) (by first | rfl | omega | (simp; done) | (simp; omega)) (by omega) (by first | omega | (simp; done) | (simp; omega))) rfl ?_
      refine RL.q (by first | exact Yld.loadRow (cl := 1) Try.underlying39 rfl sz39 rfl rfl (by first | assumption | exact Own.sl (by assumption)) (by assumption) | exact Yld.loadRow (cl := 102) Try.underlying39 rfl sz39 rfl rfl (by first | assumption | exact Own.sl (by assumption)) (by assumption) | exact Yld.loadRow (cl := 113) Try.underlying39 rfl sz39 rfl rfl (by first | assumption | exact Own.sl (by assumption)) (by assumption) | exact Yld.loadRow (cl := 123) Try.underlying39 rfl sz39 rfl rfl (by first | assumption | exact Own.sl (by assumption)) (by assumption) | exact Yld.loadRow (cl := 150) Try.underlying39 rfl sz39 rfl rfl (by first | assumption | exact Own.sl (by assumption)) (by assumption) | exact Yld.loadRow (cl := 151) Try.underlying39 rfl sz39 rfl rfl (by first | assumption | exact Own.sl (by assumption)) (by assumption) | exact Yld.loadRow (cl := 180) Try.underlying39 rfl sz39 rfl rfl (by first | assumption | exact Own.sl (by assumption)) (by assumption)) rfl ?_
      refine RL.e (Eff.alloc 109 zc39) rfl ?_
      rintro _ _ ⟨b9, rfl, rfl⟩
      refine RL.e0 (Eff.storeS (c := 109) _ sz39 rfl rfl rfl rfl rfl rfl rfl (by (try simp only [putAt, List.take, List.drop, List.nil_append, List.cons_append, List.append_nil, List.length_cons, List.length_nil, Nat.add_zero, Nat.zero_add, Nat.reduceAdd]); rfl)) ?_
      rintro _ _ rfl
      refine RL.nil ?_
      refine N.next ?_
      refine W.seq ?_
      refine W.draw (.q 0 (.q 1 (.q 2 (.q 3 (.q 4 (.q 5 (.q 6 (.q 7 (.q 8 (.q 9 (.q 10 (.q 11 (.q 12 (.q 13 (.q 14 (.q 15 (.q 16 (.q 17 .done)))))))))))))))))) (.cons (k := 0) rfl (.cons (k := 1) rfl (.cons (k := 102) rfl (.cons (k := 109) rfl (.cons (k := 113) rfl (.cons (k := 123) rfl (.cons (k := 150) rfl (.cons (k := 151) rfl (.cons (k := 180) rfl .nil))))))))) mix (by kernel_rfl) (by kernel_rfl) ?_
      refine DL.q rfl (Yld.move rfl) rfl ?_
      refine DL.q rfl (Yld.fieldAddr fo39_1 rfl) rfl ?_
      refine DL.q rfl (Yld.load1 (c := 109) Try.underlying3 rfl rfl rfl (by first | exact single_self _ _ | exact pset_self _ _ _ | assumption) rfl) rfl ?_
      refine DL.q rfl (Yld.bin rfl rfl (by first | exact BinV.rem (by omega) (by omega) | exact BinV.remW (by omega))) rfl ?_
      refine DL.q rfl (Yld.bin rfl rfl (by first | exact BinV.add (by omega) (by omega) | exact BinV.addW)) rfl ?_
      refine DL.q rfl (Yld.eq (v' := .int .i64 ((aI q.a : Nat) : Int)) (Yld.bin rfl rfl (by first | exact BinV.rem (by omega) (by omega) | exact BinV.remW (by omega))) (by rw [← aI_eq])) rfl ?_
      refine DL.q rfl (Yld.indexRow Try.underlying65 sz35 rfl rfl hyO.sl (by rw [rows_len]; exact hi5) (by omega) (by rw [rows_len]; exact Int.ofNat_lt.2 (aI_lt q.a))) rfl ?_
      refine DL.q rfl (Yld.loadRow1 (cl := 113) Try.underlying35 rfl rfl rfl hyO.sl hra) rfl ?_
      refine DL.q rfl (Yld.move rfl) rfl ?_
      refine DL.q rfl (Yld.fieldAddr fo39_2 rfl) rfl ?_
      refine DL.q rfl (Yld.load1 (c := 109) Try.underlying3 rfl rfl rfl (by first | exact single_self _ _ | exact pset_self _ _ _ | assumption) rfl) rfl ?_
      refine DL.q rfl (Yld.bin rfl rfl (by first | exact BinV.rem (by omega) (by omega) | exact BinV.remW (by omega))) rfl ?_
      refine DL.q rfl (Yld.bin rfl rfl (by first | exact BinV.add (by omega) (by omega) | exact BinV.addW)) rfl ?_
      refine DL.q rfl (Yld.eq (v' := .int .i64 ((aI q.b : Nat) : Int)) (Yld.bin rfl rfl (by first | exact BinV.rem (by omega) (by omega) | exact BinV.remW (by omega))) (by rw [← aI_eq])) rfl ?_
      refine DL.q rfl (Yld.indexRow Try.underlying65 sz35 rfl rfl hyO.sl (by rw [rows_len]; exact hi5) (by omega) (by rw [rows_len]; exact Int.ofNat_lt.2 (aI_lt q.b))) rfl ?_
      refine DL.q rfl (Yld.loadRow1 (cl := 113) Try.underlying35 rfl rfl rfl hyO.sl hrb) rfl ?_
      refine DL.q rfl (Yld.assign rfl) rfl ?_
      refine DL.q rfl (Yld.assign rfl) rfl ?_
      refine DL.done ?_
      refine N.next ?_
      refine W.keep (.cons (k := 2) rfl (.cons (k := 5) rfl (.cons (k := 7) rfl (.cons (k := 9) rfl (.cons (k := 10) rfl (.cons (k := 11) rfl (.cons (k := 24) rfl (.cons (k := 25) rfl (.cons (k := 26) rfl .nil))))))))) (.cons (k := 0) rfl (.cons (k := 1) rfl (.cons (k := 102) rfl (.cons (k := 109) rfl (.cons (k := 113) rfl (.cons (k := 123) rfl (.cons (k := 150) rfl (.cons (k := 151) rfl (.cons (k := 180) rfl .nil))))))))) ?_
      refine W.seq ?_
      refine W.region ?_
      refine RL.q (Yld.fieldAddr fo39_1 rfl) rfl ?_
      refine RL.q (Yld.load1 (c := 109) Try.underlying3 rfl rfl rfl (by first | exact single_self _ _ | exact pset_self _ _ _ | assumption) rfl) rfl ?_
      refine RL.q (Yld.bin rfl rfl (by first | exact BinV.rem (by omega) (by omega) | exact BinV.remW (by omega))) rfl ?_
      refine RL.q (Yld.bin rfl rfl (by first | exact BinV.add (by omega) (by omega) | exact BinV.addW)) rfl ?_
      refine RL.q (Yld.eq (v' := .int .i64 ((aI q.a : Nat) : Int)) (Yld.bin rfl rfl (by first | exact BinV.rem (by omega) (by omega) | exact BinV.remW (by omega))) (by rw [← aI_eq])) rfl ?_
      refine RL.q (Yld.eq (v' := .int .i64 (((aI q.a : Nat) : Int) + 1)) (Yld.bin rfl rfl (by first | exact BinV.add (by omega) (by omega) | exact BinV.addW)) (by rw [Int.add_comm])) rfl ?_
      refine RL.q (Yld.assign rfl) rfl ?_
      refine RL.nil ?_
      refine N.next ?_
      refine W.keep (.cons (k := 2) rfl (.cons (k := 5) rfl (.cons (k := 7) rfl (.cons (k := 9) rfl (.cons (k := 10) rfl (.cons (k := 11) rfl (.cons (k := 12) rfl (.cons (k := 24) rfl (.cons (k := 25) rfl (.cons (k := 26) rfl .nil)))))))))) (.cons (k := 0) rfl (.cons (k := 1) rfl (.cons (k := 102) rfl (.cons (k := 109) rfl (.cons (k := 113) rfl (.cons (k := 123) rfl (.cons (k := 150) rfl (.cons (k := 151) rfl (.cons (k := 180) rfl .nil))))))))) ?_
      refine W.cutK (ι := FI) (fun f => (FamE f.V y.bp f.VP f.MP ∧ EOK x.o x.n (y.j + 1) f.V f.g y.W)) (fun f => []) (fun f => [(150, f.VP), (151, f.MP)]) (.cons (k := 2) rfl (.cons (k := 5) rfl (.cons (k := 7) rfl (.cons (k := 10) rfl (.cons (k := 12) rfl (.cons (k := 24) rfl (.cons (k := 25) rfl (.cons (k := 26) rfl .nil)))))))) (.cons (k := 0) rfl (.cons (k := 1) rfl (.cons (k := 102) rfl (.cons (k := 109) rfl (.cons (k := 113) rfl (.cons (k := 123) rfl (.cons (k := 180) rfl .nil))))))) ?_ ?_
      ·
        refine W.seq ?_
        refine W.region ?_
        refine RL.q (Yld.fieldAddr fo39_0 rfl) rfl ?_
        refine RL.q (Yld.load1 (c := 109) Try.underlying3 rfl rfl rfl (by first | exact single_self _ _ | exact pset_self _ _ _ | assumption) rfl) rfl ?_
        refine RL.nil ?_
        refine N.next ?_
        refine W.block ?_
        refine W.seq ?_
        refine W.region ?_
        refine RL.q (Yld.bin rfl rfl BinV.eql) rfl ?_
        refine RL.q (Yld.assign rfl) rfl ?_
        refine RL.nil ?_
        refine N.next ?_
        first | refine W.condD rfl (fun hc54 => ?_) (fun hc54 => ?_) | (refine W.cond rfl (fun hc54 => ?_) (fun hc54 => ?_) <;> try simp only [Bool.or_eq_true, Bool.and_eq_true, Bool.not_eq_true', Bool.not_eq_false', decide_eq_true_eq, Bool.or_eq_false_iff, Bool.and_eq_false_iff, decide_eq_false_iff_not, beq_iff_eq, beq_eq_false_iff_ne, ne_eq, Decidable.not_not] at hc54)
        ·
          refine W.region ?_
          refine RL.q (Yld.move rfl) rfl ?_
          refine RL.e (Eff.call ent21 [150, 151] [150, 151] (.cons rfl .nil) (fcamp_ct hyF (aI_lt q.a) y.j (by omega) (hyE.ok _ (aI_lt q.a))) rfl rfl rfl rfl (by rintro _ _ ⟨_, _, _, _, rfl⟩; rfl)) rfl ?_
          rintro _ _ ⟨_, ⟨VP', MP', rfl, hF, rfl⟩, rfl⟩
          refine RL.nil ?_
          refine N.block_normal ?_
          exact N.famK ⟨_, _, VP', MP'⟩ ⟨hF, hyE.camp (aI_lt q.a)⟩ .nil (.cons rfl (.cons rfl (.cons rfl (.cons rfl (.cons rfl (.cons rfl (.cons rfl (.cons rfl .nil)))))))) (.cons rfl (.cons rfl .nil)) (.cons rfl (.cons rfl (.cons rfl (.cons rfl (.cons rfl (.cons rfl (.cons rfl .nil)))))))
        ·
          refine W.seq ?_
          refine W.region ?_
          refine RL.q (Yld.bin rfl rfl BinV.eql) rfl ?_
          refine RL.q (Yld.assign rfl) rfl ?_
          refine RL.nil ?_
          refine N.next ?_
          refine W.keep (.cons (k := 2) rfl (.cons (k := 5) rfl (.cons (k := 7) rfl (.cons (k := 9) rfl (.cons (k := 10) rfl (.cons (k := 11) rfl (.cons (k := 12) rfl (.cons (k := 24) rfl (.cons (k := 25) rfl (.cons (k := 26) rfl (.cons (k := 53) rfl (.cons (k := 58) rfl .nil)))))))))))) (.cons (k := 0) rfl (.cons (k := 1) rfl (.cons (k := 102) rfl (.cons (k := 109) rfl (.cons (k := 113) rfl (.cons (k := 123) rfl (.cons (k := 150) rfl (.cons (k := 151) rfl (.cons (k := 180) rfl .nil))))))))) ?_
          first | refine W.condD rfl (fun hc58 => ?_) (fun hc58 => ?_) | (refine W.cond rfl (fun hc58 => ?_) (fun hc58 => ?_) <;> try simp only [Bool.or_eq_true, Bool.and_eq_true, Bool.not_eq_true', Bool.not_eq_false', decide_eq_true_eq, Bool.or_eq_false_iff, Bool.and_eq_false_iff, decide_eq_false_iff_not, beq_iff_eq, beq_eq_false_iff_ne, ne_eq, Decidable.not_not] at hc58)
          ·
            refine W.seq ?_
            refine W.seq ?_
            refine W.region ?_
            refine RL.q (Yld.move rfl) rfl ?_
            refine RL.q (Yld.move rfl) rfl ?_
            refine RL.q (Yld.eq (v' := .bool (decide (aI q.a = aI q.b))) (Yld.eqlPtr (cl := 150) Try.underlying35 (by kernel_rfl) rfl rfl rfl hpa hpb) (by rw [Value.bool.injEq]; exact decide_eq_decide.2 ⟨hinj, fun e => by rw [e]⟩)) rfl ?_
            refine RL.q (Yld.move rfl) rfl ?_
            refine' RL.or (t := 63) (d := 67) 4 rfl (.cons (k := 2) rfl (.cons (k := 5) rfl (.cons (k := 7) rfl (.cons (k := 9) rfl (.cons (k := 10) rfl (.cons (k := 11) rfl (.cons (k := 12) rfl (.cons (k := 24) rfl (.cons (k := 25) rfl (.cons (k := 26) rfl (.cons (k := 53) rfl (.cons (k := 58) rfl (.cons (k := 60) rfl (.cons (k := 61) rfl (.cons (k := 62) rfl .nil))))))))))))))) (.cons (k := 0) rfl (.cons (k := 1) rfl (.cons (k := 102) rfl (.cons (k := 109) rfl (.cons (k := 113) rfl (.cons (k := 123) rfl (.cons (k := 150) rfl (.cons (k := 151) rfl (.cons (k := 180) rfl .nil))))))))) ?_ ?_ ?_
            rotate_left 1
            ·
              intro hg63
              refine RL.gq rfl rfl (Yld.move rfl) rfl ?_
              refine RL.ge rfl rfl (Eff.call ent28 [150, 151] [150, 151] (.cons rfl .nil) (fcand_ct hyF (aI_lt q.a)) rfl rfl rfl rfl (by rintro _ _ ⟨_, rfl⟩; rfl)) rfl ?_
              rintro _ _ ⟨_, ⟨rfl, rfl⟩, rfl⟩
              refine RL.gq rfl rfl (by first | exact Yld.notD rfl | exact Yld.not rfl) rfl ?_
              refine RL.q (by first | exact Yld.pickT rfl rfl | exact Yld.pickF rfl rfl) rfl ?_
              exact RL.nil (N.meet (.cons rfl (.cons rfl (.cons rfl (.cons rfl (.cons rfl (.cons rfl (.cons rfl (.cons rfl (.cons rfl (.cons rfl (.cons rfl (.cons rfl (.cons rfl (.cons rfl (.cons rfl (.cons rfl .nil)))))))))))))))) (.cons rfl (.cons rfl (.cons rfl (.cons rfl (.cons rfl (.cons rfl (.cons rfl (.cons rfl (.cons rfl .nil))))))))))
            ·
              intro hg63
              refine RL.gskip rfl rfl rfl rfl ?_
              refine RL.gskip rfl rfl rfl rfl ?_
              refine RL.gskip rfl rfl rfl rfl ?_
              refine RL.q (by first | exact Yld.pickT rfl rfl | exact Yld.pickF rfl rfl) rfl ?_
              exact RL.nil (N.meet (.cons rfl (.cons rfl (.cons rfl (.cons rfl (.cons rfl (.cons rfl (.cons rfl (.cons rfl (.cons rfl (.cons rfl (.cons rfl (.cons rfl (.cons rfl (.cons rfl (.cons rfl (.cons rfl .nil)))))))))))))))) (.cons rfl (.cons rfl (.cons rfl (.cons rfl (.cons rfl (.cons rfl (.cons rfl (.cons rfl (.cons rfl .nil))))))))))
            refine RL.nil ?_
            refine N.next ?_
            refine W.keep (.cons (k := 2) rfl (.cons (k := 5) rfl (.cons (k := 7) rfl (.cons (k := 9) rfl (.cons (k := 10) rfl (.cons (k := 11) rfl (.cons (k := 12) rfl (.cons (k := 24) rfl (.cons (k := 25) rfl (.cons (k := 26) rfl (.cons (k := 67) rfl .nil))))))))))) (.cons (k := 0) rfl (.cons (k := 1) rfl (.cons (k := 102) rfl (.cons (k := 109) rfl (.cons (k := 113) rfl (.cons (k := 123) rfl (.cons (k := 150) rfl (.cons (k := 151) rfl (.cons (k := 180) rfl .nil))))))))) ?_
            refine W.cond rfl (fun hc67 => ?_) (fun hc67 => ?_)
            ·
              refine W.exit ?_
              refine N.then_exit ?_
              refine N.block_ne rfl ?_
              refine N.then_exit ?_
              refine N.block_eq ?_
              refine N.next ?_
              refine W.keep (.cons (k := 2) rfl (.cons (k := 5) rfl (.cons (k := 7) rfl (.cons (k := 24) rfl (.cons (k := 25) rfl (.cons (k := 26) rfl .nil)))))) (.cons (k := 0) rfl (.cons (k := 1) rfl (.cons (k := 102) rfl (.cons (k := 109) rfl (.cons (k := 113) rfl (.cons (k := 123) rfl (.cons (k := 150) rfl (.cons (k := 151) rfl (.cons (k := 180) rfl .nil))))))))) ?_
              refine W.region ?_
              refine RL.q (Yld.bin rfl rfl (by first | exact BinV.add (by omega) (by omega) | exact BinV.addW)) rfl ?_
              refine RL.q (Yld.move rfl) rfl ?_
              refine RL.nil ?_
              exact N.famK ⟨y.j + 1, y.V, y.g, y.W, y.bp, y.VP, y.MP, y.R, y.wr, y.es, y.ck, y.m, y.IW⟩ ⟨⟨by dsimp only; omega, hyF, hyE.up1 (Nat.le_succ _), hyO, hyM, hyW⟩, by dsimp only; omega⟩ (.as rfl (by first | rfl | (simp; done) | (congr 1; simp; done) | (congr 1; omega)) .nil) (.cons rfl (.cons rfl (.cons rfl (.cons rfl (.cons rfl .nil))))) (.cons rfl (.cons rfl (.cons rfl (.cons rfl (.cons rfl .nil))))) (.cons rfl (.cons rfl (.cons rfl .nil)))
            ·
              have hne : ¬ aI q.a = aI q.b := by simp at hc67; exact hc67.1
              refine W.skip ?_
              refine N.next ?_
              refine W.seq ?_
              refine W.region ?_
              refine RL.q (Yld.move rfl) rfl ?_
              refine RL.q (Yld.move rfl) rfl ?_
              refine RL.e (Eff.call ent17 [150, 151] [150, 151] (.cons rfl .nil) (fterm_ct hyF (aI_lt q.a)) rfl rfl rfl rfl (by rintro _ _ ⟨_, rfl⟩; rfl)) rfl ?_
              rintro _ _ ⟨_, ⟨rfl, rfl⟩, rfl⟩
              refine RL.e (Eff.call ent18 [150, 151] [150, 151] (.cons rfl (.cons rfl .nil)) (fobs_ct hyF (aI_lt q.b) (y.V (aI q.a)).tm) rfl rfl rfl rfl (by rintro _ _ ⟨_, _, _, _, rfl⟩; rfl)) rfl ?_
              rintro _ _ ⟨_, ⟨VP3, MP3, rfl, hF3, rfl⟩, rfl⟩
              obtain ⟨v2, e2⟩ : ∃ v2, obs (y.V (aI q.b)) (y.V (aI q.a)).tm = v2 := ⟨_, rfl⟩
              rw [e2] at hF3
              have hab : aI q.a ≠ aI q.b := hne
              have ea2 : updV y.V (aI q.b) v2 (aI q.a) = y.V (aI q.a) := updV_ne _ _ hab
              refine RL.nil ?_
              refine N.next ?_
              refine W.keep (.cons (k := 2) rfl (.cons (k := 5) rfl (.cons (k := 7) rfl (.cons (k := 9) rfl (.cons (k := 10) rfl (.cons (k := 11) rfl (.cons (k := 12) rfl (.cons (k := 24) rfl (.cons (k := 25) rfl (.cons (k := 26) rfl .nil)))))))))) (.cons (k := 0) rfl (.cons (k := 1) rfl (.cons (k := 102) rfl (.cons (k := 109) rfl (.cons (k := 113) rfl (.cons (k := 123) rfl (.cons (k := 150) rfl (.cons (k := 151) rfl (.cons (k := 180) rfl .nil))))))))) ?_
              refine W.draw (.q 0 (.q 1 (.q 2 (.q 3 (.q 4 (.q 5 (.q 6 (.q 7 (.q 9 (.q 10 (.q 11 (.q 13 (.q 14 (.one 8 (.one 12 (.one 15 (.one 16 .done))))))))))))))))) (.cons (k := 0) rfl (.cons (k := 1) rfl (.cons (k := 102) rfl (.cons (k := 109) rfl (.cons (k := 113) rfl (.cons (k := 123) rfl (.cons (k := 180) rfl .nil))))))) mix (by kernel_rfl) (by kernel_rfl) ?_
              refine DL.q rfl (Yld.move rfl) rfl ?_
              refine DL.q rfl (Yld.fieldAddr fo39_2 rfl) rfl ?_
              refine DL.q rfl (Yld.load1 (c := 109) Try.underlying3 rfl rfl rfl (by first | exact single_self _ _ | exact pset_self _ _ _ | assumption) rfl) rfl ?_
              refine DL.q rfl (Yld.bin rfl rfl (by first | exact BinV.rem (by omega) (by omega) | exact BinV.remW (by omega))) rfl ?_
              refine DL.q rfl (Yld.bin rfl rfl (by first | exact BinV.add (by omega) (by omega) | exact BinV.addW)) rfl ?_
              refine DL.q rfl (Yld.eq (v' := .int .i64 ((aI q.b : Nat) : Int)) (Yld.bin rfl rfl (by first | exact BinV.rem (by omega) (by omega) | exact BinV.remW (by omega))) (by rw [← aI_eq])) rfl ?_
              refine DL.q rfl (Yld.eq (v' := .int .i64 (((aI q.b : Nat) : Int) + 1)) (Yld.bin rfl rfl (by first | exact BinV.add (by omega) (by omega) | exact BinV.addW)) (by rw [Int.add_comm])) rfl ?_
              refine DL.q rfl (Yld.move rfl) rfl ?_
              refine DL.q rfl (Yld.move rfl) rfl ?_
              refine DL.q rfl (Yld.move rfl) rfl ?_
              refine DL.q rfl (Yld.move rfl) rfl ?_
              refine DL.q rfl (Yld.fieldAddr fo39_3 rfl) rfl ?_
              refine DL.q rfl (Yld.load1 (c := 109) Try.underlying4 rfl rfl rfl (by first | exact single_self _ _ | exact pset_self _ _ _ | assumption) rfl) rfl ?_
              refine DL.one rfl (Eff.call ent17 [150, 151] [150, 151] (.cons rfl .nil) (fterm_ct hF3 (aI_lt q.a)) rfl rfl rfl rfl (by rintro _ _ ⟨_, rfl⟩; rfl)) rfl (by rintro _ _ ⟨_, ⟨rfl, rfl⟩, rfl⟩; repeat (first | exact .nil | refine .cons rfl ?_)) ?_
              rintro _ _ ⟨_, ⟨rfl, rfl⟩, rfl⟩
              rw [ea2]
              refine DL.one rfl (Eff.call ent17 [150, 151] [150, 151] (.cons rfl .nil) (fterm_ct hF3 (aI_lt q.a)) rfl rfl rfl rfl (by rintro _ _ ⟨_, rfl⟩; rfl)) rfl (by rintro _ _ ⟨_, ⟨rfl, rfl⟩, rfl⟩; repeat (first | exact .nil | refine .cons rfl ?_)) ?_
              rintro _ _ ⟨_, ⟨rfl, rfl⟩, rfl⟩
              rw [ea2]
              refine DL.one rfl (Eff.call ent19 [150, 151] [150, 151] (.cons rfl (.cons rfl (.cons rfl (.cons rfl .nil)))) (fgrant_ct hF3 (aI_lt q.b) (((aI q.a : Nat) : Int) + 1) (y.V (aI q.a)).tm q.y) rfl rfl rfl rfl (by rintro _ _ ⟨_, _, _, _, rfl⟩; rfl)) rfl (by rintro _ _ ⟨_, ⟨VP6, MP6, rfl, hF6, rfl⟩, rfl⟩; repeat (first | exact .nil | refine .cons rfl ?_)) ?_
              rintro _ _ ⟨_, ⟨VP6, MP6, rfl, hF6, rfl⟩, rfl⟩
              rw [updV_self] at hF6 ⊢
              obtain ⟨v3, e3⟩ : ∃ v3, gr v2 (((aI q.a : Nat) : Int) + 1) (y.V (aI q.a)).tm q.y = v3 := ⟨_, rfl⟩
              rw [e3, show updV (updV y.V (aI q.b) v2) (aI q.b) v3 = updV y.V (aI q.b) v3 by funext j; unfold updV; split <;> rfl] at hF6
              have ea3 : updV y.V (aI q.b) v3 (aI q.a) = y.V (aI q.a) := updV_ne _ _ hab
              refine DL.one rfl (Eff.call ent22 [150, 151] [150, 151] (.cons rfl (.cons rfl (.cons rfl (.cons rfl .nil)))) (fcount_ct hF6 (aI_lt q.a) (((aI q.b : Nat) : Int) + 1) (y.V (aI q.a)).tm (!gno v2 (((aI q.a : Nat) : Int) + 1) (y.V (aI q.a)).tm q.y)) rfl rfl rfl rfl (by rintro _ _ ⟨_, _, _, _, rfl⟩; rfl)) rfl (by rintro _ _ ⟨_, ⟨VP', MP', rfl, hF, rfl⟩, rfl⟩; repeat (first | exact .nil | refine .cons rfl ?_)) ?_
              rintro _ _ ⟨_, ⟨VP', MP', rfl, hF, rfl⟩, rfl⟩
              rw [ea3] at hF
              refine DL.done ?_
              refine N.block_normal ?_
              obtain ⟨g', hE'⟩ := hyE.ask (aI_lt q.a) (aI_lt q.b) hab e2 e3
              exact N.famK ⟨_, g', VP', MP'⟩ ⟨hF, hE'⟩ .nil (.cons rfl (.cons rfl (.cons rfl (.cons rfl (.cons rfl (.cons rfl (.cons rfl (.cons rfl .nil)))))))) (.cons rfl (.cons rfl .nil)) (.cons rfl (.cons rfl (.cons rfl (.cons rfl (.cons rfl (.cons rfl (.cons rfl .nil)))))))
          ·
            refine W.seq ?_
            refine W.region ?_
            refine RL.q (Yld.bin rfl rfl BinV.eql) rfl ?_
            refine RL.q (Yld.assign rfl) rfl ?_
            refine RL.nil ?_
            refine N.next ?_
            refine W.keep (.cons (k := 2) rfl (.cons (k := 5) rfl (.cons (k := 7) rfl (.cons (k := 10) rfl (.cons (k := 12) rfl (.cons (k := 24) rfl (.cons (k := 25) rfl (.cons (k := 26) rfl (.cons (k := 89) rfl .nil))))))))) (.cons (k := 0) rfl (.cons (k := 1) rfl (.cons (k := 102) rfl (.cons (k := 109) rfl (.cons (k := 113) rfl (.cons (k := 123) rfl (.cons (k := 150) rfl (.cons (k := 151) rfl (.cons (k := 180) rfl .nil))))))))) ?_
            first | refine W.condD rfl (fun hc89 => ?_) (fun hc89 => ?_) | (refine W.cond rfl (fun hc89 => ?_) (fun hc89 => ?_) <;> try simp only [Bool.or_eq_true, Bool.and_eq_true, Bool.not_eq_true', Bool.not_eq_false', decide_eq_true_eq, Bool.or_eq_false_iff, Bool.and_eq_false_iff, decide_eq_false_iff_not, beq_iff_eq, beq_eq_false_iff_ne, ne_eq, Decidable.not_not] at hc89)
            ·
              refine W.seq ?_
              refine W.region ?_
              refine RL.q (Yld.move rfl) rfl ?_
              refine RL.q (Yld.move rfl) rfl ?_
              refine RL.q (Yld.eq (v' := .int .i64 ((aI q.a : Nat) : Int)) (Yld.bin rfl rfl (by first | exact BinV.sub (by omega) (by omega) | exact BinV.subW)) (by simp)) rfl ?_
              refine RL.q (Yld.move rfl) rfl ?_
              refine RL.q (Yld.move rfl) rfl ?_
              refine RL.e (Eff.call ent17 [150, 151] [150, 151] (.cons rfl .nil) (fterm_ct hyF (aI_lt q.a)) rfl rfl rfl rfl (by rintro _ _ ⟨_, rfl⟩; rfl)) rfl ?_
              rintro _ _ ⟨_, ⟨rfl, rfl⟩, rfl⟩
              refine RL.q (Yld.move rfl) rfl ?_
              refine RL.e (Eff.call ent20 [150, 151] [150, 151] (.cons rfl .nil) (fvoted_ct hyF (aI_lt q.a)) rfl rfl rfl rfl (by rintro _ _ ⟨_, rfl⟩; rfl)) rfl ?_
              rintro _ _ ⟨_, ⟨rfl, rfl⟩, rfl⟩
              refine RL.e (Eff.call ent16 [] [160] (.cons rfl (.cons rfl (.cons rfl .nil))) (vnew_ct (((aI q.a : Nat) : Int) + 1) (y.V (aI q.a)).tm (y.V (aI q.a)).vd) rfl rfl rfl rfl (by rintro _ _ ⟨_, _, rfl⟩; rfl)) rfl ?_
              rintro _ _ ⟨_, ⟨bq, rfl, rfl⟩, rfl⟩
              refine RL.fact (p := y.VP.disj (single bq (VB (nw (((aI q.a : Nat) : Int) + 1) (y.V (aI q.a)).tm (y.V (aI q.a)).vd) none))) (fun E w hm => hm.dis 150 160 _ _ (by decide) rfl rfl) fun hdj => ?_
              refine RL.q (Yld.indexRow Try.underlying65 sz35 rfl rfl hyO.sl (by rw [rows_len]; exact hi5) (by omega) (by rw [rows_len]; exact Int.ofNat_lt.2 (aI_lt q.a))) rfl ?_
              refine RL.e0 (Eff.storeRow (tc := 113) (j := 0) sz35 rfl rfl rfl hyO hra rfl rfl rfl rfl rfl) ?_
              rintro _ _ ⟨Hb, hOb, rfl⟩
              refine RL.nil ?_
              refine N.next ?_
              refine W.keep (.cons (k := 2) rfl (.cons (k := 5) rfl (.cons (k := 7) rfl (.cons (k := 24) rfl (.cons (k := 25) rfl (.cons (k := 26) rfl .nil)))))) (.cons (k := 0) rfl (.cons (k := 1) rfl (.cons (k := 102) rfl (.cons (k := 109) rfl (.cons (k := 113) rfl (.cons (k := 123) rfl (.cons (k := 150) rfl (.cons (k := 151) rfl (.cons (k := 160) rfl (.cons (k := 180) rfl .nil)))))))))) ?_
              refine W.exit ?_
              refine N.block_ne rfl ?_
              refine N.then_exit ?_
              refine N.block_eq ?_
              refine N.next ?_
              refine W.region ?_
              refine RL.q (Yld.bin rfl rfl (by first | exact BinV.add (by omega) (by omega) | exact BinV.addW)) rfl ?_
              refine RL.q (Yld.move rfl) rfl ?_
              refine RL.nil ?_
              refine N.merge 150 160 rfl rfl rfl fun ha => ?_
              exact N.famK ⟨y.j + 1, updV y.V (aI q.a) (nw (((aI q.a : Nat) : Int) + 1) (y.V (aI q.a)).tm (y.V (aI q.a)).vd), y.g, y.W, fun j => if j = aI q.a then bq else y.bp j, hjoin y.VP (single bq (VB (nw (((aI q.a : Nat) : Int) + 1) (y.V (aI q.a)).tm (y.V (aI q.a)).vd) none)), y.MP, Hb, y.wr, y.es, y.ck, y.m, y.IW⟩ ⟨⟨by dsimp only; omega, hyF.anew (aI_lt q.a) rfl hdj, (hyE.anew (aI_lt q.a)).up1 (Nat.le_succ _), by show Own Hb n.p n.c _ 1 (rows (fun j => if j = aI q.a then bq else y.bp j) 5); rw [← rows_set _ (aI_lt q.a)]; exact hOb, hyM, hyW⟩, by dsimp only; omega⟩ (.as rfl (by first | rfl | (simp; done) | (congr 1; simp; done) | (congr 1; omega)) .nil) (.cons rfl (.cons rfl (.cons rfl (.cons rfl (.cons rfl .nil))))) (.cons rfl (.cons rfl (.cons rfl (.cons rfl (.cons rfl .nil))))) (.cons rfl (.cons rfl (.cons rfl .nil)))
            ·
              refine W.skip ?_
              refine N.block_normal ?_
              exact N.famK ⟨y.V, y.g, y.VP, y.MP⟩ ⟨hyF, hyE.up1 (Nat.le_succ _)⟩ .nil (.cons rfl (.cons rfl (.cons rfl (.cons rfl (.cons rfl (.cons rfl (.cons rfl (.cons rfl .nil)))))))) (.cons rfl (.cons rfl .nil)) (.cons rfl (.cons rfl (.cons rfl (.cons rfl (.cons rfl (.cons rfl (.cons rfl .nil)))))))
      rintro f ⟨hfF, hfE⟩
      refine W.keep (.cons (k := 2) rfl (.cons (k := 5) rfl (.cons (k := 7) rfl (.cons (k := 10) rfl (.cons (k := 12) rfl (.cons (k := 24) rfl (.cons (k := 25) rfl (.cons (k := 26) rfl .nil)))))))) (.cons (k := 150) rfl (.cons (k := 151) rfl (.cons (k := 0) rfl (.cons (k := 1) rfl (.cons (k := 102) rfl (.cons (k := 109) rfl (.cons (k := 113) rfl (.cons (k := 123) rfl (.cons (k := 180) rfl .nil))))))))) ?_
      refine W.seq ?_
      refine W.region ?_
      refine RL.q (Yld.move rfl) rfl ?_
      refine RL.q (Yld.loadW (c := 102) Try.underlying24 rfl sz24 rfl rfl (by first | exact single_self _ _ | exact pset_self _ _ _ | assumption) rfl) rfl ?_
      refine RL.e (Eff.call ent30 [150, 151, 1] [150, 151, 1] (.cons rfl (.cons rfl .nil)) (fwon_ct hfF (aI_lt q.a) (y.j + 1) (by omega) (hfE.ok _ (aI_lt q.a)) x H1 hx hbo hbn) rfl rfl rfl rfl (by rintro _ _ ⟨_, rfl⟩; rfl)) rfl ?_
      rintro _ _ ⟨_, ⟨rfl, rfl⟩, rfl⟩
      refine RL.nil ?_
      refine N.next ?_
      refine W.cond rfl (fun hc103 => ?_) (fun hc103 => ?_)
      ·
        refine W.cutK (ι := GI) (fun g => (MapP (fun a : Int => Value.int .i64 a) g.es g.ck g.m ∧ Wn y.W g.wr g.m g.IW ∧ g.wr (f.V (aI q.a)).tm = some g.b)) (fun g => []) (fun g => [(123, single b23 (.map g.es g.ck)), (180, g.IW)]) (.cons (k := 2) rfl (.cons (k := 5) rfl (.cons (k := 7) rfl (.cons (k := 10) rfl (.cons (k := 12) rfl (.cons (k := 24) rfl (.cons (k := 25) rfl (.cons (k := 26) rfl .nil)))))))) (.cons (k := 0) rfl (.cons (k := 1) rfl (.cons (k := 102) rfl (.cons (k := 109) rfl (.cons (k := 113) rfl (.cons (k := 150) rfl (.cons (k := 151) rfl .nil))))))) ?_ ?_
        ·
          refine W.seq ?_
          refine W.region ?_
          refine RL.q (Yld.move rfl) rfl ?_
          refine RL.q (Yld.move rfl) rfl ?_
          refine RL.e (Eff.call ent17 [150, 151] [150, 151] (.cons rfl .nil) (fterm_ct hfF (aI_lt q.a)) rfl rfl rfl rfl (by rintro _ _ ⟨_, rfl⟩; rfl)) rfl ?_
          rintro _ _ ⟨_, ⟨rfl, rfl⟩, rfl⟩
          refine RL.q (Yld.eq (v' := .map (y.wr (f.V (aI q.a)).tm)) (Yld.lookup (c := 123) Try.underlying44 (keyInt Try.underlying3) zv30 rfl rfl rfl (by assumption)) (by rw [hyW.out]; cases y.wr (f.V (aI q.a)).tm <;> rfl)) rfl ?_
          refine RL.q (Yld.bin rfl rfl (BinV.eqlMN Try.underlying30)) rfl ?_
          refine RL.nil ?_
          refine N.next ?_
          refine W.keep (.cons (k := 2) rfl (.cons (k := 5) rfl (.cons (k := 7) rfl (.cons (k := 10) rfl (.cons (k := 12) rfl (.cons (k := 24) rfl (.cons (k := 25) rfl (.cons (k := 26) rfl (.cons (k := 108) rfl .nil))))))))) (.cons (k := 0) rfl (.cons (k := 1) rfl (.cons (k := 102) rfl (.cons (k := 109) rfl (.cons (k := 113) rfl (.cons (k := 123) rfl (.cons (k := 150) rfl (.cons (k := 151) rfl (.cons (k := 180) rfl .nil))))))))) ?_
          refine W.cond rfl (fun hc108 => ?_) (fun hc108 => ?_)
          ·
            have hwn : y.wr (f.V (aI q.a)).tm = none := by simpa using hc108
            refine W.region ?_
            refine RL.q (Yld.move rfl) rfl ?_
            refine RL.q (Yld.move rfl) rfl ?_
            refine RL.e (Eff.call ent17 [150, 151] [150, 151] (.cons rfl .nil) (fterm_ct hfF (aI_lt q.a)) rfl rfl rfl rfl (by rintro _ _ ⟨_, rfl⟩; rfl)) rfl ?_
            rintro _ _ ⟨_, ⟨rfl, rfl⟩, rfl⟩
            refine RL.e (Eff.makeMap 212) rfl ?_
            rintro _ _ ⟨b112, rfl, rfl⟩
            refine RL.fact (p := y.IW.disj (single b112 (.map #[] 0))) (fun E w hm => hm.dis 180 212 _ _ (by decide) rfl rfl) fun hdj2 => ?_
            refine RL.e0 (Eff.mapUpdate (c := 123) (k := (f.V (aI q.a)).tm) Try.underlying44 (keyInt Try.underlying3) rfl rfl rfl rfl hyM) ?_
            rintro _ _ ⟨es1, ck1, hM1, rfl⟩
            refine RL.nil ?_
            refine N.merge 180 212 rfl rfl rfl fun ha => ?_
            exact N.famK ⟨_, es1, ck1, _, _, b112⟩ ⟨hM1, hyW.add hwn hdj2, if_pos rfl⟩ .nil (.cons rfl (.cons rfl (.cons rfl (.cons rfl (.cons rfl (.cons rfl (.cons rfl (.cons rfl .nil)))))))) (.cons rfl (.cons rfl .nil)) (.cons rfl (.cons rfl (.cons rfl (.cons rfl (.cons rfl (.cons rfl (.cons rfl .nil)))))))
          ·
            obtain ⟨wb, hwb⟩ : ∃ wb, y.wr (f.V (aI q.a)).tm = some wb := by
              cases h : y.wr (f.V (aI q.a)).tm with
              | none => rw [h] at hc108; cases hc108
              | some b => exact ⟨b, rfl⟩
            refine W.skip ?_
            exact N.famK ⟨y.wr, y.es, y.ck, y.m, y.IW, wb⟩ ⟨hyM, hyW, hwb⟩ .nil (.cons rfl (.cons rfl (.cons rfl (.cons rfl (.cons rfl (.cons rfl (.cons rfl (.cons rfl .nil)))))))) (.cons rfl (.cons rfl .nil)) (.cons rfl (.cons rfl (.cons rfl (.cons rfl (.cons rfl (.cons rfl (.cons rfl .nil)))))))
        rintro g ⟨hgM, hgW, hgb⟩
        refine W.keep (.cons (k := 2) rfl (.cons (k := 5) rfl (.cons (k := 7) rfl (.cons (k := 10) rfl (.cons (k := 12) rfl (.cons (k := 24) rfl (.cons (k := 25) rfl (.cons (k := 26) rfl .nil)))))))) (.cons (k := 123) rfl (.cons (k := 180) rfl (.cons (k := 0) rfl (.cons (k := 1) rfl (.cons (k := 102) rfl (.cons (k := 109) rfl (.cons (k := 113) rfl (.cons (k := 150) rfl (.cons (k := 151) rfl .nil))))))))) ?_
        refine W.region ?_
        refine RL.q (Yld.move rfl) rfl ?_
        refine RL.q (Yld.move rfl) rfl ?_
        refine RL.e (Eff.call ent17 [150, 151] [150, 151] (.cons rfl .nil) (fterm_ct hfF (aI_lt q.a)) rfl rfl rfl rfl (by rintro _ _ ⟨_, rfl⟩; rfl)) rfl ?_
        rintro _ _ ⟨_, ⟨rfl, rfl⟩, rfl⟩
        refine RL.q (Yld.eq (v' := .map (some g.b)) (Yld.lookup (c := 123) Try.underlying44 (keyInt Try.underlying3) zv30 rfl rfl rfl (by assumption)) (by rw [hgW.out, hgb]; rfl)) rfl ?_
        refine RL.q (Yld.move rfl) rfl ?_
        obtain ⟨es2, ck2, q2, hI2, hM2, hq2⟩ := hgW.inn _ _ hgb
        refine RL.imp (Imp.carve (c := 180) (c' := 181) rfl hI2 rfl) ?_
        refine RL.e0 (Eff.mapUpdate (c := 181) (k := ((aI q.a : Nat) : Int) + 1) Try.underlying30 (keyInt Try.underlying3) rfl rfl rfl rfl hM2) ?_
        rintro _ _ ⟨es9, ck9, hM9, rfl⟩
        refine RL.nil ?_
        refine N.block_normal ?_
        refine N.next ?_
        refine W.keep (.cons (k := 2) rfl (.cons (k := 5) rfl (.cons (k := 7) rfl (.cons (k := 24) rfl (.cons (k := 25) rfl (.cons (k := 26) rfl .nil)))))) (.cons (k := 0) rfl (.cons (k := 1) rfl (.cons (k := 102) rfl (.cons (k := 109) rfl (.cons (k := 113) rfl (.cons (k := 123) rfl (.cons (k := 150) rfl (.cons (k := 151) rfl (.cons (k := 180) rfl (.cons (k := 181) rfl .nil)))))))))) ?_
        refine W.region ?_
        refine RL.q (Yld.bin rfl rfl (by first | exact BinV.add (by omega) (by omega) | exact BinV.addW)) rfl ?_
        refine RL.q (Yld.move rfl) rfl ?_
        refine RL.nil ?_
        refine N.imp (Imp.merge (c := 180) (c' := 181) rfl rfl rfl) ?_
        refine N.imp (Imp.as (c := 180) rfl hjoin_single) ?_
        exact N.famK ⟨y.j + 1, f.V, f.g, _, y.bp, f.VP, f.MP, y.R, g.wr, g.es, g.ck, g.m, _⟩ ⟨⟨by dsimp only; omega, hfF, hfE.record (aI_lt q.a) hc103, hyO, hgM, hgW.put hgb hq2 hM9⟩, by dsimp only; omega⟩ (.as rfl (by first | rfl | (simp; done) | (congr 1; simp; done) | (congr 1; omega)) .nil) (.cons rfl (.cons rfl (.cons rfl (.cons rfl (.cons rfl .nil))))) (.cons rfl (.cons rfl (.cons rfl (.cons rfl (.cons rfl .nil))))) (.cons rfl (.cons rfl (.cons rfl .nil)))
      ·
        refine W.skip ?_
        refine N.block_normal ?_
        refine N.next ?_
        refine W.keep (.cons (k := 2) rfl (.cons (k := 5) rfl (.cons (k := 7) rfl (.cons (k := 24) rfl (.cons (k := 25) rfl (.cons (k := 26) rfl .nil)))))) (.cons (k := 0) rfl (.cons (k := 1) rfl (.cons (k := 102) rfl (.cons (k := 109) rfl (.cons (k := 113) rfl (.cons (k := 123) rfl (.cons (k := 150) rfl (.cons (k := 151) rfl (.cons (k := 180) rfl .nil))))))))) ?_
        refine W.region ?_
        refine RL.q (Yld.bin rfl rfl (by first | exact BinV.add (by omega) (by omega) | exact BinV.addW)) rfl ?_
        refine RL.q (Yld.move rfl) rfl ?_
        refine RL.nil ?_
        exact N.famK ⟨y.j + 1, f.V, f.g, y.W, y.bp, f.VP, f.MP, y.R, y.wr, y.es, y.ck, y.m, y.IW⟩ ⟨⟨by dsimp only; omega, hfF, hfE, hyO, hyM, hyW⟩, by dsimp only; omega⟩ (.as rfl (by first | rfl | (simp; done) | (congr 1; simp; done) | (congr 1; omega)) .nil) (.cons rfl (.cons rfl (.cons rfl (.cons rfl (.cons rfl .nil))))) (.cons rfl (.cons rfl (.cons rfl (.cons rfl (.cons rfl .nil))))) (.cons rfl (.cons rfl (.cons rfl .nil)))
    ·
      refine W.exit ?_
      refine N.then_exit ?_
      refine N.then_exit ?_
      refine N.block_eq ?_
      refine N.next ?_
      refine W.keep (.cons (k := 7) rfl .nil) (.cons (k := 0) rfl (.cons (k := 1) rfl (.cons (k := 102) rfl (.cons (k := 113) rfl (.cons (k := 123) rfl (.cons (k := 150) rfl (.cons (k := 151) rfl (.cons (k := 180) rfl .nil)))))))) ?_
      refine W.seq ?_
      refine W.region ?_
      refine RL.q (Yld.move rfl) rfl ?_
      refine RL.q (Yld.assign rfl) rfl ?_
      refine RL.nil ?_
      refine N.next ?_
      refine W.ret ?_
      exact N.retBy [1, 123, 180] (.cons (.tmp rfl) .nil) rfl rfl rfl rfl ⟨b23, y.es, y.ck, y.m, y.IW, y.wr, y.W, rfl, hyM, hyW, fun t c d h1 h2 => hyE.one h1 h2, rfl⟩

end Go.Proofs.Ytldnbbnaighakaa
