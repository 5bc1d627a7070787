/- replog.Merge. Written by program (walk2.py). -/
import Derived.Test.YtdkefpnebmmhlaaP14
namespace Go.Proofs.Ytdkefpnebmmhlaa
open SL Cfg Rep
set_option linter.unusedVariables false
set_option linter.unusedSimpArgs false
theorem ent71 : Ent Try.prog 71 := ⟨_, _, Try.func71, by kernel_rfl, rfl⟩
theorem ent73 : Ent Try.prog 73 := ⟨_, _, Try.func73, by kernel_rfl, rfl⟩
theorem ent68 : Ent Try.prog 68 := ⟨_, _, Try.func68, by kernel_rfl, rfl⟩
theorem ent69 : Ent Try.prog 69 := ⟨_, _, Try.func69, by kernel_rfl, rfl⟩
theorem ent70 : Ent Try.prog 70 := ⟨_, _, Try.func70, by kernel_rfl, rfl⟩
def Rep.MergeS (g : Lg) (prev pt : Int) (l : List En) (r1 : Int) (ok : Bool) (es' : List En) : Prop :=
  (¬ (mtch g prev pt = true ∧ l.any (contra g) = false) ∧ ok = false ∧ r1 = max g.ix (min g.last.1 (prev - 1)) ∧ es' = g.es) ∨
  ((mtch g prev pt = true ∧ l.any (contra g) = false) ∧ ok = true ∧ r1 = prev + l.length ∧ ∃ r : Int, IxE (conf g) l r ∧ es' = if r < 0 then g.es else g.es.take (prev + r - g.ix).toNat ++ l.drop r.toNat)
/-- the first entry that is not the log's own lies at most one behind the log's end -/
theorem Rep.first_at {g : Lg} (hg : LOK g) {prev pt : Int} {tA : Nat → Int} {l : List En} (hc : Chain prev tA l) (hm : mtch g prev pt = true) {n : Nat} {e : En} (he : l[n]? = some e) (hq : conf g e = true) (hb : ∀ (i : Nat) e, i < n → l[i]? = some e → conf g e = false) : g.ix < e.ix ∧ e.ix ≤ g.ix + g.es.length + 1 := by
  have h1 := (hc n e he).1
  have h2 : g.ix < e.ix := by
    unfold conf at hq
    simp only [Bool.and_eq_true, decide_eq_true_eq] at hq; exact hq.1
  refine ⟨h2, ?_⟩
  have term_in : ∀ i, (g.term i).2 = true → i ≤ g.ix + g.es.length := fun i h => by
    unfold Lg.term at h
    split at h
    · omega
    · split at h
      · cases h
      · omega
  rcases Nat.eq_zero_or_pos n with h | h
  · subst h
    unfold mtch at hm
    simp only [Bool.or_eq_true, decide_eq_true_eq, Bool.and_eq_true] at hm
    rcases hm with h3 | ⟨h3, _⟩
    · omega
    · have := term_in _ h3; omega
  · have hlt := (List.getElem?_eq_some_iff.1 he).1
    have hp : l[n - 1]? = some l[n - 1] := List.getElem?_eq_getElem (by omega)
    have h4 := hb (n - 1) _ (by omega) hp
    have h5 := (hc (n - 1) _ hp).1
    unfold conf at h4
    simp only [Bool.and_eq_false_iff, decide_eq_false_iff_not, Bool.or_eq_false_iff, Bool.not_eq_false'] at h4
    rcases h4 with h6 | ⟨h6, _⟩
    · omega
    · have := term_in _ h6; omega

set_option maxRecDepth 100000 in
set_option maxHeartbeats 1600000 in
theorem merge_ct (lb : Nat) (g : Lg) (hg : LOK g) (H2 : PH) (p : Option Addr) (c : Nat) (hO : Own H2 p c 82 15 (g.es.map En.c)) (l : List En) (H1 : PH) (pe : Option Addr) (ce : Nat) (hE : Sl H1 pe ce 15 (l.map En.c)) (prev : Int) (hp0 : 0 ≤ prev) (hp1 : prev ≤ 1099511627776) (hl : l.length ≤ 1000) (tA : Nat → Int) (ht0 : 0 ≤ tA 0) (hc : Chain prev tA l) : Ct Try.prog 41 [.pointer (some ⟨lb, 0, none⟩), .int .i64 prev, .int .i64 (tA 0), .slice pe l.length ce] [single lb (.cells [.int .i64 g.ix, .int .i64 g.tm, .slice p g.es.length c].toArray 112 (0, 0)), H2, H1] (fun v Hs => ∃ r1 ok es' H' p' c' Hr pr n' cr, v = .tuple [.int .i64 r1, .slice pr n' cr, .bool ok].toArray ∧ MergeS g prev (tA 0) l r1 ok es' ∧ Own H' p' c' 82 15 (es'.map En.c) ∧ Hs = [single lb (.cells [.int .i64 g.ix, .int .i64 g.tm, .slice p' es'.length c'].toArray 112 (0, 0)), H', H1, Hr]) := by
  refine Ct.body Try.func41 rfl Try.ntmps41 rfl ?_
  intro E F
  have hS := hO.sl
  have hmx := hS.len_le
  simp only [List.length_map, maxLen] at hmx
  obtain ⟨g0, g1, g2, g3⟩ := hg
  have hg : LOK g := ⟨g0, g1, g2, g3⟩
  have hli := Lg.last_ix hg
  have hme := hE.len_le
  simp only [List.length_map, maxLen] at hme
  have hix : ∀ e ∈ l, 0 ≤ e.ix ∧ e.ix ≤ 4611686018427387904 := fun e he => by
    obtain ⟨i, hi⟩ := List.getElem?_of_mem he
    have h1 := (hc i e hi).1
    have h2 := (List.getElem?_eq_some_iff.1 hi).1
    omega
  refine W.seq ?_
  refine W.region ?_
  refine RL.e (Eff.box 104 _ rfl rfl) rfl ?_
  rintro _ _ ⟨b4, rfl, rfl⟩
  refine RL.q (Yld.assign rfl) rfl ?_
  refine RL.q (Yld.assign rfl) rfl ?_
  refine RL.q (Yld.assign rfl) rfl ?_
  refine RL.nil ?_
  refine N.next ?_
  refine W.keep (.cons (k := 1) rfl (.cons (k := 2) rfl (.cons (k := 3) rfl (.cons (k := 4) rfl .nil)))) (.cons (k := 0) rfl (.cons (k := 1) rfl (.cons (k := 2) rfl (.cons (k := 3) rfl (.cons (k := 104) rfl .nil))))) ?_
  refine W.seq ?_
  refine W.seq ?_
  refine W.imp (Imp.empty _ 190) ?_
  refine W.region ?_
  refine RL.q (Yld.move rfl) rfl ?_
  refine RL.q (Yld.move rfl) rfl ?_
  refine RL.q (Yld.move rfl) rfl ?_
  refine RL.e (Eff.call ent68 [3] [3] (.cons rfl (.cons rfl (.cons rfl .nil))) (follow_ct l _ _ _ hE prev hp0 hp1 hl tA ht0 hc) rfl rfl rfl rfl (by rintro _ _ ⟨_, rfl⟩; rfl)) rfl ?_
  rintro _ _ ⟨_, ⟨rfl, rfl⟩, rfl⟩
  refine RL.q (by first | exact Yld.notD rfl | exact Yld.not rfl) rfl ?_
  refine RL.nil ?_
  refine N.next ?_
  refine W.keep (.cons (k := 1) rfl (.cons (k := 2) rfl (.cons (k := 3) rfl (.cons (k := 4) rfl (.cons (k := 19) rfl .nil))))) (.cons (k := 0) rfl (.cons (k := 1) rfl (.cons (k := 2) rfl (.cons (k := 3) rfl (.cons (k := 104) rfl (.cons (k := 190) rfl .nil)))))) ?_
  first | (refine W.as (t := 19) rfl (boolF (by first | assumption | omega | (simp; done))) ?_; refine W.condF rfl ?_) | refine W.condF rfl ?_
  refine W.skip ?_
  refine N.next ?_
  refine W.seq ?_
  refine W.region ?_
  refine RL.q (Yld.load1 (c := 104) Try.underlying39 rfl rfl rfl (by first | exact single_self _ _ | exact pset_self _ _ _ | assumption) rfl) rfl ?_
  refine RL.e (Eff.call ent37 [1, 2] [1, 2] (.cons rfl .nil) (llast_ct lb g hg _ _ _ hO) rfl rfl rfl rfl (by rintro _ _ ⟨_, rfl⟩; rfl)) rfl ?_
  rintro _ _ ⟨_, ⟨rfl, rfl⟩, rfl⟩
  refine RL.q (Yld.move rfl) rfl ?_
  refine RL.q (Yld.extract rfl rfl) rfl ?_
  refine RL.q (Yld.extract rfl rfl) rfl ?_
  refine RL.q (Yld.assign rfl) rfl ?_
  refine RL.q (Yld.assign rfl) rfl ?_
  refine RL.nil ?_
  refine N.next ?_
  refine W.keep (.cons (k := 1) rfl (.cons (k := 2) rfl (.cons (k := 3) rfl (.cons (k := 4) rfl (.cons (k := 11) rfl .nil))))) (.cons (k := 0) rfl (.cons (k := 1) rfl (.cons (k := 2) rfl (.cons (k := 3) rfl (.cons (k := 104) rfl (.cons (k := 190) rfl .nil)))))) ?_
  refine W.seq ?_
  refine W.seq ?_
  refine W.region ?_
  refine RL.q (Yld.load1 (c := 104) Try.underlying39 rfl rfl rfl (by first | exact single_self _ _ | exact pset_self _ _ _ | assumption) rfl) rfl ?_
  refine RL.q (Yld.move rfl) rfl ?_
  refine RL.q (Yld.move rfl) rfl ?_
  refine RL.e (Eff.call ent69 [1, 2] [1, 2] (.cons rfl (.cons rfl (.cons rfl .nil))) (matches_ct lb g hg _ _ _ hO prev (by omega) (by omega) (tA 0)) rfl rfl rfl rfl (by rintro _ _ ⟨_, rfl⟩; rfl)) rfl ?_
  rintro _ _ ⟨_, ⟨rfl, rfl⟩, rfl⟩
  refine RL.q (by first | exact Yld.notD rfl | exact Yld.not rfl) rfl ?_
  refine RL.q (Yld.move rfl) rfl ?_
  refine' RL.or (t := 30) (d := 35) 5 rfl (.cons (k := 1) rfl (.cons (k := 2) rfl (.cons (k := 3) rfl (.cons (k := 4) rfl (.cons (k := 11) rfl (.cons (k := 25) rfl (.cons (k := 26) rfl (.cons (k := 27) rfl (.cons (k := 28) rfl (.cons (k := 29) rfl .nil)))))))))) (.cons (k := 0) rfl (.cons (k := 1) rfl (.cons (k := 2) rfl (.cons (k := 3) rfl (.cons (k := 104) rfl (.cons (k := 190) rfl .nil)))))) ?_ ?_ ?_
  rotate_left 1
  ·
    intro hg30
    refine RL.gq rfl rfl (Yld.move rfl) rfl ?_
    refine RL.gq rfl rfl (Yld.load1 (c := 104) Try.underlying39 rfl rfl rfl (by first | exact single_self _ _ | exact pset_self _ _ _ | assumption) rfl) rfl ?_
    refine RL.gq rfl rfl (Yld.makeFunc (eval1 rfl) eval0) rfl ?_
    refine RL.ge rfl rfl (Eff.call ent70 [3, 1, 2] [3, 1, 2] (.cons rfl (.cons rfl .nil)) (econtains_ct l _ _ _ hE 71 [.pointer (some ⟨lb, 0, none⟩)] [] _ _ (contra g) ent71 (fun e he => contra_ct lb g hg _ _ _ hO e)) rfl rfl rfl rfl (by rintro _ _ ⟨_, rfl⟩; rfl)) rfl ?_
    rintro _ _ ⟨_, ⟨rfl, rfl⟩, rfl⟩
    refine RL.q (by first | exact Yld.pickT rfl rfl | exact Yld.pickF rfl rfl) rfl ?_
    exact RL.nil (N.meet (.cons rfl (.cons rfl (.cons rfl (.cons rfl (.cons rfl (.cons rfl (.cons rfl (.cons rfl (.cons rfl (.cons rfl (.cons rfl .nil))))))))))) (.cons rfl (.cons rfl (.cons rfl (.cons rfl (.cons rfl (.cons rfl .nil)))))))
  ·
    intro hg30
    refine RL.gskip rfl rfl rfl rfl ?_
    refine RL.gskip rfl rfl rfl rfl ?_
    refine RL.gskip rfl rfl rfl rfl ?_
    refine RL.gskip rfl rfl rfl rfl ?_
    refine RL.q (by first | exact Yld.pickT rfl rfl | exact Yld.pickF rfl rfl) rfl ?_
    exact RL.nil (N.meet (.cons rfl (.cons rfl (.cons rfl (.cons rfl (.cons rfl (.cons rfl (.cons rfl (.cons rfl (.cons rfl (.cons rfl (.cons rfl .nil))))))))))) (.cons rfl (.cons rfl (.cons rfl (.cons rfl (.cons rfl (.cons rfl .nil)))))))
  refine RL.nil ?_
  refine N.next ?_
  refine W.keep (.cons (k := 1) rfl (.cons (k := 3) rfl (.cons (k := 4) rfl (.cons (k := 11) rfl (.cons (k := 35) rfl .nil))))) (.cons (k := 0) rfl (.cons (k := 1) rfl (.cons (k := 2) rfl (.cons (k := 3) rfl (.cons (k := 104) rfl (.cons (k := 190) rfl .nil)))))) ?_
  refine W.cond rfl (fun hc35 => ?_) (fun hc35 => ?_)
  ·
    have hbad : ¬ (mtch g prev (tA 0) = true ∧ l.any (contra g) = false) := by rintro ⟨h1, h2⟩; rw [h1, h2] at hc35; cases hc35
    refine W.seq ?_
    refine W.region ?_
    refine RL.q (Yld.load1 (c := 104) Try.underlying39 rfl rfl rfl (by first | exact single_self _ _ | exact pset_self _ _ _ | assumption) rfl) rfl ?_
    refine RL.q (Yld.nilP rfl) rfl ?_
    refine RL.q (Yld.fieldAddr fo112_0 rfl) rfl ?_
    refine RL.q (Yld.load1 (c := 1) Try.underlying3 rfl rfl rfl (by first | exact single_self _ _ | exact pset_self _ _ _ | assumption) rfl) rfl ?_
    refine RL.q (Yld.move rfl) rfl ?_
    refine RL.q (Yld.move rfl) rfl ?_
    refine RL.q (Yld.bin rfl rfl (by first | exact BinV.sub (by omega) (by omega) | exact BinV.subW)) rfl ?_
    refine RL.q (Yld.min2 rfl rfl) rfl ?_
    refine RL.q (Yld.max2 rfl rfl) rfl ?_
    refine RL.q (Yld.assign rfl) rfl ?_
    refine RL.q (Yld.assign rfl) rfl ?_
    refine RL.q (Yld.assign rfl) rfl ?_
    refine RL.nil ?_
    refine N.next ?_
    refine W.keep (.cons (k := 8) rfl (.cons (k := 9) rfl (.cons (k := 10) rfl .nil))) (.cons (k := 0) rfl (.cons (k := 1) rfl (.cons (k := 2) rfl (.cons (k := 3) rfl (.cons (k := 104) rfl (.cons (k := 190) rfl .nil)))))) ?_
    refine W.ret ?_
    refine N.then_ret ?_
    exact N.retBy [1, 2, 3, 190] (.cons (.tmp rfl) (.cons (.tmp rfl) (.cons (.tmp rfl) .nil))) rfl rfl rfl rfl ⟨_, _, g.es, H2, p, c, emp, none, 0, 0, rfl, .inl ⟨hbad, rfl, rfl, rfl⟩, hO, rfl⟩
  ·
    have hgood : mtch g prev (tA 0) = true ∧ l.any (contra g) = false := by simp only [Bool.or_eq_false_iff, Bool.not_eq_false'] at hc35; exact hc35
    refine W.skip ?_
    refine N.next ?_
    refine W.seq ?_
    refine W.region ?_
    refine RL.q (Yld.move rfl) rfl ?_
    refine RL.q (Yld.makeFunc eval0 (eval1 rfl)) rfl ?_
    refine RL.e (Eff.call ent72 [3, 104, 1, 2] [3, 104, 1, 2] (.cons rfl (.cons rfl .nil)) (eindex3_ct l _ _ _ hE 73 [] [.pointer (some ⟨b4, 0, none⟩)] _ _ _ (conf g) ent73 (fun e he => mergeC_ct b4 lb g hg _ _ _ hO e (by have := hix e he; omega) (hix e he).2)) rfl rfl rfl rfl (by rintro _ _ ⟨_, _, _, rfl⟩; rfl)) rfl ?_
    rintro _ _ ⟨_, ⟨r, rfl, hr, rfl⟩, rfl⟩
    refine RL.q (Yld.assign rfl) rfl ?_
    refine RL.nil ?_
    refine N.next ?_
    refine W.keep (.cons (k := 1) rfl (.cons (k := 3) rfl (.cons (k := 4) rfl (.cons (k := 13) rfl .nil)))) (.cons (k := 0) rfl (.cons (k := 1) rfl (.cons (k := 2) rfl (.cons (k := 3) rfl (.cons (k := 104) rfl (.cons (k := 190) rfl .nil)))))) ?_
    refine W.seq ?_
    refine W.seq ?_
    refine W.region ?_
    refine RL.q (Yld.move rfl) rfl ?_
    refine RL.q (Yld.bin rfl rfl BinV.lss) rfl ?_
    refine RL.nil ?_
    refine N.next ?_
    first | refine W.condD rfl (fun hc49 => ?_) (fun hc49 => ?_) | (refine W.cond rfl (fun hc49 => ?_) (fun hc49 => ?_) <;> try simp only [Bool.or_eq_true, Bool.and_eq_true, Bool.not_eq_true', Bool.not_eq_false', decide_eq_true_eq, Bool.or_eq_false_iff, Bool.and_eq_false_iff, decide_eq_false_iff_not, beq_iff_eq, beq_eq_false_iff_ne, ne_eq, Decidable.not_not] at hc49)
    ·
      refine W.seq ?_
      refine W.region ?_
      refine RL.q (Yld.move rfl) rfl ?_
      refine RL.q (Yld.move rfl) rfl ?_
      refine RL.q (Yld.lenSl Try.underlying40 rfl) rfl ?_
      refine RL.q (Yld.bin rfl rfl (by first | exact BinV.add (by omega) (by omega) | exact BinV.addW)) rfl ?_
      refine RL.q (Yld.assign rfl) rfl ?_
      refine RL.q (Yld.assign rfl) rfl ?_
      refine RL.q (Yld.assign rfl) rfl ?_
      refine RL.nil ?_
      refine N.next ?_
      refine W.keep (.cons (k := 8) rfl (.cons (k := 9) rfl (.cons (k := 10) rfl .nil))) (.cons (k := 0) rfl (.cons (k := 1) rfl (.cons (k := 2) rfl (.cons (k := 3) rfl (.cons (k := 104) rfl (.cons (k := 190) rfl .nil)))))) ?_
      refine W.ret ?_
      refine N.then_ret ?_
      exact N.retBy [1, 2, 3, 190] (.cons (.tmp rfl) (.cons (.tmp rfl) (.cons (.tmp rfl) .nil))) rfl rfl rfl rfl ⟨_, _, g.es, H2, p, c, emp, none, 0, 0, rfl, .inr ⟨hgood, rfl, rfl, r, hr, by rw [if_pos hc49]⟩, hO, rfl⟩
    ·
      obtain ⟨n, rfl, ⟨e, he, hq⟩, hb⟩ := hr.resolve_left (fun h => by omega)
      have hr : IxE (conf g) l (n : Nat) := .inr ⟨n, rfl, ⟨e, he, hq⟩, hb⟩
      have hfa := first_at hg hc hgood.1 he hq hb
      have hen := (hc n e he).1
      have hnl := (List.getElem?_eq_some_iff.1 he).1
      have hD : Sl H1 (subP pe ce n 15) (ce - n) 15 ((l.drop n).map En.c) := by rw [List.map_drop]; exact hE.drop (by simp; omega)
      have hdl : (l.drop n).length = l.length - n := List.length_drop
      have hle : ((l.drop n).map En.c)[0]? = some [.int .i64 e.ix, .int .i64 e.tm, .int .i64 0, .int .i64 e.cl, .int .i64 0, .string .empty, .int .i64 0, .int .i64 0, .int .i64 0, .int .i64 0, .slice none 0 0, .slice none 0 0, .slice none 0 0, .slice none 0 0, .slice none 0 0] := by rw [List.getElem?_map, List.getElem?_drop, Nat.add_zero, he]; rfl
      refine W.skip ?_
      refine N.next ?_
      refine W.seq ?_
      refine W.region ?_
      refine RL.q (Yld.move rfl) rfl ?_
      refine RL.q (Yld.move rfl) rfl ?_
      refine RL.q (Yld.sliceL Try.underlying40 sz82 rfl rfl (by omega) (by first | omega | (simp; done) | (simp; omega))) rfl ?_
      refine RL.q (Yld.assign rfl) rfl ?_
      refine RL.nil ?_
      refine N.next ?_
      refine W.keep (.cons (k := 1) rfl (.cons (k := 3) rfl (.cons (k := 4) rfl (.cons (k := 14) rfl .nil)))) (.cons (k := 0) rfl (.cons (k := 1) rfl (.cons (k := 2) rfl (.cons (k := 3) rfl (.cons (k := 104) rfl (.cons (k := 190) rfl .nil)))))) ?_
      refine W.seq ?_
      refine W.draw (.q 0 (.q 1 (.q 2 (.q 3 (.q 5 (.q 6 (.q 7 (.q 8 (.q 9 (.q 10 (.q 11 (.q 16 (.three 4 (.two 12 (.q 13 (.q 14 (.q 15 (.one 17 (.one 18 (.q 19 (.q 20 (.one 21 .done)))))))) 17 (.one 12 (.q 13 (.q 14 (.q 15 (.one 18 (.q 19 (.q 20 (.one 21 .done))))))))) 12 (.q 13 (.q 14 (.two 4 (.q 15 (.one 17 (.one 18 (.q 19 (.q 20 (.one 21 .done)))))) 17 (.one 4 (.q 15 (.one 18 (.q 19 (.q 20 (.one 21 .done))))))))) 17 (.two 4 (.one 12 (.q 13 (.q 14 (.q 15 (.one 18 (.q 19 (.q 20 (.one 21 .done)))))))) 12 (.q 13 (.q 14 (.one 4 (.q 15 (.one 18 (.q 19 (.q 20 (.one 21 .done)))))))))))))))))))))) (.cons (k := 0) rfl (.cons (k := 3) rfl (.cons (k := 104) rfl (.cons (k := 190) rfl .nil)))) mix (by kernel_rfl) (by kernel_rfl) ?_
      refine DL.q rfl (Yld.load1 (c := 104) Try.underlying39 rfl rfl rfl (by first | exact single_self _ _ | exact pset_self _ _ _ | assumption) rfl) rfl ?_
      refine DL.q rfl (Yld.load1 (c := 104) Try.underlying39 rfl rfl rfl (by first | exact single_self _ _ | exact pset_self _ _ _ | assumption) rfl) rfl ?_
      refine DL.q rfl (Yld.nilP rfl) rfl ?_
      refine DL.q rfl (Yld.fieldAddr fo112_2 rfl) rfl ?_
      refine DL.q rfl (Yld.move rfl) rfl ?_
      refine DL.q rfl (Yld.indexRow Try.underlying40 sz82 rfl rfl (by first | assumption | exact Own.sl (by assumption)) (by first | rfl | omega | (simp; done) | (simp; omega)) (by omega) (by first | omega | (simp; done) | (simp; omega))) rfl ?_
      refine DL.q rfl (Yld.fieldAddr fo82_0 rfl) rfl ?_
      refine DL.q rfl (by first | exact (by first | exact Yld.loadRow1 (cl := 3) Try.underlying3 rfl rfl rfl (by first | assumption | exact Own.sl (by assumption)) (by assumption) | exact Yld.loadRow1 (cl := 104) Try.underlying3 rfl rfl rfl (by first | assumption | exact Own.sl (by assumption)) (by assumption) | exact Yld.loadRow1 (cl := 1) Try.underlying3 rfl rfl rfl (by first | assumption | exact Own.sl (by assumption)) (by assumption) | exact Yld.loadRow1 (cl := 2) Try.underlying3 rfl rfl rfl (by first | assumption | exact Own.sl (by assumption)) (by assumption) | exact Yld.loadRow1 (cl := 190) Try.underlying3 rfl rfl rfl (by first | assumption | exact Own.sl (by assumption)) (by assumption)) | exact (by first | exact Yld.loadRowF (cl := 3) (j := 0) Try.underlying3 rfl rfl rfl (by first | assumption | exact Own.sl (by assumption)) (by assumption) rfl | exact Yld.loadRowF (cl := 104) (j := 0) Try.underlying3 rfl rfl rfl (by first | assumption | exact Own.sl (by assumption)) (by assumption) rfl | exact Yld.loadRowF (cl := 1) (j := 0) Try.underlying3 rfl rfl rfl (by first | assumption | exact Own.sl (by assumption)) (by assumption) rfl | exact Yld.loadRowF (cl := 2) (j := 0) Try.underlying3 rfl rfl rfl (by first | assumption | exact Own.sl (by assumption)) (by assumption) rfl | exact Yld.loadRowF (cl := 190) (j := 0) Try.underlying3 rfl rfl rfl (by first | assumption | exact Own.sl (by assumption)) (by assumption) rfl)) rfl ?_
      refine DL.q rfl (Yld.load1 (c := 104) Try.underlying39 rfl rfl rfl (by first | exact single_self _ _ | exact pset_self _ _ _ | assumption) rfl) rfl ?_
      refine DL.q rfl (Yld.nilP rfl) rfl ?_
      refine DL.q rfl (Yld.fieldAddr fo112_0 rfl) rfl ?_
      refine DL.q rfl (Yld.move rfl) rfl ?_
      refine DL.three ?_ ?_ ?_
      ·
        refine DL.one rfl (Yld.eff (Yld.load1 (c := 1) Try.underlying40 rfl rfl rfl (by first | exact single_self _ _ | exact pset_self _ _ _ | assumption) rfl)) rfl (by rintro _ _ ⟨rfl, rfl⟩; repeat (first | exact .nil | refine .cons rfl ?_)) ?_
        rintro _ _ ⟨rfl, rfl⟩
        refine DL.two ?_ ?_
        ·
          refine DL.one rfl (Yld.eff (Yld.load1 (c := 1) Try.underlying3 rfl rfl rfl (by first | exact single_self _ _ | exact pset_self _ _ _ | assumption) rfl)) rfl (by rintro _ _ ⟨rfl, rfl⟩; repeat (first | exact .nil | refine .cons rfl ?_)) ?_
          rintro _ _ ⟨rfl, rfl⟩
          refine DL.q rfl (Yld.bin rfl rfl (by first | exact BinV.sub (by omega) (by omega) | exact BinV.subW)) rfl ?_
          refine DL.q rfl (Yld.bin rfl rfl (by first | exact BinV.sub (by omega) (by omega) | exact BinV.subW)) rfl ?_
          refine DL.q rfl (Yld.sliceH Try.underlying40 sz82 rfl rfl (by omega) (by first | omega | (simp; done) | (simp; omega))) rfl ?_
          refine DL.one rfl (Eff.call ent67 [3] [3, 191] (.cons rfl .nil) (copied2_ct (l.drop n) _ _ _ _ (by rw [List.length_drop]; omega) hD (by simp; omega)) rfl rfl rfl rfl (by rintro _ _ ⟨_, _, _, _, _, rfl⟩; rfl)) rfl (by rintro _ _ ⟨_, ⟨Hc, pc, cc, rfl, hOc, rfl⟩, rfl⟩; repeat (first | exact .nil | refine .cons rfl ?_)) ?_
          rintro _ _ ⟨_, ⟨Hc, pc, cc, rfl, hOc, rfl⟩, rfl⟩
          refine DL.one rfl (Eff.appendE (tc := 2) (sc := 191) En.c Try.underlying40 el82 rfl rfl rfl rfl (List.map_take ▸ hO.take (e.ix - g.ix - 1).toNat : Own _ _ _ _ _ ((g.es.take (e.ix - g.ix - 1).toNat).map En.c)) (by rw [List.length_take]; omega) hOc.sl rfl (fun a _ => a.c_one) (by decide) (by first | (simp; done) | (simp; omega)) (by first | (simp [maxLen]; done) | (simp [maxLen]; omega))) rfl (by rintro _ _ ⟨Hb, pb, cb, rfl, hOb, rfl⟩; repeat (first | exact .nil | refine .cons rfl ?_)) ?_
          rintro _ _ ⟨Hb, pb, cb, rfl, hOb, rfl⟩
          refine DL.q rfl (Yld.nilP rfl) rfl ?_
          refine DL.q rfl (Yld.fieldAddr fo112_2 rfl) rfl ?_
          refine DL.one0 rfl (Eff.storeS (c := 1) _ sz40 rfl rfl rfl rfl rfl rfl rfl (by (try simp only [putAt, List.take, List.drop, List.nil_append, List.cons_append, List.append_nil, List.length_cons, List.length_nil, Nat.add_zero, Nat.zero_add, Nat.reduceAdd]); rfl)) (by rintro _ _ rfl; repeat (first | exact .nil | refine .cons rfl ?_)) ?_
          rintro _ _ rfl
          refine DL.done ?_
          refine N.next ?_
          refine W.keep (.cons (k := 1) rfl (.cons (k := 3) rfl (.cons (k := 14) rfl .nil))) (.cons (k := 0) rfl (.cons (k := 1) rfl (.cons (k := 2) rfl (.cons (k := 3) rfl (.cons (k := 104) rfl (.cons (k := 190) rfl (.cons (k := 191) rfl .nil))))))) ?_
          refine W.seq ?_
          refine W.region ?_
          refine RL.q (Yld.move rfl) rfl ?_
          refine RL.q (Yld.move rfl) rfl ?_
          refine RL.q (Yld.lenSl Try.underlying40 rfl) rfl ?_
          refine RL.q (Yld.bin rfl rfl (by first | exact BinV.add (by omega) (by omega) | exact BinV.addW)) rfl ?_
          refine RL.q (Yld.move rfl) rfl ?_
          refine RL.e (Eff.call ent67 [3] [3, 190] (.cons rfl .nil) (copied2_ct (l.drop n) _ _ _ _ (by rw [List.length_drop]; omega) hD (by simp; omega)) rfl rfl rfl rfl (by rintro _ _ ⟨_, _, _, _, _, rfl⟩; rfl)) rfl ?_
          rintro _ _ ⟨_, ⟨Hc2, pc2, cc2, rfl, hOc2, rfl⟩, rfl⟩
          refine RL.q (Yld.assign rfl) rfl ?_
          refine RL.q (Yld.assign rfl) rfl ?_
          refine RL.q (Yld.assign rfl) rfl ?_
          refine RL.nil ?_
          refine N.next ?_
          refine W.keep (.cons (k := 8) rfl (.cons (k := 9) rfl (.cons (k := 10) rfl .nil))) (.cons (k := 0) rfl (.cons (k := 1) rfl (.cons (k := 2) rfl (.cons (k := 3) rfl (.cons (k := 104) rfl (.cons (k := 190) rfl (.cons (k := 191) rfl .nil))))))) ?_
          refine W.ret ?_
          exact N.retBy [1, 2, 3, 190] (.cons (.tmp rfl) (.cons (.tmp rfl) (.cons (.tmp rfl) .nil))) rfl rfl rfl rfl ⟨_, _, _, Hb, pb, cb, Hc2, pc2, _, cc2, rfl, .inr ⟨hgood, rfl, rfl, n, hr, by rw [if_neg (by omega), show (prev + (n : Int) - g.ix).toNat = (e.ix - g.ix - 1).toNat by omega]; rfl⟩, hOb, rfl⟩
        ·
          refine DL.one rfl (Eff.call ent67 [3] [3, 191] (.cons rfl .nil) (copied2_ct (l.drop n) _ _ _ _ (by rw [List.length_drop]; omega) hD (by simp; omega)) rfl rfl rfl rfl (by rintro _ _ ⟨_, _, _, _, _, rfl⟩; rfl)) rfl (by rintro _ _ ⟨_, ⟨Hc, pc, cc, rfl, hOc, rfl⟩, rfl⟩; repeat (first | exact .nil | refine .cons rfl ?_)) ?_
          rintro _ _ ⟨_, ⟨Hc, pc, cc, rfl, hOc, rfl⟩, rfl⟩
          refine DL.one rfl (Yld.eff (Yld.load1 (c := 1) Try.underlying3 rfl rfl rfl (by first | exact single_self _ _ | exact pset_self _ _ _ | assumption) rfl)) rfl (by rintro _ _ ⟨rfl, rfl⟩; repeat (first | exact .nil | refine .cons rfl ?_)) ?_
          rintro _ _ ⟨rfl, rfl⟩
          refine DL.q rfl (Yld.bin rfl rfl (by first | exact BinV.sub (by omega) (by omega) | exact BinV.subW)) rfl ?_
          refine DL.q rfl (Yld.bin rfl rfl (by first | exact BinV.sub (by omega) (by omega) | exact BinV.subW)) rfl ?_
          refine DL.q rfl (Yld.sliceH Try.underlying40 sz82 rfl rfl (by omega) (by first | omega | (simp; done) | (simp; omega))) rfl ?_
          refine DL.one rfl (Eff.appendE (tc := 2) (sc := 191) En.c Try.underlying40 el82 rfl rfl rfl rfl (List.map_take ▸ hO.take (e.ix - g.ix - 1).toNat : Own _ _ _ _ _ ((g.es.take (e.ix - g.ix - 1).toNat).map En.c)) (by rw [List.length_take]; omega) hOc.sl rfl (fun a _ => a.c_one) (by decide) (by first | (simp; done) | (simp; omega)) (by first | (simp [maxLen]; done) | (simp [maxLen]; omega))) rfl (by rintro _ _ ⟨Hb, pb, cb, rfl, hOb, rfl⟩; repeat (first | exact .nil | refine .cons rfl ?_)) ?_
          rintro _ _ ⟨Hb, pb, cb, rfl, hOb, rfl⟩
          refine DL.q rfl (Yld.nilP rfl) rfl ?_
          refine DL.q rfl (Yld.fieldAddr fo112_2 rfl) rfl ?_
          refine DL.one0 rfl (Eff.storeS (c := 1) _ sz40 rfl rfl rfl rfl rfl rfl rfl (by (try simp only [putAt, List.take, List.drop, List.nil_append, List.cons_append, List.append_nil, List.length_cons, List.length_nil, Nat.add_zero, Nat.zero_add, Nat.reduceAdd]); rfl)) (by rintro _ _ rfl; repeat (first | exact .nil | refine .cons rfl ?_)) ?_
          rintro _ _ rfl
          refine DL.done ?_
          refine N.next ?_
          refine W.keep (.cons (k := 1) rfl (.cons (k := 3) rfl (.cons (k := 14) rfl .nil))) (.cons (k := 0) rfl (.cons (k := 1) rfl (.cons (k := 2) rfl (.cons (k := 3) rfl (.cons (k := 104) rfl (.cons (k := 190) rfl (.cons (k := 191) rfl .nil))))))) ?_
          refine W.seq ?_
          refine W.region ?_
          refine RL.q (Yld.move rfl) rfl ?_
          refine RL.q (Yld.move rfl) rfl ?_
          refine RL.q (Yld.lenSl Try.underlying40 rfl) rfl ?_
          refine RL.q (Yld.bin rfl rfl (by first | exact BinV.add (by omega) (by omega) | exact BinV.addW)) rfl ?_
          refine RL.q (Yld.move rfl) rfl ?_
          refine RL.e (Eff.call ent67 [3] [3, 190] (.cons rfl .nil) (copied2_ct (l.drop n) _ _ _ _ (by rw [List.length_drop]; omega) hD (by simp; omega)) rfl rfl rfl rfl (by rintro _ _ ⟨_, _, _, _, _, rfl⟩; rfl)) rfl ?_
          rintro _ _ ⟨_, ⟨Hc2, pc2, cc2, rfl, hOc2, rfl⟩, rfl⟩
          refine RL.q (Yld.assign rfl) rfl ?_
          refine RL.q (Yld.assign rfl) rfl ?_
          refine RL.q (Yld.assign rfl) rfl ?_
          refine RL.nil ?_
          refine N.next ?_
          refine W.keep (.cons (k := 8) rfl (.cons (k := 9) rfl (.cons (k := 10) rfl .nil))) (.cons (k := 0) rfl (.cons (k := 1) rfl (.cons (k := 2) rfl (.cons (k := 3) rfl (.cons (k := 104) rfl (.cons (k := 190) rfl (.cons (k := 191) rfl .nil))))))) ?_
          refine W.ret ?_
          exact N.retBy [1, 2, 3, 190] (.cons (.tmp rfl) (.cons (.tmp rfl) (.cons (.tmp rfl) .nil))) rfl rfl rfl rfl ⟨_, _, _, Hb, pb, cb, Hc2, pc2, _, cc2, rfl, .inr ⟨hgood, rfl, rfl, n, hr, by rw [if_neg (by omega), show (prev + (n : Int) - g.ix).toNat = (e.ix - g.ix - 1).toNat by omega]; rfl⟩, hOb, rfl⟩
      ·
        refine DL.one rfl (Yld.eff (Yld.load1 (c := 1) Try.underlying3 rfl rfl rfl (by first | exact single_self _ _ | exact pset_self _ _ _ | assumption) rfl)) rfl (by rintro _ _ ⟨rfl, rfl⟩; repeat (first | exact .nil | refine .cons rfl ?_)) ?_
        rintro _ _ ⟨rfl, rfl⟩
        refine DL.q rfl (Yld.bin rfl rfl (by first | exact BinV.sub (by omega) (by omega) | exact BinV.subW)) rfl ?_
        refine DL.q rfl (Yld.bin rfl rfl (by first | exact BinV.sub (by omega) (by omega) | exact BinV.subW)) rfl ?_
        refine DL.two ?_ ?_
        ·
          refine DL.one rfl (Yld.eff (Yld.load1 (c := 1) Try.underlying40 rfl rfl rfl (by first | exact single_self _ _ | exact pset_self _ _ _ | assumption) rfl)) rfl (by rintro _ _ ⟨rfl, rfl⟩; repeat (first | exact .nil | refine .cons rfl ?_)) ?_
          rintro _ _ ⟨rfl, rfl⟩
          refine DL.q rfl (Yld.sliceH Try.underlying40 sz82 rfl rfl (by omega) (by first | omega | (simp; done) | (simp; omega))) rfl ?_
          refine DL.one rfl (Eff.call ent67 [3] [3, 191] (.cons rfl .nil) (copied2_ct (l.drop n) _ _ _ _ (by rw [List.length_drop]; omega) hD (by simp; omega)) rfl rfl rfl rfl (by rintro _ _ ⟨_, _, _, _, _, rfl⟩; rfl)) rfl (by rintro _ _ ⟨_, ⟨Hc, pc, cc, rfl, hOc, rfl⟩, rfl⟩; repeat (first | exact .nil | refine .cons rfl ?_)) ?_
          rintro _ _ ⟨_, ⟨Hc, pc, cc, rfl, hOc, rfl⟩, rfl⟩
          refine DL.one rfl (Eff.appendE (tc := 2) (sc := 191) En.c Try.underlying40 el82 rfl rfl rfl rfl (List.map_take ▸ hO.take (e.ix - g.ix - 1).toNat : Own _ _ _ _ _ ((g.es.take (e.ix - g.ix - 1).toNat).map En.c)) (by rw [List.length_take]; omega) hOc.sl rfl (fun a _ => a.c_one) (by decide) (by first | (simp; done) | (simp; omega)) (by first | (simp [maxLen]; done) | (simp [maxLen]; omega))) rfl (by rintro _ _ ⟨Hb, pb, cb, rfl, hOb, rfl⟩; repeat (first | exact .nil | refine .cons rfl ?_)) ?_
          rintro _ _ ⟨Hb, pb, cb, rfl, hOb, rfl⟩
          refine DL.q rfl (Yld.nilP rfl) rfl ?_
          refine DL.q rfl (Yld.fieldAddr fo112_2 rfl) rfl ?_
          refine DL.one0 rfl (Eff.storeS (c := 1) _ sz40 rfl rfl rfl rfl rfl rfl rfl (by (try simp only [putAt, List.take, List.drop, List.nil_append, List.cons_append, List.append_nil, List.length_cons, List.length_nil, Nat.add_zero, Nat.zero_add, Nat.reduceAdd]); rfl)) (by rintro _ _ rfl; repeat (first | exact .nil | refine .cons rfl ?_)) ?_
          rintro _ _ rfl
          refine DL.done ?_
          refine N.next ?_
          refine W.keep (.cons (k := 1) rfl (.cons (k := 3) rfl (.cons (k := 14) rfl .nil))) (.cons (k := 0) rfl (.cons (k := 1) rfl (.cons (k := 2) rfl (.cons (k := 3) rfl (.cons (k := 104) rfl (.cons (k := 190) rfl (.cons (k := 191) rfl .nil))))))) ?_
          refine W.seq ?_
          refine W.region ?_
          refine RL.q (Yld.move rfl) rfl ?_
          refine RL.q (Yld.move rfl) rfl ?_
          refine RL.q (Yld.lenSl Try.underlying40 rfl) rfl ?_
          refine RL.q (Yld.bin rfl rfl (by first | exact BinV.add (by omega) (by omega) | exact BinV.addW)) rfl ?_
          refine RL.q (Yld.move rfl) rfl ?_
          refine RL.e (Eff.call ent67 [3] [3, 190] (.cons rfl .nil) (copied2_ct (l.drop n) _ _ _ _ (by rw [List.length_drop]; omega) hD (by simp; omega)) rfl rfl rfl rfl (by rintro _ _ ⟨_, _, _, _, _, rfl⟩; rfl)) rfl ?_
          rintro _ _ ⟨_, ⟨Hc2, pc2, cc2, rfl, hOc2, rfl⟩, rfl⟩
          refine RL.q (Yld.assign rfl) rfl ?_
          refine RL.q (Yld.assign rfl) rfl ?_
          refine RL.q (Yld.assign rfl) rfl ?_
          refine RL.nil ?_
          refine N.next ?_
          refine W.keep (.cons (k := 8) rfl (.cons (k := 9) rfl (.cons (k := 10) rfl .nil))) (.cons (k := 0) rfl (.cons (k := 1) rfl (.cons (k := 2) rfl (.cons (k := 3) rfl (.cons (k := 104) rfl (.cons (k := 190) rfl (.cons (k := 191) rfl .nil))))))) ?_
          refine W.ret ?_
          exact N.retBy [1, 2, 3, 190] (.cons (.tmp rfl) (.cons (.tmp rfl) (.cons (.tmp rfl) .nil))) rfl rfl rfl rfl ⟨_, _, _, Hb, pb, cb, Hc2, pc2, _, cc2, rfl, .inr ⟨hgood, rfl, rfl, n, hr, by rw [if_neg (by omega), show (prev + (n : Int) - g.ix).toNat = (e.ix - g.ix - 1).toNat by omega]; rfl⟩, hOb, rfl⟩
        ·
          refine DL.one rfl (Eff.call ent67 [3] [3, 191] (.cons rfl .nil) (copied2_ct (l.drop n) _ _ _ _ (by rw [List.length_drop]; omega) hD (by simp; omega)) rfl rfl rfl rfl (by rintro _ _ ⟨_, _, _, _, _, rfl⟩; rfl)) rfl (by rintro _ _ ⟨_, ⟨Hc, pc, cc, rfl, hOc, rfl⟩, rfl⟩; repeat (first | exact .nil | refine .cons rfl ?_)) ?_
          rintro _ _ ⟨_, ⟨Hc, pc, cc, rfl, hOc, rfl⟩, rfl⟩
          refine DL.one rfl (Yld.eff (Yld.load1 (c := 1) Try.underlying40 rfl rfl rfl (by first | exact single_self _ _ | exact pset_self _ _ _ | assumption) rfl)) rfl (by rintro _ _ ⟨rfl, rfl⟩; repeat (first | exact .nil | refine .cons rfl ?_)) ?_
          rintro _ _ ⟨rfl, rfl⟩
          refine DL.q rfl (Yld.sliceH Try.underlying40 sz82 rfl rfl (by omega) (by first | omega | (simp; done) | (simp; omega))) rfl ?_
          refine DL.one rfl (Eff.appendE (tc := 2) (sc := 191) En.c Try.underlying40 el82 rfl rfl rfl rfl (List.map_take ▸ hO.take (e.ix - g.ix - 1).toNat : Own _ _ _ _ _ ((g.es.take (e.ix - g.ix - 1).toNat).map En.c)) (by rw [List.length_take]; omega) hOc.sl rfl (fun a _ => a.c_one) (by decide) (by first | (simp; done) | (simp; omega)) (by first | (simp [maxLen]; done) | (simp [maxLen]; omega))) rfl (by rintro _ _ ⟨Hb, pb, cb, rfl, hOb, rfl⟩; repeat (first | exact .nil | refine .cons rfl ?_)) ?_
          rintro _ _ ⟨Hb, pb, cb, rfl, hOb, rfl⟩
          refine DL.q rfl (Yld.nilP rfl) rfl ?_
          refine DL.q rfl (Yld.fieldAddr fo112_2 rfl) rfl ?_
          refine DL.one0 rfl (Eff.storeS (c := 1) _ sz40 rfl rfl rfl rfl rfl rfl rfl (by (try simp only [putAt, List.take, List.drop, List.nil_append, List.cons_append, List.append_nil, List.length_cons, List.length_nil, Nat.add_zero, Nat.zero_add, Nat.reduceAdd]); rfl)) (by rintro _ _ rfl; repeat (first | exact .nil | refine .cons rfl ?_)) ?_
          rintro _ _ rfl
          refine DL.done ?_
          refine N.next ?_
          refine W.keep (.cons (k := 1) rfl (.cons (k := 3) rfl (.cons (k := 14) rfl .nil))) (.cons (k := 0) rfl (.cons (k := 1) rfl (.cons (k := 2) rfl (.cons (k := 3) rfl (.cons (k := 104) rfl (.cons (k := 190) rfl (.cons (k := 191) rfl .nil))))))) ?_
          refine W.seq ?_
          refine W.region ?_
          refine RL.q (Yld.move rfl) rfl ?_
          refine RL.q (Yld.move rfl) rfl ?_
          refine RL.q (Yld.lenSl Try.underlying40 rfl) rfl ?_
          refine RL.q (Yld.bin rfl rfl (by first | exact BinV.add (by omega) (by omega) | exact BinV.addW)) rfl ?_
          refine RL.q (Yld.move rfl) rfl ?_
          refine RL.e (Eff.call ent67 [3] [3, 190] (.cons rfl .nil) (copied2_ct (l.drop n) _ _ _ _ (by rw [List.length_drop]; omega) hD (by simp; omega)) rfl rfl rfl rfl (by rintro _ _ ⟨_, _, _, _, _, rfl⟩; rfl)) rfl ?_
          rintro _ _ ⟨_, ⟨Hc2, pc2, cc2, rfl, hOc2, rfl⟩, rfl⟩
          refine RL.q (Yld.assign rfl) rfl ?_
          refine RL.q (Yld.assign rfl) rfl ?_
          refine RL.q (Yld.assign rfl) rfl ?_
          refine RL.nil ?_
          refine N.next ?_
          refine W.keep (.cons (k := 8) rfl (.cons (k := 9) rfl (.cons (k := 10) rfl .nil))) (.cons (k := 0) rfl (.cons (k := 1) rfl (.cons (k := 2) rfl (.cons (k := 3) rfl (.cons (k := 104) rfl (.cons (k := 190) rfl (.cons (k := 191) rfl .nil))))))) ?_
          refine W.ret ?_
          exact N.retBy [1, 2, 3, 190] (.cons (.tmp rfl) (.cons (.tmp rfl) (.cons (.tmp rfl) .nil))) rfl rfl rfl rfl ⟨_, _, _, Hb, pb, cb, Hc2, pc2, _, cc2, rfl, .inr ⟨hgood, rfl, rfl, n, hr, by rw [if_neg (by omega), show (prev + (n : Int) - g.ix).toNat = (e.ix - g.ix - 1).toNat by omega]; rfl⟩, hOb, rfl⟩
      ·
        refine DL.one rfl (Eff.call ent67 [3] [3, 191] (.cons rfl .nil) (copied2_ct (l.drop n) _ _ _ _ (by rw [List.length_drop]; omega) hD (by simp; omega)) rfl rfl rfl rfl (by rintro _ _ ⟨_, _, _, _, _, rfl⟩; rfl)) rfl (by rintro _ _ ⟨_, ⟨Hc, pc, cc, rfl, hOc, rfl⟩, rfl⟩; repeat (first | exact .nil | refine .cons rfl ?_)) ?_
        rintro _ _ ⟨_, ⟨Hc, pc, cc, rfl, hOc, rfl⟩, rfl⟩
        refine DL.two ?_ ?_
        ·
          refine DL.one rfl (Yld.eff (Yld.load1 (c := 1) Try.underlying40 rfl rfl rfl (by first | exact single_self _ _ | exact pset_self _ _ _ | assumption) rfl)) rfl (by rintro _ _ ⟨rfl, rfl⟩; repeat (first | exact .nil | refine .cons rfl ?_)) ?_
          rintro _ _ ⟨rfl, rfl⟩
          refine DL.one rfl (Yld.eff (Yld.load1 (c := 1) Try.underlying3 rfl rfl rfl (by first | exact single_self _ _ | exact pset_self _ _ _ | assumption) rfl)) rfl (by rintro _ _ ⟨rfl, rfl⟩; repeat (first | exact .nil | refine .cons rfl ?_)) ?_
          rintro _ _ ⟨rfl, rfl⟩
          refine DL.q rfl (Yld.bin rfl rfl (by first | exact BinV.sub (by omega) (by omega) | exact BinV.subW)) rfl ?_
          refine DL.q rfl (Yld.bin rfl rfl (by first | exact BinV.sub (by omega) (by omega) | exact BinV.subW)) rfl ?_
          refine DL.q rfl (Yld.sliceH Try.underlying40 sz82 rfl rfl (by omega) (by first | omega | (simp; done) | (simp; omega))) rfl ?_
          refine DL.one rfl (Eff.appendE (tc := 2) (sc := 191) En.c Try.underlying40 el82 rfl rfl rfl rfl (List.map_take ▸ hO.take (e.ix - g.ix - 1).toNat : Own _ _ _ _ _ ((g.es.take (e.ix - g.ix - 1).toNat).map En.c)) (by rw [List.length_take]; omega) hOc.sl rfl (fun a _ => a.c_one) (by decide) (by first | (simp; done) | (simp; omega)) (by first | (simp [maxLen]; done) | (simp [maxLen]; omega))) rfl (by rintro _ _ ⟨Hb, pb, cb, rfl, hOb, rfl⟩; repeat (first | exact .nil | refine .cons rfl ?_)) ?_
          rintro _ _ ⟨Hb, pb, cb, rfl, hOb, rfl⟩
          refine DL.q rfl (Yld.nilP rfl) rfl ?_
          refine DL.q rfl (Yld.fieldAddr fo112_2 rfl) rfl ?_
          refine DL.one0 rfl (Eff.storeS (c := 1) _ sz40 rfl rfl rfl rfl rfl rfl rfl (by (try simp only [putAt, List.take, List.drop, List.nil_append, List.cons_append, List.append_nil, List.length_cons, List.length_nil, Nat.add_zero, Nat.zero_add, Nat.reduceAdd]); rfl)) (by rintro _ _ rfl; repeat (first | exact .nil | refine .cons rfl ?_)) ?_
          rintro _ _ rfl
          refine DL.done ?_
          refine N.next ?_
          refine W.keep (.cons (k := 1) rfl (.cons (k := 3) rfl (.cons (k := 14) rfl .nil))) (.cons (k := 0) rfl (.cons (k := 1) rfl (.cons (k := 2) rfl (.cons (k := 3) rfl (.cons (k := 104) rfl (.cons (k := 190) rfl (.cons (k := 191) rfl .nil))))))) ?_
          refine W.seq ?_
          refine W.region ?_
          refine RL.q (Yld.move rfl) rfl ?_
          refine RL.q (Yld.move rfl) rfl ?_
          refine RL.q (Yld.lenSl Try.underlying40 rfl) rfl ?_
          refine RL.q (Yld.bin rfl rfl (by first | exact BinV.add (by omega) (by omega) | exact BinV.addW)) rfl ?_
          refine RL.q (Yld.move rfl) rfl ?_
          refine RL.e (Eff.call ent67 [3] [3, 190] (.cons rfl .nil) (copied2_ct (l.drop n) _ _ _ _ (by rw [List.length_drop]; omega) hD (by simp; omega)) rfl rfl rfl rfl (by rintro _ _ ⟨_, _, _, _, _, rfl⟩; rfl)) rfl ?_
          rintro _ _ ⟨_, ⟨Hc2, pc2, cc2, rfl, hOc2, rfl⟩, rfl⟩
          refine RL.q (Yld.assign rfl) rfl ?_
          refine RL.q (Yld.assign rfl) rfl ?_
          refine RL.q (Yld.assign rfl) rfl ?_
          refine RL.nil ?_
          refine N.next ?_
          refine W.keep (.cons (k := 8) rfl (.cons (k := 9) rfl (.cons (k := 10) rfl .nil))) (.cons (k := 0) rfl (.cons (k := 1) rfl (.cons (k := 2) rfl (.cons (k := 3) rfl (.cons (k := 104) rfl (.cons (k := 190) rfl (.cons (k := 191) rfl .nil))))))) ?_
          refine W.ret ?_
          exact N.retBy [1, 2, 3, 190] (.cons (.tmp rfl) (.cons (.tmp rfl) (.cons (.tmp rfl) .nil))) rfl rfl rfl rfl ⟨_, _, _, Hb, pb, cb, Hc2, pc2, _, cc2, rfl, .inr ⟨hgood, rfl, rfl, n, hr, by rw [if_neg (by omega), show (prev + (n : Int) - g.ix).toNat = (e.ix - g.ix - 1).toNat by omega]; rfl⟩, hOb, rfl⟩
        ·
          refine DL.one rfl (Yld.eff (Yld.load1 (c := 1) Try.underlying3 rfl rfl rfl (by first | exact single_self _ _ | exact pset_self _ _ _ | assumption) rfl)) rfl (by rintro _ _ ⟨rfl, rfl⟩; repeat (first | exact .nil | refine .cons rfl ?_)) ?_
          rintro _ _ ⟨rfl, rfl⟩
          refine DL.q rfl (Yld.bin rfl rfl (by first | exact BinV.sub (by omega) (by omega) | exact BinV.subW)) rfl ?_
          refine DL.q rfl (Yld.bin rfl rfl (by first | exact BinV.sub (by omega) (by omega) | exact BinV.subW)) rfl ?_
          refine DL.one rfl (Yld.eff (Yld.load1 (c := 1) Try.underlying40 rfl rfl rfl (by first | exact single_self _ _ | exact pset_self _ _ _ | assumption) rfl)) rfl (by rintro _ _ ⟨rfl, rfl⟩; repeat (first | exact .nil | refine .cons rfl ?_)) ?_
          rintro _ _ ⟨rfl, rfl⟩
          refine DL.q rfl (Yld.sliceH Try.underlying40 sz82 rfl rfl (by omega) (by first | omega | (simp; done) | (simp; omega))) rfl ?_
          refine DL.one rfl (Eff.appendE (tc := 2) (sc := 191) En.c Try.underlying40 el82 rfl rfl rfl rfl (List.map_take ▸ hO.take (e.ix - g.ix - 1).toNat : Own _ _ _ _ _ ((g.es.take (e.ix - g.ix - 1).toNat).map En.c)) (by rw [List.length_take]; omega) hOc.sl rfl (fun a _ => a.c_one) (by decide) (by first | (simp; done) | (simp; omega)) (by first | (simp [maxLen]; done) | (simp [maxLen]; omega))) rfl (by rintro _ _ ⟨Hb, pb, cb, rfl, hOb, rfl⟩; repeat (first | exact .nil | refine .cons rfl ?_)) ?_
          rintro _ _ ⟨Hb, pb, cb, rfl, hOb, rfl⟩
          refine DL.q rfl (Yld.nilP rfl) rfl ?_
          refine DL.q rfl (Yld.fieldAddr fo112_2 rfl) rfl ?_
          refine DL.one0 rfl (Eff.storeS (c := 1) _ sz40 rfl rfl rfl rfl rfl rfl rfl (by (try simp only [putAt, List.take, List.drop, List.nil_append, List.cons_append, List.append_nil, List.length_cons, List.length_nil, Nat.add_zero, Nat.zero_add, Nat.reduceAdd]); rfl)) (by rintro _ _ rfl; repeat (first | exact .nil | refine .cons rfl ?_)) ?_
          rintro _ _ rfl
          refine DL.done ?_
          refine N.next ?_
          refine W.keep (.cons (k := 1) rfl (.cons (k := 3) rfl (.cons (k := 14) rfl .nil))) (.cons (k := 0) rfl (.cons (k := 1) rfl (.cons (k := 2) rfl (.cons (k := 3) rfl (.cons (k := 104) rfl (.cons (k := 190) rfl (.cons (k := 191) rfl .nil))))))) ?_
          refine W.seq ?_
          refine W.region ?_
          refine RL.q (Yld.move rfl) rfl ?_
          refine RL.q (Yld.move rfl) rfl ?_
          refine RL.q (Yld.lenSl Try.underlying40 rfl) rfl ?_
          refine RL.q (Yld.bin rfl rfl (by first | exact BinV.add (by omega) (by omega) | exact BinV.addW)) rfl ?_
          refine RL.q (Yld.move rfl) rfl ?_
          refine RL.e (Eff.call ent67 [3] [3, 190] (.cons rfl .nil) (copied2_ct (l.drop n) _ _ _ _ (by rw [List.length_drop]; omega) hD (by simp; omega)) rfl rfl rfl rfl (by rintro _ _ ⟨_, _, _, _, _, rfl⟩; rfl)) rfl ?_
          rintro _ _ ⟨_, ⟨Hc2, pc2, cc2, rfl, hOc2, rfl⟩, rfl⟩
          refine RL.q (Yld.assign rfl) rfl ?_
          refine RL.q (Yld.assign rfl) rfl ?_
          refine RL.q (Yld.assign rfl) rfl ?_
          refine RL.nil ?_
          refine N.next ?_
          refine W.keep (.cons (k := 8) rfl (.cons (k := 9) rfl (.cons (k := 10) rfl .nil))) (.cons (k := 0) rfl (.cons (k := 1) rfl (.cons (k := 2) rfl (.cons (k := 3) rfl (.cons (k := 104) rfl (.cons (k := 190) rfl (.cons (k := 191) rfl .nil))))))) ?_
          refine W.ret ?_
          exact N.retBy [1, 2, 3, 190] (.cons (.tmp rfl) (.cons (.tmp rfl) (.cons (.tmp rfl) .nil))) rfl rfl rfl rfl ⟨_, _, _, Hb, pb, cb, Hc2, pc2, _, cc2, rfl, .inr ⟨hgood, rfl, rfl, n, hr, by rw [if_neg (by omega), show (prev + (n : Int) - g.ix).toNat = (e.ix - g.ix - 1).toNat by omega]; rfl⟩, hOb, rfl⟩

end Go.Proofs.Ytdkefpnebmmhlaa
