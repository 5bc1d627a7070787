/- ReplicateCatches. Written by program (walk2.py). -/
import Derived.Test.YtdkefpnebmmhlaaRPureK
namespace Go.Proofs.Ytdkefpnebmmhlaa
open SL Cfg Rep
set_option linter.unusedVariables false
set_option linter.unusedSimpArgs false
theorem ent41 : Ent Try.prog 41 := ⟨_, _, Try.func41, by kernel_rfl, rfl⟩
set_option maxRecDepth 100000 in
set_option maxHeartbeats 800000 in
theorem catches_ct (H1 : PH) (ts : List Int) (hts : ∀ b ∈ ts, 0 ≤ b ∧ b ≤ 255) (p1 : Option Addr) (c1 : Nat) (hSts : Sl H1 p1 c1 1 (by8 ts)) (os : List Int) (hos : ∀ b ∈ os, 0 ≤ b ∧ b ≤ 255) (p2 : Option Addr) (c2 : Nat) (hSos : Sl H1 p2 c2 1 (by8 os)) (nx mo : Int) (hn0 : 0 ≤ nx ∧ nx ≤ 255) (hm0 : 0 ≤ mo ∧ mo ≤ 255) : Ct Try.prog 8 [.slice p1 ts.length c1, .slice p2 os.length c2, .int .u8 nx, .int .u8 mo] [H1] (fun v Hs => v = .bool true ∧ Hs = [H1]) := by
  refine Ct.body Try.func8 rfl Try.ntmps8 rfl ?_
  intro E F
  have hm1 := hSts.len_le
  have hm2 := hSos.len_le
  simp only [by8_len, maxLen] at hm1 hm2
  refine W.seq ?_
  refine W.region ?_
  refine RL.q (Yld.assign rfl) rfl ?_
  refine RL.nil ?_
  refine N.next ?_
  refine W.seq ?_
  refine W.seq ?_
  refine W.region ?_
  refine RL.e (Eff.call ent9 [] [] .nil awake_ct rfl rfl rfl rfl (by rintro _ _ ⟨_, rfl⟩; rfl)) rfl ?_
  rintro _ _ ⟨_, ⟨rfl, rfl⟩, rfl⟩
  refine RL.q (by first | exact Yld.notD rfl | exact Yld.not rfl) rfl ?_
  refine RL.nil ?_
  refine N.next ?_
  first | (refine W.as (t := 28) rfl (boolF (by first | assumption | omega | (simp; done))) ?_; refine W.condF rfl ?_) | refine W.condF rfl ?_
  refine W.skip ?_
  refine N.next ?_
  refine W.seq ?_
  refine W.seq ?_
  refine W.region ?_
  refine RL.q (Yld.move rfl) rfl ?_
  refine RL.q (Yld.lenSl Try.underlying38 rfl) rfl ?_
  refine RL.q (Yld.bin rfl rfl BinV.gtr) rfl ?_
  refine RL.q (Yld.move rfl) rfl ?_
  refine' RL.or (t := 32) (d := 36) 4 rfl (.cons (k := 0) rfl (.cons (k := 1) rfl (.cons (k := 2) rfl (.cons (k := 3) rfl (.cons (k := 8) rfl (.cons (k := 27) rfl (.cons (k := 28) rfl (.cons (k := 29) rfl (.cons (k := 30) rfl (.cons (k := 31) rfl .nil)))))))))) (.cons (k := 0) rfl (.cons (k := 1) rfl .nil)) ?_ ?_ ?_
  rotate_left 1
  ·
    intro hg32
    refine RL.gq rfl rfl (Yld.move rfl) rfl ?_
    refine RL.gq rfl rfl (Yld.lenSl Try.underlying38 rfl) rfl ?_
    refine RL.gq rfl rfl (Yld.bin rfl rfl BinV.gtr) rfl ?_
    refine RL.q (by first | exact Yld.pickT rfl rfl | exact Yld.pickF rfl rfl) rfl ?_
    exact RL.nil (N.meet (.cons rfl (.cons rfl (.cons rfl (.cons rfl (.cons rfl (.cons rfl (.cons rfl (.cons rfl (.cons rfl (.cons rfl (.cons rfl .nil))))))))))) (.cons rfl (.cons rfl .nil)))
  ·
    intro hg32
    refine RL.gskip rfl rfl rfl rfl ?_
    refine RL.gskip rfl rfl rfl rfl ?_
    refine RL.gskip rfl rfl rfl rfl ?_
    refine RL.q (by first | exact Yld.pickT rfl rfl | exact Yld.pickF rfl rfl) rfl ?_
    exact RL.nil (N.meet (.cons rfl (.cons rfl (.cons rfl (.cons rfl (.cons rfl (.cons rfl (.cons rfl (.cons rfl (.cons rfl (.cons rfl (.cons rfl .nil))))))))))) (.cons rfl (.cons rfl .nil)))
  refine RL.nil ?_
  refine N.next ?_
  refine W.keep (.cons (k := 0) rfl (.cons (k := 1) rfl (.cons (k := 2) rfl (.cons (k := 3) rfl (.cons (k := 36) rfl .nil))))) (.cons (k := 0) rfl (.cons (k := 1) rfl .nil)) ?_
  refine W.cond rfl (fun hc36 => ?_) (fun hc36 => ?_)
  ·
    refine W.seq ?_
    refine W.region ?_
    refine RL.q (Yld.assign rfl) rfl ?_
    refine RL.nil ?_
    refine N.next ?_
    refine W.keep (.cons (k := 8) rfl .nil) (.cons (k := 0) rfl (.cons (k := 1) rfl .nil)) ?_
    refine W.ret ?_
    refine N.then_ret ?_
    exact N.retBy [1] (.cons (.tmp rfl) .nil) rfl rfl rfl rfl ⟨rfl, rfl⟩
  ·
    simp only [Bool.or_eq_false_iff, decide_eq_false_iff_not, Int.not_lt] at hc36
    have hlt : ts.length ≤ 12 := by omega
    refine W.skip ?_
    refine N.next ?_
    refine W.seq ?_
    refine W.region ?_
    refine RL.q (Yld.move rfl) rfl ?_
    refine RL.e (Eff.call ent15 [1] [1, 160, 161, 162] (.cons rfl (.cons rfl .nil)) (logs_ct 0 (by omega) (by omega) ts hts (by omega) _ _ _ hSts) rfl rfl rfl rfl (by rintro _ _ ⟨_, _, _, _, _, _, _, _, _, _, rfl⟩; rfl)) rfl ?_
    rintro _ _ ⟨_, ⟨lb, Hl, pl, cl, Hr, pr, cr, rfl, hOl, hTr, rfl⟩, rfl⟩
    obtain ⟨T, hLd⟩ : ∃ T, Ld (lgs 0 ts ts.length).1 T := ⟨_, lgs_ld hts hlt⟩
    obtain ⟨l, hl⟩ : ∃ l, (lgs 0 ts ts.length).1 = l := ⟨_, rfl⟩
    rw [hl] at hOl hTr hLd ⊢
    have hla1 := hLd.last.1
    have hla2 := hLd.last.2
    have hll := hLd.len
    have hbg := hLd.big
    have hT0 := hLd.le (Nat.zero_le l.es.length)
    rw [hLd.t0] at hT0
    refine RL.q (Yld.move rfl) rfl ?_
    refine RL.q (Yld.extract rfl rfl) rfl ?_
    refine RL.q (Yld.extract rfl rfl) rfl ?_
    refine RL.e (Eff.alloc 110 zc42) rfl ?_
    rintro _ _ ⟨b10, rfl, rfl⟩
    refine RL.q (Yld.assign rfl) rfl ?_
    refine RL.e0 (Eff.storeS (c := 110) _ sz42 rfl rfl rfl rfl rfl rfl rfl (by (try simp only [putAt, List.take, List.drop, List.nil_append, List.cons_append, List.append_nil, List.length_cons, List.length_nil, Nat.add_zero, Nat.zero_add, Nat.reduceAdd]); rfl)) ?_
    rintro _ _ rfl
    refine RL.nil ?_
    refine N.next ?_
    refine W.keep (.cons (k := 1) rfl (.cons (k := 2) rfl (.cons (k := 3) rfl (.cons (k := 9) rfl .nil)))) (.cons (k := 0) rfl (.cons (k := 1) rfl (.cons (k := 110) rfl (.cons (k := 160) rfl (.cons (k := 161) rfl (.cons (k := 162) rfl .nil)))))) ?_
    refine W.seq ?_
    refine W.region ?_
    refine RL.q (Yld.move rfl) rfl ?_
    refine RL.e (Eff.call ent37 [160, 161] [160, 161] (.cons rfl .nil) (llast_ct lb l hLd.ok _ _ _ hOl) rfl rfl rfl rfl (by rintro _ _ ⟨_, rfl⟩; rfl)) rfl ?_
    rintro _ _ ⟨_, ⟨rfl, rfl⟩, rfl⟩
    rw [hla1, hla2]
    refine RL.q (Yld.move rfl) rfl ?_
    refine RL.q (Yld.extract rfl rfl) rfl ?_
    refine RL.q (Yld.extract rfl rfl) rfl ?_
    refine RL.q (Yld.assign rfl) rfl ?_
    refine RL.q (Yld.assign rfl) rfl ?_
    refine RL.nil ?_
    refine N.next ?_
    refine W.keep (.cons (k := 1) rfl (.cons (k := 2) rfl (.cons (k := 3) rfl (.cons (k := 9) rfl (.cons (k := 11) rfl (.cons (k := 12) rfl .nil)))))) (.cons (k := 0) rfl (.cons (k := 1) rfl (.cons (k := 110) rfl (.cons (k := 160) rfl (.cons (k := 161) rfl (.cons (k := 162) rfl .nil)))))) ?_
    refine W.seq ?_
    refine W.imp (Imp.empty _ 171) ?_
    refine W.region ?_
    refine RL.e (Eff.call ent38 [] [170] (.cons rfl (.cons rfl .nil)) (lnew_ct 0 1) rfl rfl rfl rfl (by rintro _ _ ⟨_, _, rfl⟩; rfl)) rfl ?_
    rintro _ _ ⟨_, ⟨mb, rfl, rfl⟩, rfl⟩
    refine RL.q (Yld.assign rfl) rfl ?_
    refine RL.nil ?_
    refine N.next ?_
    refine W.seq ?_
    refine W.seq ?_
    refine W.region ?_
    refine RL.q (Yld.move rfl) rfl ?_
    refine RL.q (Yld.lenSl Try.underlying38 rfl) rfl ?_
    refine RL.q (Yld.move rfl) rfl ?_
    refine RL.nil ?_
    refine N.next ?_
    refine W.block ?_
    refine W.loopK (ι := CaI) (fun x => (x.j ≤ os.length ∧ Own x.H x.p x.c 82 15 (x.es.map En.c) ∧ ((x.j = 0 ∧ x.es = []) ∨ (1 ≤ x.j ∧ x.es.length ≤ 12 + x.j ∧ (fg x.es).last.2 ≤ T l.es.length + 1 + (x.j : Nat) / 3 ∧ ∃ k, Fw l T k x.es)))) (fun x => [(50, .int .i64 (x.j : Nat))]) (fun x => [(170, single mb (.cells [.int .i64 0, .int .i64 1, .slice x.p x.es.length x.c].toArray 112 (0, 0))), (171, x.H)]) (fun x => os.length - x.j) (.cons (k := 2) rfl (.cons (k := 3) rfl (.cons (k := 9) rfl (.cons (k := 11) rfl (.cons (k := 12) rfl (.cons (k := 13) rfl (.cons (k := 48) rfl (.cons (k := 49) rfl .nil)))))))) (.cons (k := 0) rfl (.cons (k := 1) rfl (.cons (k := 110) rfl (.cons (k := 160) rfl (.cons (k := 161) rfl (.cons (k := 162) rfl .nil)))))) ⟨0, emp, none, 0, []⟩ ?_ ?_ ?_ ?_
    · exact ⟨Nat.zero_le _, Own.nil _ _, .inl ⟨rfl, rfl⟩⟩
    · exact (.as rfl (by first | rfl | (simp; done) | (congr 1; simp; done) | (congr 1; omega)) .nil)
    · exact (.cons rfl (.cons rfl .nil))
    rintro x ⟨hi, hO, hcase⟩
    refine W.keep (.cons (k := 50) rfl (.cons (k := 2) rfl (.cons (k := 3) rfl (.cons (k := 9) rfl (.cons (k := 11) rfl (.cons (k := 12) rfl (.cons (k := 13) rfl (.cons (k := 48) rfl (.cons (k := 49) rfl .nil))))))))) (.cons (k := 170) rfl (.cons (k := 171) rfl (.cons (k := 0) rfl (.cons (k := 1) rfl (.cons (k := 110) rfl (.cons (k := 160) rfl (.cons (k := 161) rfl (.cons (k := 162) rfl .nil)))))))) ?_
    refine W.seq ?_
    refine W.region ?_
    refine RL.q (Yld.bin rfl rfl BinV.lss) rfl ?_
    refine RL.nil ?_
    refine N.next ?_
    refine W.seq ?_
    first | refine W.condD rfl (fun hc51 => ?_) (fun hc51 => ?_) | (refine W.cond rfl (fun hc51 => ?_) (fun hc51 => ?_) <;> try simp only [Bool.or_eq_true, Bool.and_eq_true, Bool.not_eq_true', Bool.not_eq_false', decide_eq_true_eq, Bool.or_eq_false_iff, Bool.and_eq_false_iff, decide_eq_false_iff_not, beq_iff_eq, beq_eq_false_iff_ne, ne_eq, Decidable.not_not] at hc51)
    ·
      obtain ⟨b, hb⟩ : ∃ b, os[x.j]? = some b := ⟨_, List.getElem?_eq_getElem (show x.j < os.length by omega)⟩
      have hlb : (by8 os)[x.j]? = some [.int .u8 b] := by simp [by8, hb]
      have hbb := hos b (List.mem_of_getElem? hb)
      refine W.skip ?_
      refine N.next ?_
      refine W.seq ?_
      refine W.block ?_
      refine W.seq ?_
      refine W.region ?_
      refine RL.q (Yld.move rfl) rfl ?_
      refine RL.q (Yld.indexRow Try.underlying38 sz5 rfl rfl (by first | assumption | exact Own.sl (by assumption)) (by first | rfl | omega | (simp; done) | (simp; omega)) (by omega) (by first | omega | (simp; done) | (simp; omega))) rfl ?_
      refine RL.q (by first | exact (by first | exact Yld.loadRow1 (cl := 1) Try.underlying5 rfl rfl rfl (by first | assumption | exact Own.sl (by assumption)) (by assumption) | exact Yld.loadRow1 (cl := 110) Try.underlying5 rfl rfl rfl (by first | assumption | exact Own.sl (by assumption)) (by assumption) | exact Yld.loadRow1 (cl := 160) Try.underlying5 rfl rfl rfl (by first | assumption | exact Own.sl (by assumption)) (by assumption) | exact Yld.loadRow1 (cl := 161) Try.underlying5 rfl rfl rfl (by first | assumption | exact Own.sl (by assumption)) (by assumption) | exact Yld.loadRow1 (cl := 162) Try.underlying5 rfl rfl rfl (by first | assumption | exact Own.sl (by assumption)) (by assumption) | exact Yld.loadRow1 (cl := 170) Try.underlying5 rfl rfl rfl (by first | assumption | exact Own.sl (by assumption)) (by assumption) | exact Yld.loadRow1 (cl := 171) Try.underlying5 rfl rfl rfl (by first | assumption | exact Own.sl (by assumption)) (by assumption)) | exact (by first | exact Yld.loadRowF (cl := 1) (j := 0) Try.underlying5 rfl rfl rfl (by first | assumption | exact Own.sl (by assumption)) (by assumption) rfl | exact Yld.loadRowF (cl := 110) (j := 0) Try.underlying5 rfl rfl rfl (by first | assumption | exact Own.sl (by assumption)) (by assumption) rfl | exact Yld.loadRowF (cl := 160) (j := 0) Try.underlying5 rfl rfl rfl (by first | assumption | exact Own.sl (by assumption)) (by assumption) rfl | exact Yld.loadRowF (cl := 161) (j := 0) Try.underlying5 rfl rfl rfl (by first | assumption | exact Own.sl (by assumption)) (by assumption) rfl | exact Yld.loadRowF (cl := 162) (j := 0) Try.underlying5 rfl rfl rfl (by first | assumption | exact Own.sl (by assumption)) (by assumption) rfl | exact Yld.loadRowF (cl := 170) (j := 0) Try.underlying5 rfl rfl rfl (by first | assumption | exact Own.sl (by assumption)) (by assumption) rfl | exact Yld.loadRowF (cl := 171) (j := 0) Try.underlying5 rfl rfl rfl (by first | assumption | exact Own.sl (by assumption)) (by assumption) rfl)) rfl ?_
      refine RL.q (Yld.assign rfl) rfl ?_
      refine RL.q (Yld.assign rfl) rfl ?_
      refine RL.nil ?_
      refine N.next ?_
      refine W.keep (.cons (k := 2) rfl (.cons (k := 3) rfl (.cons (k := 9) rfl (.cons (k := 11) rfl (.cons (k := 12) rfl (.cons (k := 13) rfl (.cons (k := 14) rfl (.cons (k := 15) rfl (.cons (k := 48) rfl (.cons (k := 49) rfl (.cons (k := 50) rfl .nil))))))))))) (.cons (k := 0) rfl (.cons (k := 1) rfl (.cons (k := 110) rfl (.cons (k := 160) rfl (.cons (k := 161) rfl (.cons (k := 162) rfl (.cons (k := 170) rfl (.cons (k := 171) rfl .nil)))))))) ?_
      refine W.seq ?_
      refine W.seq ?_
      refine W.region ?_
      refine RL.q (Yld.move rfl) rfl ?_
      refine RL.q (Yld.bin rfl rfl BinV.eql) rfl ?_
      refine RL.nil ?_
      refine N.next ?_
      first | refine W.condD rfl (fun hc56 => ?_) (fun hc56 => ?_) | (refine W.cond rfl (fun hc56 => ?_) (fun hc56 => ?_) <;> try simp only [Bool.or_eq_true, Bool.and_eq_true, Bool.not_eq_true', Bool.not_eq_false', decide_eq_true_eq, Bool.or_eq_false_iff, Bool.and_eq_false_iff, decide_eq_false_iff_not, beq_iff_eq, beq_eq_false_iff_ne, ne_eq, Decidable.not_not] at hc56)
      ·
        have hx0 : x.es = [] := hcase.elim (fun h => h.2) (fun h => absurd h.1 (by omega))
        obtain ⟨k, hk, hkl⟩ : ∃ k : Nat, b % ((l.es.length : Int) + 1) = k ∧ k ≤ l.es.length := ⟨_, (Int.toNat_of_nonneg (Int.emod_nonneg _ (by omega))).symm, by have := Int.emod_lt_of_pos b (show (0 : Int) < (l.es.length : Int) + 1 by omega); omega⟩
        refine W.seq ?_
        refine W.seq ?_
        refine W.region ?_
        refine RL.q (Yld.move rfl) rfl ?_
        refine RL.q (Yld.move rfl) rfl ?_
        refine RL.q (Yld.convIs Try.underlying5 Try.underlying3 rfl (by first | exact IntWalk.i64_in _ ⟨by omega, by omega⟩ | rfl)) rfl ?_
        refine RL.q (Yld.move rfl) rfl ?_
        refine RL.q (Yld.bin rfl rfl (by first | exact BinV.add (by omega) (by omega) | exact BinV.addW)) rfl ?_
        refine RL.q (Yld.bin rfl rfl (by first | exact BinV.rem (by omega) (by omega) | exact BinV.remW (by omega))) rfl ?_
        refine RL.e (Eff.call ent39 [160, 161] [160, 161, 172] (.cons rfl (.cons rfl (.cons rfl .nil))) (lfrom_ct lb l hLd.ok _ _ _ hOl 0 (by omega) (by omega) (b % ((l.es.length : Int) + 1))) rfl rfl rfl rfl (by rintro _ _ ⟨_, _, _, _, _, rfl⟩; rfl)) rfl ?_
        rintro _ _ ⟨_, ⟨Hf, pf, cf, rfl, hOf, rfl⟩, rfl⟩
        rw [hk, fr0 hLd.ix (by omega), show ((k : Int)).toNat = k by omega] at hOf ⊢
        have hkt : (l.es.take k).length = k := by rw [List.length_take]; omega
        refine RL.q (Yld.lenSl Try.underlying40 rfl) rfl ?_
        refine RL.q (Yld.move rfl) rfl ?_
        refine RL.nil ?_
        refine N.next ?_
        refine W.keep (.cons (k := 2) rfl (.cons (k := 3) rfl (.cons (k := 9) rfl (.cons (k := 11) rfl (.cons (k := 12) rfl (.cons (k := 13) rfl (.cons (k := 48) rfl (.cons (k := 49) rfl (.cons (k := 50) rfl (.cons (k := 63) rfl (.cons (k := 64) rfl (.cons (k := 65) rfl .nil)))))))))))) (.cons (k := 0) rfl (.cons (k := 1) rfl (.cons (k := 110) rfl (.cons (k := 160) rfl (.cons (k := 161) rfl (.cons (k := 162) rfl (.cons (k := 170) rfl (.cons (k := 171) rfl (.cons (k := 172) rfl .nil))))))))) ?_
        refine W.block ?_
        refine W.loopK (ι := CaJ) (fun y => (y.q ≤ k ∧ Own y.H y.p y.c 82 15 ((l.es.take y.q).map En.c))) (fun y => [(65, .int .i64 (y.q : Nat))]) (fun y => [(170, single mb (.cells [.int .i64 0, .int .i64 1, .slice y.p (l.es.take y.q).length y.c].toArray 112 (0, 0))), (171, y.H)]) (fun y => k - y.q) (.cons (k := 2) rfl (.cons (k := 3) rfl (.cons (k := 9) rfl (.cons (k := 11) rfl (.cons (k := 12) rfl (.cons (k := 13) rfl (.cons (k := 48) rfl (.cons (k := 49) rfl (.cons (k := 50) rfl (.cons (k := 63) rfl (.cons (k := 64) rfl .nil))))))))))) (.cons (k := 0) rfl (.cons (k := 1) rfl (.cons (k := 110) rfl (.cons (k := 160) rfl (.cons (k := 161) rfl (.cons (k := 162) rfl (.cons (k := 172) rfl .nil))))))) ⟨0, x.H, x.p, x.c⟩ ?_ ?_ ?_ ?_
        · exact ⟨Nat.zero_le _, by rw [hx0] at hO; exact hO⟩
        · exact (.as rfl (by first | rfl | (simp; done) | (congr 1; simp; done) | (congr 1; omega)) .nil)
        · exact (.as rfl (by rw [hx0]; rfl) (.cons rfl .nil))
        rintro y ⟨hq, hOy⟩
        refine W.keep (.cons (k := 65) rfl (.cons (k := 2) rfl (.cons (k := 3) rfl (.cons (k := 9) rfl (.cons (k := 11) rfl (.cons (k := 12) rfl (.cons (k := 13) rfl (.cons (k := 48) rfl (.cons (k := 49) rfl (.cons (k := 50) rfl (.cons (k := 63) rfl (.cons (k := 64) rfl .nil)))))))))))) (.cons (k := 170) rfl (.cons (k := 171) rfl (.cons (k := 0) rfl (.cons (k := 1) rfl (.cons (k := 110) rfl (.cons (k := 160) rfl (.cons (k := 161) rfl (.cons (k := 162) rfl (.cons (k := 172) rfl .nil))))))))) ?_
        refine W.seq ?_
        refine W.region ?_
        refine RL.q (Yld.bin rfl rfl BinV.lss) rfl ?_
        refine RL.nil ?_
        refine N.next ?_
        refine W.seq ?_
        first | refine W.condD rfl (fun hc66 => ?_) (fun hc66 => ?_) | (refine W.cond rfl (fun hc66 => ?_) (fun hc66 => ?_) <;> try simp only [Bool.or_eq_true, Bool.and_eq_true, Bool.not_eq_true', Bool.not_eq_false', decide_eq_true_eq, Bool.or_eq_false_iff, Bool.and_eq_false_iff, decide_eq_false_iff_not, beq_iff_eq, beq_eq_false_iff_ne, ne_eq, Decidable.not_not] at hc66)
        ·
          obtain ⟨e, he⟩ : ∃ e, l.es[y.q]? = some e := ⟨_, List.getElem?_eq_getElem (by omega)⟩
          have hle : ((l.es.take k).map En.c)[y.q]? = some [.int .i64 e.ix, .int .i64 e.tm, .int .i64 0, .int .i64 e.cl, .int .i64 0, .string .empty, .int .i64 0, .int .i64 0, .int .i64 0, .int .i64 0, .slice none 0 0, .slice none 0 0, .slice none 0 0, .slice none 0 0, .slice none 0 0] := by rw [List.getElem?_map, List.getElem?_take, if_pos (by omega), he]; rfl
          refine W.skip ?_
          refine N.next ?_
          refine W.seq ?_
          refine W.block ?_
          refine W.seq ?_
          refine W.region ?_
          refine RL.q (Yld.indexRow Try.underlying40 sz82 rfl rfl (by first | assumption | exact Own.sl (by assumption)) (by first | rfl | omega | (simp; done) | (simp; omega)) (by omega) (by first | omega | (simp; done) | (simp; omega))) rfl ?_
          refine RL.q (by first | exact Yld.loadRow (cl := 1) Try.underlying82 rfl sz82 rfl rfl (by first | assumption | exact Own.sl (by assumption)) (by assumption) | exact Yld.loadRow (cl := 110) Try.underlying82 rfl sz82 rfl rfl (by first | assumption | exact Own.sl (by assumption)) (by assumption) | exact Yld.loadRow (cl := 160) Try.underlying82 rfl sz82 rfl rfl (by first | assumption | exact Own.sl (by assumption)) (by assumption) | exact Yld.loadRow (cl := 161) Try.underlying82 rfl sz82 rfl rfl (by first | assumption | exact Own.sl (by assumption)) (by assumption) | exact Yld.loadRow (cl := 162) Try.underlying82 rfl sz82 rfl rfl (by first | assumption | exact Own.sl (by assumption)) (by assumption) | exact Yld.loadRow (cl := 172) Try.underlying82 rfl sz82 rfl rfl (by first | assumption | exact Own.sl (by assumption)) (by assumption) | exact Yld.loadRow (cl := 170) Try.underlying82 rfl sz82 rfl rfl (by first | assumption | exact Own.sl (by assumption)) (by assumption) | exact Yld.loadRow (cl := 171) Try.underlying82 rfl sz82 rfl rfl (by first | assumption | exact Own.sl (by assumption)) (by assumption)) rfl ?_
          refine RL.e (Eff.alloc 117 zc82) rfl ?_
          rintro _ _ ⟨b17, rfl, rfl⟩
          refine RL.e0 (Eff.storeS (c := 117) _ sz82 rfl rfl rfl rfl rfl rfl rfl (by (try simp only [putAt, List.take, List.drop, List.nil_append, List.cons_append, List.append_nil, List.length_cons, List.length_nil, Nat.add_zero, Nat.zero_add, Nat.reduceAdd]); rfl)) ?_
          rintro _ _ rfl
          refine RL.nil ?_
          refine N.next ?_
          refine W.region ?_
          refine RL.q (Yld.move rfl) rfl ?_
          refine RL.q (Yld.fieldAddr fo82_1 rfl) rfl ?_
          refine RL.q (Yld.load1 (c := 117) Try.underlying3 rfl rfl rfl (by first | exact single_self _ _ | exact pset_self _ _ _ | assumption) rfl) rfl ?_
          refine RL.q (Yld.fieldAddr fo82_2 rfl) rfl ?_
          refine RL.q (Yld.loadA (c := 117) Try.underlying80 rfl sz80 rfl rfl (by first | exact single_self _ _ | exact pset_self _ _ _ | assumption) rfl rfl) rfl ?_
          refine RL.e (Eff.buildSlice 174 Try.underlying101 sz80 zc80 rfl rfl (.cons rfl rfl .nil) rfl) rfl ?_
          rintro _ _ ⟨b74, rfl, rfl⟩
          refine RL.e (Eff.call ent40 [170, 171, 174] [170, 171, 174, 185] (.cons rfl (.cons rfl (.cons rfl .nil))) (lappend_ct mb (fg (l.es.take y.q)) (Fw.of_take hLd (show y.q ≤ l.es.length by omega)).ok _ _ _ hOy (by show (l.es.take y.q).length < 1000; rw [List.length_take]; omega) e.tm e.cl (by rw [hLd.last_take (by omega), hLd.get _ _ he]; exact hLd.mono _) _ _ _ (cmd_single rfl)) rfl rfl rfl rfl (by rintro _ _ ⟨_, _, _, _, _, _, rfl⟩; rfl)) rfl ?_
          rintro _ _ ⟨_, ⟨Ha, pa, ca, Hr, ⟨pr, cr, rfl⟩, hOa, rfl⟩, rfl⟩
          refine RL.nil ?_
          refine N.block_normal ?_
          refine N.next ?_
          refine W.keep (.cons (k := 2) rfl (.cons (k := 3) rfl (.cons (k := 9) rfl (.cons (k := 11) rfl (.cons (k := 12) rfl (.cons (k := 13) rfl (.cons (k := 48) rfl (.cons (k := 49) rfl (.cons (k := 50) rfl (.cons (k := 63) rfl (.cons (k := 64) rfl (.cons (k := 65) rfl .nil)))))))))))) (.cons (k := 0) rfl (.cons (k := 1) rfl (.cons (k := 110) rfl (.cons (k := 117) rfl (.cons (k := 160) rfl (.cons (k := 161) rfl (.cons (k := 162) rfl (.cons (k := 170) rfl (.cons (k := 171) rfl (.cons (k := 172) rfl (.cons (k := 174) rfl (.cons (k := 185) rfl .nil)))))))))))) ?_
          refine W.region ?_
          refine RL.q (Yld.bin rfl rfl (by first | exact BinV.add (by omega) (by omega) | exact BinV.addW)) rfl ?_
          refine RL.q (Yld.move rfl) rfl ?_
          refine RL.nil ?_
          exact N.famK ⟨y.q + 1, Ha, pa, ca⟩ ⟨⟨by dsimp only; omega, by rw [hLd.put_take he] at hOa; exact hOa⟩, by dsimp only; omega⟩ (.as rfl (by first | rfl | (simp; done) | (congr 1; simp; done) | (congr 1; omega)) .nil) (.cons rfl (.cons rfl (.cons rfl (.cons rfl (.cons rfl (.cons rfl (.cons rfl (.cons rfl (.cons rfl (.cons rfl (.cons rfl .nil))))))))))) (.as rfl (by rw [hLd.put_take he]; rfl) (.cons rfl .nil)) (.cons rfl (.cons rfl (.cons rfl (.cons rfl (.cons rfl (.cons rfl (.cons rfl .nil)))))))
        ·
          have hyk : y.q = k := by omega
          refine W.exit ?_
          refine N.then_exit ?_
          refine N.then_exit ?_
          refine N.block_eq ?_
          refine N.next ?_
          refine W.keep (.cons (k := 2) rfl (.cons (k := 3) rfl (.cons (k := 9) rfl (.cons (k := 11) rfl (.cons (k := 12) rfl (.cons (k := 13) rfl (.cons (k := 48) rfl (.cons (k := 49) rfl (.cons (k := 50) rfl .nil))))))))) (.cons (k := 0) rfl (.cons (k := 1) rfl (.cons (k := 110) rfl (.cons (k := 160) rfl (.cons (k := 161) rfl (.cons (k := 162) rfl (.cons (k := 170) rfl (.cons (k := 171) rfl (.cons (k := 172) rfl .nil))))))))) ?_
          refine W.exit ?_
          refine N.then_exit ?_
          refine N.block_eq ?_
          refine N.next ?_
          refine W.region ?_
          refine RL.q (Yld.bin rfl rfl (by first | exact BinV.add (by omega) (by omega) | exact BinV.addW)) rfl ?_
          refine RL.q (Yld.move rfl) rfl ?_
          refine RL.nil ?_
          exact N.famK ⟨x.j + 1, y.H, y.p, y.c, l.es.take k⟩ ⟨⟨by dsimp only; omega, by rw [← hyk]; rw [hyk] at hOy ⊢; exact hOy, .inr ⟨by dsimp only; omega, by dsimp only; omega, by dsimp only; rw [hLd.last_take hkl]; have := hLd.le hkl; dsimp only; omega, k, Fw.of_take hLd hkl⟩⟩, by dsimp only; omega⟩ (.as rfl (by first | rfl | (simp; done) | (congr 1; simp; done) | (congr 1; omega)) .nil) (.cons rfl (.cons rfl (.cons rfl (.cons rfl (.cons rfl (.cons rfl (.cons rfl (.cons rfl .nil)))))))) (.as rfl (by rw [← hyk]) (.cons rfl .nil)) (.cons rfl (.cons rfl (.cons rfl (.cons rfl (.cons rfl (.cons rfl .nil))))))
      ·
        obtain ⟨hj1, hj2, hj3, kk, hF⟩ := hcase.resolve_left (fun h => by omega)
        refine W.skip ?_
        refine N.next ?_
        refine W.region ?_
        refine RL.q (Yld.move rfl) rfl ?_
        refine RL.q (Yld.move rfl) rfl ?_
        refine RL.q (Yld.bin rfl rfl (by first | exact BinV.add (by omega) (by omega) | exact BinV.addW)) rfl ?_
        refine RL.q (Yld.move rfl) rfl ?_
        refine RL.q (Yld.bin rfl rfl (by first | exact BinV.quo (by omega) (by omega) (by omega) | exact BinV.quoW (by omega))) rfl ?_
        refine RL.q (Yld.bin rfl rfl (by first | exact BinV.add (by omega) (by omega) | exact BinV.addW)) rfl ?_
        refine RL.q (Yld.move rfl) rfl ?_
        refine RL.q (Yld.bin rfl rfl (by first | exact BinV.add (by omega) (by omega) | exact BinV.addW)) rfl ?_
        refine RL.q (Yld.buildP lay80 (.cons rfl rfl .nil) rfl) rfl ?_
        refine RL.e (Eff.buildSlice 186 Try.underlying101 sz80 zc80 rfl rfl (.cons rfl rfl .nil) rfl) rfl ?_
        rintro _ _ ⟨b86, rfl, rfl⟩
        refine RL.e (Eff.call ent40 [170, 171, 186] [170, 171, 186, 185] (.cons rfl (.cons rfl (.cons rfl .nil))) (lappend_ct mb (fg x.es) hF.ok _ _ _ hO (by show x.es.length < 1000; omega) (T l.es.length + 1 + (x.j : Nat) / 3) (100 + (x.j : Nat)) (by omega) _ _ _ (cmd_single rfl)) rfl rfl rfl rfl (by rintro _ _ ⟨_, _, _, _, _, _, rfl⟩; rfl)) rfl ?_
        rintro _ _ ⟨_, ⟨Ha, pa, ca, Hr, ⟨pr, cr, rfl⟩, hOa, rfl⟩, rfl⟩
        refine RL.nil ?_
        refine N.block_normal ?_
        refine N.next ?_
        refine W.keep (.cons (k := 2) rfl (.cons (k := 3) rfl (.cons (k := 9) rfl (.cons (k := 11) rfl (.cons (k := 12) rfl (.cons (k := 13) rfl (.cons (k := 48) rfl (.cons (k := 49) rfl (.cons (k := 50) rfl .nil))))))))) (.cons (k := 0) rfl (.cons (k := 1) rfl (.cons (k := 110) rfl (.cons (k := 160) rfl (.cons (k := 161) rfl (.cons (k := 162) rfl (.cons (k := 170) rfl (.cons (k := 171) rfl (.cons (k := 185) rfl (.cons (k := 186) rfl .nil)))))))))) ?_
        refine W.region ?_
        refine RL.q (Yld.bin rfl rfl (by first | exact BinV.add (by omega) (by omega) | exact BinV.addW)) rfl ?_
        refine RL.q (Yld.move rfl) rfl ?_
        refine RL.nil ?_
        exact N.famK ⟨x.j + 1, Ha, pa, ca, ((fg x.es).put (T l.es.length + 1 + (x.j : Nat) / 3) (100 + (x.j : Nat))).es⟩ ⟨⟨by dsimp only; omega, hOa, .inr ⟨by dsimp only; omega, by show (x.es ++ [_]).length ≤ _; rw [List.length_append]; simp; omega, by show ((fg x.es).put _ _).last.2 ≤ _; rw [put_last]; dsimp only; omega, kk, hF.put (by omega) (by omega)⟩⟩, by dsimp only; omega⟩ (.as rfl (by first | rfl | (simp; done) | (congr 1; simp; done) | (congr 1; omega)) .nil) (.cons rfl (.cons rfl (.cons rfl (.cons rfl (.cons rfl (.cons rfl (.cons rfl (.cons rfl .nil)))))))) (.cons rfl (.cons rfl .nil)) (.cons rfl (.cons rfl (.cons rfl (.cons rfl (.cons rfl (.cons rfl .nil))))))
    ·
      have hend : x.j = os.length := by omega
      obtain ⟨kk, hF⟩ : ∃ k, Fw l T k x.es := hcase.elim (fun h => ⟨0, by rw [h.2]; exact Fw.of_take hLd (Nat.zero_le _)⟩) (fun h => h.2.2.2)
      refine W.exit ?_
      refine N.then_exit ?_
      refine N.then_exit ?_
      refine N.block_eq ?_
      refine N.next ?_
      refine W.keep (.cons (k := 2) rfl (.cons (k := 3) rfl (.cons (k := 9) rfl (.cons (k := 11) rfl (.cons (k := 13) rfl .nil))))) (.cons (k := 0) rfl (.cons (k := 1) rfl (.cons (k := 110) rfl (.cons (k := 160) rfl (.cons (k := 161) rfl (.cons (k := 162) rfl (.cons (k := 170) rfl (.cons (k := 171) rfl .nil)))))))) ?_
      refine W.seq ?_
      refine W.region ?_
      refine RL.q (Yld.move rfl) rfl ?_
      refine RL.e (Eff.buildSlice 190 Try.underlying22 sz3 zc3 rfl rfl (.cons rfl rfl .nil) rfl) rfl ?_
      rintro _ _ ⟨b90, rfl, rfl⟩
      refine RL.e (Eff.call ent11 [190] [190, 140, 141] (.cons rfl (.cons rfl (.cons rfl .nil))) (pnew_ct l.es.length (by omega) [2] _ _ _ (iz_single rfl)) rfl rfl rfl rfl (by rintro _ _ ⟨_, _, _, _, _, _, _, _, rfl⟩; rfl)) rfl ?_
      rintro _ _ ⟨_, ⟨bp, bm, es0, ck0, m0, rfl, hM0, hR0, rfl⟩, rfl⟩
      have hK0 : MOK (chg 1 (l.es.length : Int) [] [2]) := MOK.nil.chg (by omega) (by simp)
      rw [ms2 _ (by omega)] at hR0 hK0
      refine RL.q (Yld.assign rfl) rfl ?_
      refine RL.nil ?_
      refine N.next ?_
      refine W.seq ?_
      refine W.region ?_
      refine RL.q (Yld.move rfl) rfl ?_
      refine RL.q (Yld.move rfl) rfl ?_
      refine RL.q (Yld.convIs Try.underlying5 Try.underlying3 rfl (by first | exact IntWalk.i64_in _ ⟨by omega, by omega⟩ | rfl)) rfl ?_
      refine RL.e (Eff.call ent31 [140, 141] [140, 141] (.cons rfl (.cons rfl (.cons rfl .nil))) (preject_ct bp bm es0 ck0 m0 _ hM0 hR0 hK0 2 nx (by omega)) rfl rfl rfl rfl (by rintro _ _ ⟨_, _, _, _, _, _, rfl⟩; rfl)) rfl ?_
      rintro _ _ ⟨_, ⟨rfl, es1, ck1, m1, hM1, hR1, rfl⟩, rfl⟩
      have hK1 := hK0.rej (a := 2) (b := nx)
      rw [upd1 rfl] at hR1 hK1
      refine RL.nil ?_
      refine N.next ?_
      refine W.keep (.cons (k := 3) rfl (.cons (k := 9) rfl (.cons (k := 11) rfl (.cons (k := 13) rfl (.cons (k := 18) rfl .nil))))) (.cons (k := 0) rfl (.cons (k := 1) rfl (.cons (k := 110) rfl (.cons (k := 140) rfl (.cons (k := 141) rfl (.cons (k := 160) rfl (.cons (k := 161) rfl (.cons (k := 162) rfl (.cons (k := 170) rfl (.cons (k := 171) rfl (.cons (k := 190) rfl .nil))))))))))) ?_
      refine W.seq ?_
      refine W.seq ?_
      refine W.region ?_
      refine RL.q (Yld.assign rfl) rfl ?_
      refine RL.nil ?_
      refine N.next ?_
      refine W.block ?_
      refine W.loopK (ι := CaR) (fun w => (w.i ≤ 60 ∧ MapP (fun a : Int => Value.int .i64 a) w.es w.ck w.m ∧ MR w.m [w.x] ∧ MOK [w.x] ∧ Own w.H w.p w.c 82 15 (w.fes.map En.c) ∧ Rd l T w.i w.x w.k w.fes)) (fun w => [(19, .int .i64 (w.i : Nat))]) (fun w => [(141, single bm (.map w.es w.ck)), (170, single mb (.cells [.int .i64 0, .int .i64 1, .slice w.p w.fes.length w.c].toArray 112 (0, 0))), (171, w.H)]) (fun w => 60 - w.i) (.cons (k := 3) rfl (.cons (k := 9) rfl (.cons (k := 11) rfl (.cons (k := 13) rfl (.cons (k := 18) rfl .nil))))) (.cons (k := 0) rfl (.cons (k := 1) rfl (.cons (k := 110) rfl (.cons (k := 140) rfl (.cons (k := 160) rfl (.cons (k := 161) rfl (.cons (k := 162) rfl (.cons (k := 190) rfl .nil)))))))) ⟨0, es1, ck1, m1, rejM nx ⟨2, (l.es.length : Int) + 1, 0⟩, kk, x.es, x.H, x.p, x.c⟩ ?_ ?_ ?_ ?_
      · exact ⟨Nat.zero_le _, hM1, hR1, hK1, hO, ⟨hF, rfl, by simp only [rejM]; omega, by simp only [rejM]; omega, .inl ⟨rfl, by simp only [rejM]; omega⟩⟩⟩
      · exact (.as rfl (by first | rfl | (simp; done) | (congr 1; simp; done) | (congr 1; omega)) .nil)
      · exact (.cons rfl (.cons rfl (.cons rfl .nil)))
      rintro w ⟨hi60, hMw, hRw, hKw, hOw, hRd⟩
      refine W.keep (.cons (k := 19) rfl (.cons (k := 3) rfl (.cons (k := 9) rfl (.cons (k := 11) rfl (.cons (k := 13) rfl (.cons (k := 18) rfl .nil)))))) (.cons (k := 141) rfl (.cons (k := 170) rfl (.cons (k := 171) rfl (.cons (k := 0) rfl (.cons (k := 1) rfl (.cons (k := 110) rfl (.cons (k := 140) rfl (.cons (k := 160) rfl (.cons (k := 161) rfl (.cons (k := 162) rfl (.cons (k := 190) rfl .nil))))))))))) ?_
      refine W.seq ?_
      refine W.seq ?_
      refine W.region ?_
      refine RL.q (Yld.move rfl) rfl ?_
      refine RL.q (Yld.bin rfl rfl BinV.lss) rfl ?_
      refine RL.nil ?_
      refine N.next ?_
      first | refine W.condD rfl (fun hc97 => ?_) (fun hc97 => ?_) | (refine W.cond rfl (fun hc97 => ?_) (fun hc97 => ?_) <;> try simp only [Bool.or_eq_true, Bool.and_eq_true, Bool.not_eq_true', Bool.not_eq_false', decide_eq_true_eq, Bool.or_eq_false_iff, Bool.and_eq_false_iff, decide_eq_false_iff_not, beq_iff_eq, beq_eq_false_iff_ne, ne_eq, Decidable.not_not] at hc97)
      ·
        obtain ⟨pv, hpv⟩ : ∃ pv : Nat, w.x.nx = pv + 1 := ⟨(w.x.nx - 1).toNat, by have := hRd.n1; omega⟩
        have hpl : pv ≤ l.es.length := by have := hRd.n2; omega
        refine W.skip ?_
        refine N.next ?_
        refine W.seq ?_
        refine W.block ?_
        refine W.seq ?_
        refine W.region ?_
        refine RL.q (Yld.move rfl) rfl ?_
        refine RL.q (Yld.move rfl) rfl ?_
        refine RL.q (Yld.move rfl) rfl ?_
        refine RL.q (Yld.bin rfl rfl (by first | exact BinV.rem (by omega) (by omega) | exact BinV.remW (by omega))) rfl ?_
        refine RL.q (Yld.convIs Try.underlying5 Try.underlying3 rfl (by first | exact IntWalk.i64_in _ ⟨by omega, by omega⟩ | rfl)) rfl ?_
        refine RL.q (Yld.bin rfl rfl (by first | exact BinV.add (by omega) (by omega) | exact BinV.addW)) rfl ?_
        refine RL.e (Eff.call ent18 [140, 141, 160, 161] [140, 141, 160, 161, 180] (.cons rfl (.cons rfl (.cons rfl (.cons rfl .nil)))) (pbatch_ct bp bm w.es w.ck w.m [w.x] hMw hRw hKw lb l hLd.ok _ _ _ hOl 2 (1 + mo % 5)) rfl rfl rfl rfl (by rintro _ _ ⟨_, _, _, _, _, rfl⟩; rfl)) rfl ?_
        rintro _ _ ⟨_, ⟨Hb, pb, cb, rfl, hOb, rfl⟩, rfl⟩
        obtain ⟨c, hc1, hc2, e1, e2, e3, e4⟩ := hLd.batch hRd.r hpv hpl (show 1 ≤ 1 + mo % 5 by omega)
        rw [e3] at hOb
        rw [e1, e2, e3, e4]
        have hcl : ((l.es.drop pv).take c).length = c := by rw [List.length_take, List.length_drop]; omega
        refine RL.q (Yld.move rfl) rfl ?_
        refine RL.q (Yld.extract rfl rfl) rfl ?_
        refine RL.q (Yld.extract rfl rfl) rfl ?_
        refine RL.q (Yld.extract rfl rfl) rfl ?_
        refine RL.q (Yld.extract rfl rfl) rfl ?_
        refine RL.q (Yld.assign rfl) rfl ?_
        refine RL.q (Yld.assign rfl) rfl ?_
        refine RL.q (Yld.assign rfl) rfl ?_
        refine RL.q (Yld.assign rfl) rfl ?_
        refine RL.nil ?_
        refine N.next ?_
        refine W.keep (.cons (k := 3) rfl (.cons (k := 9) rfl (.cons (k := 11) rfl (.cons (k := 13) rfl (.cons (k := 18) rfl (.cons (k := 19) rfl (.cons (k := 20) rfl (.cons (k := 21) rfl (.cons (k := 22) rfl (.cons (k := 23) rfl .nil)))))))))) (.cons (k := 0) rfl (.cons (k := 1) rfl (.cons (k := 110) rfl (.cons (k := 140) rfl (.cons (k := 141) rfl (.cons (k := 160) rfl (.cons (k := 161) rfl (.cons (k := 162) rfl (.cons (k := 170) rfl (.cons (k := 171) rfl (.cons (k := 180) rfl (.cons (k := 190) rfl .nil)))))))))))) ?_
        refine W.seq ?_
        refine W.seq ?_
        refine W.region ?_
        refine RL.q (Yld.move rfl) rfl ?_
        refine RL.nil ?_
        refine N.next ?_
        first | (refine W.as (t := 112) rfl (boolF (by first | assumption | omega | (simp; done))) ?_; refine W.condF rfl ?_) | refine W.condF rfl ?_
        refine W.skip ?_
        refine N.next ?_
        refine W.seq ?_
        refine W.region ?_
        refine RL.q (Yld.move rfl) rfl ?_
        refine RL.q (Yld.move rfl) rfl ?_
        refine RL.q (Yld.move rfl) rfl ?_
        refine RL.q (Yld.move rfl) rfl ?_
        refine RL.e (Eff.call ent41 [170, 171, 180] [170, 171, 180, 181] (.cons rfl (.cons rfl (.cons rfl (.cons rfl .nil)))) (merge_ct mb (fg w.fes) hRd.fw.ok _ _ _ hOw ((l.es.drop pv).take c) _ _ _ hOb.sl pv (by omega) (by omega) (by omega) (fun i => T (pv + i)) (by have := hLd.le (Nat.zero_le pv); rw [hLd.t0] at this; show 0 ≤ T (pv + 0); rw [Nat.add_zero]; omega) (hLd.chain c)) rfl rfl rfl rfl (by rintro _ _ ⟨_, _, _, _, _, _, _, _, _, _, _, _, _, rfl⟩; rfl)) rfl ?_
        rintro _ _ ⟨_, ⟨r1, ok, es', Hm, pm, cm, Hr2, pr2, n2, cr2, rfl, hMg, hOm, rfl⟩, rfl⟩
        have hMg := hRd.fw.merge hLd hpl hc1 hMg
        refine RL.q (Yld.move rfl) rfl ?_
        refine RL.q (Yld.extract rfl rfl) rfl ?_
        refine RL.q (Yld.extract rfl rfl) rfl ?_
        refine RL.q (Yld.extract rfl rfl) rfl ?_
        refine RL.q (Yld.assign rfl) rfl ?_
        refine RL.q (Yld.assign rfl) rfl ?_
        refine RL.q (Yld.assign rfl) rfl ?_
        refine RL.nil ?_
        refine N.next ?_
        refine W.keep (.cons (k := 3) rfl (.cons (k := 9) rfl (.cons (k := 11) rfl (.cons (k := 13) rfl (.cons (k := 18) rfl (.cons (k := 19) rfl (.cons (k := 24) rfl (.cons (k := 26) rfl .nil)))))))) (.cons (k := 0) rfl (.cons (k := 1) rfl (.cons (k := 110) rfl (.cons (k := 140) rfl (.cons (k := 141) rfl (.cons (k := 160) rfl (.cons (k := 161) rfl (.cons (k := 162) rfl (.cons (k := 170) rfl (.cons (k := 171) rfl (.cons (k := 180) rfl (.cons (k := 181) rfl (.cons (k := 190) rfl .nil))))))))))))) ?_
        refine W.seq ?_
        refine W.seq ?_
        refine W.region ?_
        refine RL.q (Yld.move rfl) rfl ?_
        refine RL.q (by first | exact Yld.notD rfl | exact Yld.not rfl) rfl ?_
        refine RL.nil ?_
        refine N.next ?_
        rcases hMg with ⟨hk, rfl, rfl, rfl⟩ | ⟨hk, rfl, rfl, hF2⟩
        ·
          refine W.condT rfl ?_
          refine W.seq ?_
          refine W.seq ?_
          refine W.region ?_
          refine RL.q (Yld.move rfl) rfl ?_
          refine RL.q (Yld.move rfl) rfl ?_
          refine RL.e (Eff.call ent31 [140, 141] [140, 141] (.cons rfl (.cons rfl (.cons rfl .nil))) (preject_ct bp bm w.es w.ck w.m [w.x] hMw hRw hKw 2 (max 0 (min (w.fes.length : Int) ((pv : Int) - 1))) (by omega)) rfl rfl rfl rfl (by rintro _ _ ⟨_, _, _, _, _, _, rfl⟩; rfl)) rfl ?_
          rintro _ _ ⟨_, ⟨rfl, es2, ck2, m2, hM2, hR2, rfl⟩, rfl⟩
          have hK2 := hKw.rej (a := 2) (b := max 0 (min (w.fes.length : Int) ((pv : Int) - 1)))
          rw [upd1 hRd.r] at hR2 hK2
          have hfl := hRd.fail hpv hk
          refine RL.q (Yld.eq (v' := .bool false) (by first | exact Yld.notD rfl | exact Yld.not rfl) (by rw [fnd1 hRd.r]; simp [hfl.1])) rfl ?_
          refine RL.nil ?_
          refine N.next ?_
          refine W.keep (.cons (k := 3) rfl (.cons (k := 9) rfl (.cons (k := 11) rfl (.cons (k := 13) rfl (.cons (k := 18) rfl (.cons (k := 19) rfl (.cons (k := 127) rfl .nil))))))) (.cons (k := 0) rfl (.cons (k := 1) rfl (.cons (k := 110) rfl (.cons (k := 140) rfl (.cons (k := 141) rfl (.cons (k := 160) rfl (.cons (k := 161) rfl (.cons (k := 162) rfl (.cons (k := 170) rfl (.cons (k := 171) rfl (.cons (k := 180) rfl (.cons (k := 181) rfl (.cons (k := 190) rfl .nil))))))))))))) ?_
          first | (refine W.as (t := 127) rfl (boolF (by first | assumption | omega | (simp; done))) ?_; refine W.condF rfl ?_) | refine W.condF rfl ?_
          refine W.skip ?_
          refine N.next ?_
          refine W.exit ?_
          refine N.then_exit ?_
          refine N.block_eq ?_
          refine N.next ?_
          refine W.region ?_
          refine RL.q (Yld.move rfl) rfl ?_
          refine RL.q (Yld.bin rfl rfl (by first | exact BinV.add (by omega) (by omega) | exact BinV.addW)) rfl ?_
          refine RL.q (Yld.assign rfl) rfl ?_
          refine RL.nil ?_
          exact N.famK ⟨w.i + 1, es2, ck2, m2, rejM (max 0 (min (w.fes.length : Int) ((pv : Int) - 1))) w.x, w.k, w.fes, Hm, pm, cm⟩ ⟨⟨by dsimp only; omega, hM2, hR2, hK2, hOm, hfl.2⟩, by dsimp only; omega⟩ (.as rfl (by first | rfl | (simp; done) | (congr 1; simp; done) | (congr 1; omega)) .nil) (.cons rfl (.cons rfl (.cons rfl (.cons rfl (.cons rfl .nil))))) (.cons rfl (.cons rfl (.cons rfl .nil))) (.cons rfl (.cons rfl (.cons rfl (.cons rfl (.cons rfl (.cons rfl (.cons rfl (.cons rfl .nil))))))))
        ·
          refine W.condF rfl ?_
          refine W.skip ?_
          refine N.next ?_
          refine W.seq ?_
          refine W.region ?_
          refine RL.q (Yld.move rfl) rfl ?_
          refine RL.q (Yld.move rfl) rfl ?_
          refine RL.e (Eff.call ent30 [140, 141] [140, 141] (.cons rfl (.cons rfl (.cons rfl .nil))) (paccept_ct bp bm w.es w.ck w.m [w.x] hMw hRw hKw 2 ((pv : Int) + c) (by omega)) rfl rfl rfl rfl (by rintro _ _ ⟨_, _, _, _, _, _, rfl⟩; rfl)) rfl ?_
          rintro _ _ ⟨_, ⟨rfl, es2, ck2, m2, hM2, hR2, rfl⟩, rfl⟩
          have hK2 := hKw.acc (a := 2) (b := (pv : Int) + c) (by omega)
          rw [upd1 hRd.r] at hR2 hK2
          have hgd := hRd.good hpv hk hc1 hc2 hF2
          refine RL.nil ?_
          refine N.next ?_
          refine W.keep (.cons (k := 3) rfl (.cons (k := 9) rfl (.cons (k := 11) rfl (.cons (k := 13) rfl (.cons (k := 18) rfl (.cons (k := 19) rfl (.cons (k := 24) rfl .nil))))))) (.cons (k := 0) rfl (.cons (k := 1) rfl (.cons (k := 110) rfl (.cons (k := 140) rfl (.cons (k := 141) rfl (.cons (k := 160) rfl (.cons (k := 161) rfl (.cons (k := 162) rfl (.cons (k := 170) rfl (.cons (k := 171) rfl (.cons (k := 180) rfl (.cons (k := 181) rfl (.cons (k := 190) rfl .nil))))))))))))) ?_
          refine W.seq ?_
          refine W.region ?_
          refine RL.q (Yld.move rfl) rfl ?_
          refine RL.q (Yld.move rfl) rfl ?_
          refine RL.q (Yld.bin rfl rfl BinV.eql) rfl ?_
          refine RL.nil ?_
          refine N.next ?_
          first | refine W.condD rfl (fun hc133 => ?_) (fun hc133 => ?_) | (refine W.cond rfl (fun hc133 => ?_) (fun hc133 => ?_) <;> try simp only [Bool.or_eq_true, Bool.and_eq_true, Bool.not_eq_true', Bool.not_eq_false', decide_eq_true_eq, Bool.or_eq_false_iff, Bool.and_eq_false_iff, decide_eq_false_iff_not, beq_iff_eq, beq_eq_false_iff_ne, ne_eq, Decidable.not_not] at hc133)
          ·
            obtain ⟨g1, g2, hF3⟩ := hgd.1 (by omega)
            have hr2 : (accM ((pv : Int) + c) w.x).r = 2 := hRd.r
            have hmt : ((fnd [accM ((pv : Int) + c) w.x] 2).map (·.mt)).getD 0 = (l.es.length : Int) := by rw [fnd1 hr2]; exact g1
            have hnt : ((fnd [accM ((pv : Int) + c) w.x] 2).map (·.nx)).getD 0 = (l.es.length : Int) + 1 := by rw [fnd1 hr2]; exact g2
            refine W.exit ?_
            refine N.block_ne rfl ?_
            refine N.then_exit ?_
            refine N.then_exit ?_
            refine N.block_eq ?_
            refine N.next ?_
            refine W.keep (.cons (k := 9) rfl (.cons (k := 11) rfl (.cons (k := 13) rfl (.cons (k := 18) rfl .nil)))) (.cons (k := 0) rfl (.cons (k := 1) rfl (.cons (k := 110) rfl (.cons (k := 140) rfl (.cons (k := 141) rfl (.cons (k := 160) rfl (.cons (k := 161) rfl (.cons (k := 162) rfl (.cons (k := 170) rfl (.cons (k := 171) rfl (.cons (k := 180) rfl (.cons (k := 181) rfl (.cons (k := 190) rfl .nil))))))))))))) ?_
            refine W.seq ?_
            refine W.seq ?_
            refine W.region ?_
            refine RL.q (Yld.move rfl) rfl ?_
            refine RL.e (Eff.call ent26 [140, 141] [140, 141] (.cons rfl (.cons rfl .nil)) (pmatch_ct bp bm es2 ck2 m2 _ hM2 hR2 hK2 2) rfl rfl rfl rfl (by rintro _ _ ⟨_, rfl⟩; rfl)) rfl ?_
            rintro _ _ ⟨_, ⟨rfl, rfl⟩, rfl⟩
            rw [hmt]
            refine RL.q (Yld.move rfl) rfl ?_
            refine RL.q (Yld.bin rfl rfl BinV.neq) rfl ?_
            refine RL.q (Yld.move rfl) rfl ?_
            refine' RL.or (t := 138) (d := 144) 6 rfl (.cons (k := 9) rfl (.cons (k := 11) rfl (.cons (k := 13) rfl (.cons (k := 18) rfl (.cons (k := 134) rfl (.cons (k := 135) rfl (.cons (k := 136) rfl (.cons (k := 137) rfl .nil)))))))) (.cons (k := 0) rfl (.cons (k := 1) rfl (.cons (k := 110) rfl (.cons (k := 140) rfl (.cons (k := 141) rfl (.cons (k := 160) rfl (.cons (k := 161) rfl (.cons (k := 162) rfl (.cons (k := 170) rfl (.cons (k := 171) rfl (.cons (k := 180) rfl (.cons (k := 181) rfl (.cons (k := 190) rfl .nil))))))))))))) ?_ ?_ ?_
            rotate_left 1
            ·
              intro hg138
              refine RL.gq rfl rfl (Yld.move rfl) rfl ?_
              refine RL.ge rfl rfl (Eff.call ent29 [140, 141] [140, 141] (.cons rfl (.cons rfl .nil)) (pnext_ct bp bm es2 ck2 m2 _ hM2 hR2 hK2 2) rfl rfl rfl rfl (by rintro _ _ ⟨_, rfl⟩; rfl)) rfl ?_
              rintro _ _ ⟨_, ⟨rfl, rfl⟩, rfl⟩
              rw [hnt]
              refine RL.gq rfl rfl (Yld.move rfl) rfl ?_
              refine RL.gq rfl rfl (Yld.bin rfl rfl (by first | exact BinV.add (by omega) (by omega) | exact BinV.addW)) rfl ?_
              refine RL.gq rfl rfl (Yld.bin rfl rfl BinV.neq) rfl ?_
              refine RL.q (by first | exact Yld.pickT rfl rfl | exact Yld.pickF rfl rfl) rfl ?_
              exact RL.nil (N.meet (.cons rfl (.cons rfl (.cons rfl (.cons rfl (.cons rfl (.cons rfl (.cons rfl (.cons rfl (.cons rfl .nil))))))))) (.cons rfl (.cons rfl (.cons rfl (.cons rfl (.cons rfl (.cons rfl (.cons rfl (.cons rfl (.cons rfl (.cons rfl (.cons rfl (.cons rfl (.cons rfl .nil))))))))))))))
            ·
              intro hg138
              refine RL.gskip rfl rfl rfl rfl ?_
              refine RL.gskip rfl rfl rfl rfl ?_
              refine RL.gskip rfl rfl rfl rfl ?_
              refine RL.gskip rfl rfl rfl rfl ?_
              refine RL.gskip rfl rfl rfl rfl ?_
              refine RL.q (by first | exact Yld.pickT rfl rfl | exact Yld.pickF rfl rfl) rfl ?_
              exact RL.nil (N.meet (.cons rfl (.cons rfl (.cons rfl (.cons rfl (.cons rfl (.cons rfl (.cons rfl (.cons rfl (.cons rfl .nil))))))))) (.cons rfl (.cons rfl (.cons rfl (.cons rfl (.cons rfl (.cons rfl (.cons rfl (.cons rfl (.cons rfl (.cons rfl (.cons rfl (.cons rfl (.cons rfl .nil))))))))))))))
            refine RL.nil ?_
            refine N.next ?_
            refine W.keep (.cons (k := 9) rfl (.cons (k := 11) rfl (.cons (k := 13) rfl (.cons (k := 144) rfl .nil)))) (.cons (k := 0) rfl (.cons (k := 1) rfl (.cons (k := 110) rfl (.cons (k := 140) rfl (.cons (k := 141) rfl (.cons (k := 160) rfl (.cons (k := 161) rfl (.cons (k := 162) rfl (.cons (k := 170) rfl (.cons (k := 171) rfl (.cons (k := 180) rfl (.cons (k := 181) rfl (.cons (k := 190) rfl .nil))))))))))))) ?_
            refine W.cond rfl (fun hc144 => ?_) (fun hc144 => ?_)
            ·
              exfalso
              simp at hc144 --stop
            ·
              refine W.skip ?_
              refine N.next ?_
              refine W.seq ?_
              refine W.region ?_
              refine RL.q (Yld.move rfl) rfl ?_
              refine RL.e (Eff.call ent39 [160, 161] [160, 161, 182] (.cons rfl (.cons rfl (.cons rfl .nil))) (lfrom_ct lb l hLd.ok _ _ _ hOl 0 (by omega) (by omega) 100) rfl rfl rfl rfl (by rintro _ _ ⟨_, _, _, _, _, rfl⟩; rfl)) rfl ?_
              rintro _ _ ⟨_, ⟨Hf, pf, cf, rfl, hOf, rfl⟩, rfl⟩
              rw [fr0 hLd.ix (by omega)] at hOf ⊢
              refine RL.q (Yld.move rfl) rfl ?_
              refine RL.q (Yld.move rfl) rfl ?_
              refine RL.e (Eff.call ent39 [170, 171] [170, 171, 183] (.cons rfl (.cons rfl (.cons rfl .nil))) (lfrom_ct mb (fg es') hF3.ok _ _ _ hOm 0 (by omega) (by omega) l.es.length) rfl rfl rfl rfl (by rintro _ _ ⟨_, _, _, _, _, rfl⟩; rfl)) rfl ?_
              rintro _ _ ⟨_, ⟨Hg, pg, cg, rfl, hOg, rfl⟩, rfl⟩
              rw [fr0 rfl (by omega)] at hOg ⊢
              refine RL.e (Eff.call ent20 [182, 183] [182, 183] (.cons rfl (.cons rfl .nil)) (sameE_ct _ _ _ _ hOf.sl _ _ _ _ hOg.sl) rfl rfl rfl rfl (by rintro _ _ ⟨_, rfl⟩; rfl)) rfl ?_
              rintro _ _ ⟨_, ⟨rfl, rfl⟩, rfl⟩
              refine RL.q (Yld.assign rfl) rfl ?_
              refine RL.nil ?_
              refine N.next ?_
              refine W.keep (.cons (k := 8) rfl .nil) (.cons (k := 0) rfl (.cons (k := 1) rfl (.cons (k := 110) rfl (.cons (k := 140) rfl (.cons (k := 141) rfl (.cons (k := 160) rfl (.cons (k := 161) rfl (.cons (k := 162) rfl (.cons (k := 170) rfl (.cons (k := 171) rfl (.cons (k := 180) rfl (.cons (k := 181) rfl (.cons (k := 182) rfl (.cons (k := 183) rfl (.cons (k := 190) rfl .nil))))))))))))))) ?_
              refine W.ret ?_
              exact N.retBy [1] (.cons (.tmp rfl) .nil) rfl rfl rfl rfl ⟨by rw [decide_eq_true (by rw [show (100 : Int).toNat = 100 from rfl, List.take_of_length_le (by omega)]; have := hF3.pre; rw [List.take_length] at this; show l.es = es'.take _; rw [show ((l.es.length : Nat) : Int).toNat = l.es.length by omega, this])]; rfl, rfl⟩
          ·
            refine W.skip ?_
            refine N.block_normal ?_
            refine N.next ?_
            refine W.keep (.cons (k := 3) rfl (.cons (k := 9) rfl (.cons (k := 11) rfl (.cons (k := 13) rfl (.cons (k := 18) rfl (.cons (k := 19) rfl .nil)))))) (.cons (k := 0) rfl (.cons (k := 1) rfl (.cons (k := 110) rfl (.cons (k := 140) rfl (.cons (k := 141) rfl (.cons (k := 160) rfl (.cons (k := 161) rfl (.cons (k := 162) rfl (.cons (k := 170) rfl (.cons (k := 171) rfl (.cons (k := 180) rfl (.cons (k := 181) rfl (.cons (k := 190) rfl .nil))))))))))))) ?_
            refine W.region ?_
            refine RL.q (Yld.move rfl) rfl ?_
            refine RL.q (Yld.bin rfl rfl (by first | exact BinV.add (by omega) (by omega) | exact BinV.addW)) rfl ?_
            refine RL.q (Yld.assign rfl) rfl ?_
            refine RL.nil ?_
            exact N.famK ⟨w.i + 1, es2, ck2, m2, accM ((pv : Int) + c) w.x, max w.k (pv + c), es', Hm, pm, cm⟩ ⟨⟨by dsimp only; omega, hM2, hR2, hK2, hOm, hgd.2 (by omega)⟩, by dsimp only; omega⟩ (.as rfl (by first | rfl | (simp; done) | (congr 1; simp; done) | (congr 1; omega)) .nil) (.cons rfl (.cons rfl (.cons rfl (.cons rfl (.cons rfl .nil))))) (.cons rfl (.cons rfl (.cons rfl .nil))) (.cons rfl (.cons rfl (.cons rfl (.cons rfl (.cons rfl (.cons rfl (.cons rfl (.cons rfl .nil))))))))
      ·
        exfalso
        have := hRd.lt hLd
        omega --stop

end Go.Proofs.Ytdkefpnebmmhlaa
